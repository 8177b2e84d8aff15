/- Contracts of functions of the program, and what proves them (texts: BCr6). -/
import Derived.KernelRfl
import Derived.Test.YtaidcaemdkncgaaGreatDoorZBE
set_option linter.all false
set_option maxRecDepth 100000
set_option maxHeartbeats 8000000
namespace Go.Proofs.YtaidcaemdkncgaaGreatDoor
open Go Go.Lg Go.Num
theorem bc_47_0 : pB 47 0 15 = true := by kernel_rfl
theorem bc_47_1 : pB 47 15 15 = true := by kernel_rfl
theorem bc_47_2 : pB 47 30 15 = true := by kernel_rfl
theorem bc_47_3 : pB 47 45 15 = true := by kernel_rfl
theorem bc_47 : (prodN (od 47)).all (chkBC 47) = true := pJ 47 15 4 (by decide +kernel) ⟨bc_47_0,bc_47_1,bc_47_2,bc_47_3,trivial⟩
theorem bc_58_0 : pB 58 0 15 = true := by kernel_rfl
theorem bc_58_1 : pB 58 15 15 = true := by kernel_rfl
theorem bc_58 : (prodN (od 58)).all (chkBC 58) = true := pJ 58 15 2 (by decide +kernel) ⟨bc_58_0,bc_58_1,trivial⟩
theorem bc_35_0 : pB 35 0 15 = true := by kernel_rfl
theorem bc_35_1 : pB 35 15 15 = true := by kernel_rfl
theorem bc_35 : (prodN (od 35)).all (chkBC 35) = true := pJ 35 15 2 (by decide +kernel) ⟨bc_35_0,bc_35_1,trivial⟩
theorem bc_36_0 : pB 36 0 15 = true := by kernel_rfl
theorem bc_36 : (prodN (od 36)).all (chkBC 36) = true := pJ 36 15 1 (by decide +kernel) ⟨bc_36_0,trivial⟩
theorem bc_19_0 : pB 19 0 15 = true := by kernel_rfl
theorem bc_19_1 : pB 19 15 15 = true := by kernel_rfl
theorem bc_19 : (prodN (od 19)).all (chkBC 19) = true := pJ 19 15 2 (by decide +kernel) ⟨bc_19_0,bc_19_1,trivial⟩
theorem bc_20_0 : pB 20 0 15 = true := by kernel_rfl
theorem bc_20 : (prodN (od 20)).all (chkBC 20) = true := pJ 20 15 1 (by decide +kernel) ⟨bc_20_0,trivial⟩
theorem bc_14_0 : pB 14 0 15 = true := by kernel_rfl
theorem bc_14 : (prodN (od 14)).all (chkBC 14) = true := pJ 14 15 1 (by decide +kernel) ⟨bc_14_0,trivial⟩
end Go.Proofs.YtaidcaemdkncgaaGreatDoor