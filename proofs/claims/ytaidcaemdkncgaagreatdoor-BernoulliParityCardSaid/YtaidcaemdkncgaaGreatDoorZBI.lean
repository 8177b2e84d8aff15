/- Contracts of functions of the program, and what proves them (texts: BCr4). -/
import Derived.KernelRfl
import Derived.Test.YtaidcaemdkncgaaGreatDoorZBE
set_option linter.all false
set_option maxRecDepth 100000
set_option maxHeartbeats 8000000
namespace Go.Proofs.YtaidcaemdkncgaaGreatDoor
open Go Go.Lg Go.Num
theorem bc_49_0 : pB 49 0 15 = true := by kernel_rfl
theorem bc_49_1 : pB 49 15 15 = true := by kernel_rfl
theorem bc_49_2 : pB 49 30 15 = true := by kernel_rfl
theorem bc_49 : (prodN (od 49)).all (chkBC 49) = true := pJ 49 15 3 (by decide +kernel) ⟨bc_49_0,bc_49_1,bc_49_2,trivial⟩
theorem bc_37_0 : pB 37 0 15 = true := by kernel_rfl
theorem bc_37_1 : pB 37 15 15 = true := by kernel_rfl
theorem bc_37_2 : pB 37 30 15 = true := by kernel_rfl
theorem bc_37 : (prodN (od 37)).all (chkBC 37) = true := pJ 37 15 3 (by decide +kernel) ⟨bc_37_0,bc_37_1,bc_37_2,trivial⟩
theorem bc_44_0 : pB 44 0 15 = true := by kernel_rfl
theorem bc_44_1 : pB 44 15 15 = true := by kernel_rfl
theorem bc_44 : (prodN (od 44)).all (chkBC 44) = true := pJ 44 15 2 (by decide +kernel) ⟨bc_44_0,bc_44_1,trivial⟩
theorem bc_33_0 : pB 33 0 15 = true := by kernel_rfl
theorem bc_33_1 : pB 33 15 15 = true := by kernel_rfl
theorem bc_33 : (prodN (od 33)).all (chkBC 33) = true := pJ 33 15 2 (by decide +kernel) ⟨bc_33_0,bc_33_1,trivial⟩
theorem bc_28_0 : pB 28 0 15 = true := by kernel_rfl
theorem bc_28 : (prodN (od 28)).all (chkBC 28) = true := pJ 28 15 1 (by decide +kernel) ⟨bc_28_0,trivial⟩
theorem bc_13_0 : pB 13 0 15 = true := by kernel_rfl
theorem bc_13 : (prodN (od 13)).all (chkBC 13) = true := pJ 13 15 1 (by decide +kernel) ⟨bc_13_0,trivial⟩
theorem bc_11_0 : pB 11 0 15 = true := by kernel_rfl
theorem bc_11 : (prodN (od 11)).all (chkBC 11) = true := pJ 11 15 1 (by decide +kernel) ⟨bc_11_0,trivial⟩
end Go.Proofs.YtaidcaemdkncgaaGreatDoor