/- Contracts of functions of the program, and what proves them (texts: BCr5). -/
import Derived.KernelRfl
import Derived.Test.YtaidcaemdkncgaaGreatDoorZBE
set_option linter.all false
set_option maxRecDepth 100000
set_option maxHeartbeats 8000000
namespace Go.Proofs.YtaidcaemdkncgaaGreatDoor
open Go Go.Lg Go.Num
theorem bc_57_0 : pB 57 0 15 = true := by kernel_rfl
theorem bc_57_1 : pB 57 15 15 = true := by kernel_rfl
theorem bc_57_2 : pB 57 30 15 = true := by kernel_rfl
theorem bc_57 : (prodN (od 57)).all (chkBC 57) = true := pJ 57 15 3 (by decide +kernel) ⟨bc_57_0,bc_57_1,bc_57_2,trivial⟩
theorem bc_52_0 : pB 52 0 15 = true := by kernel_rfl
theorem bc_52_1 : pB 52 15 15 = true := by kernel_rfl
theorem bc_52 : (prodN (od 52)).all (chkBC 52) = true := pJ 52 15 2 (by decide +kernel) ⟨bc_52_0,bc_52_1,trivial⟩
theorem bc_39_0 : pB 39 0 15 = true := by kernel_rfl
theorem bc_39_1 : pB 39 15 15 = true := by kernel_rfl
theorem bc_39 : (prodN (od 39)).all (chkBC 39) = true := pJ 39 15 2 (by decide +kernel) ⟨bc_39_0,bc_39_1,trivial⟩
theorem bc_32_0 : pB 32 0 15 = true := by kernel_rfl
theorem bc_32_1 : pB 32 15 15 = true := by kernel_rfl
theorem bc_32 : (prodN (od 32)).all (chkBC 32) = true := pJ 32 15 2 (by decide +kernel) ⟨bc_32_0,bc_32_1,trivial⟩
theorem bc_23_0 : pB 23 0 15 = true := by kernel_rfl
theorem bc_23_1 : pB 23 15 15 = true := by kernel_rfl
theorem bc_23 : (prodN (od 23)).all (chkBC 23) = true := pJ 23 15 2 (by decide +kernel) ⟨bc_23_0,bc_23_1,trivial⟩
theorem bc_15_0 : pB 15 0 15 = true := by kernel_rfl
theorem bc_15 : (prodN (od 15)).all (chkBC 15) = true := pJ 15 15 1 (by decide +kernel) ⟨bc_15_0,trivial⟩
theorem bc_8_0 : pB 8 0 15 = true := by kernel_rfl
theorem bc_8 : (prodN (od 8)).all (chkBC 8) = true := pJ 8 15 1 (by decide +kernel) ⟨bc_8_0,trivial⟩
theorem bc_4_0 : pB 4 0 15 = true := by kernel_rfl
theorem bc_4 : (prodN (od 4)).all (chkBC 4) = true := pJ 4 15 1 (by decide +kernel) ⟨bc_4_0,trivial⟩
end Go.Proofs.YtaidcaemdkncgaaGreatDoor