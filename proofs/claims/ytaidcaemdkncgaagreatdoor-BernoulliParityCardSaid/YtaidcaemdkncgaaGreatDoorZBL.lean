/- Contracts of functions of the program, and what proves them (texts: BCr7). -/
import Derived.KernelRfl
import Derived.Test.YtaidcaemdkncgaaGreatDoorZBE
set_option linter.all false
set_option maxRecDepth 100000
set_option maxHeartbeats 8000000
namespace Go.Proofs.YtaidcaemdkncgaaGreatDoor
open Go Go.Lg Go.Num
theorem bc_43_0 : pB 43 0 8 = true := by kernel_rfl
theorem bc_43_1 : pB 43 8 8 = true := by kernel_rfl
theorem bc_43_2 : pB 43 16 8 = true := by kernel_rfl
theorem bc_43_3 : pB 43 24 8 = true := by kernel_rfl
theorem bc_43_4 : pB 43 32 8 = true := by kernel_rfl
theorem bc_43_5 : pB 43 40 8 = true := by kernel_rfl
theorem bc_43 : (prodN (od 43)).all (chkBC 43) = true := pJ 43 8 6 (by decide +kernel) ⟨bc_43_0,bc_43_1,bc_43_2,bc_43_3,bc_43_4,bc_43_5,trivial⟩
theorem bc_41_0 : pB 41 0 8 = true := by kernel_rfl
theorem bc_41_1 : pB 41 8 8 = true := by kernel_rfl
theorem bc_41_2 : pB 41 16 8 = true := by kernel_rfl
theorem bc_41_3 : pB 41 24 8 = true := by kernel_rfl
theorem bc_41_4 : pB 41 32 8 = true := by kernel_rfl
theorem bc_41 : (prodN (od 41)).all (chkBC 41) = true := pJ 41 8 5 (by decide +kernel) ⟨bc_41_0,bc_41_1,bc_41_2,bc_41_3,bc_41_4,trivial⟩
theorem bc_48_0 : pB 48 0 5 = true := by kernel_rfl
theorem bc_48_1 : pB 48 5 5 = true := by kernel_rfl
theorem bc_48_2 : pB 48 10 5 = true := by kernel_rfl
theorem bc_48_3 : pB 48 15 5 = true := by kernel_rfl
theorem bc_48 : (prodN (od 48)).all (chkBC 48) = true := pJ 48 5 4 (by decide +kernel) ⟨bc_48_0,bc_48_1,bc_48_2,bc_48_3,trivial⟩
theorem bc_29_0 : pB 29 0 15 = true := by kernel_rfl
theorem bc_29_1 : pB 29 15 15 = true := by kernel_rfl
theorem bc_29 : (prodN (od 29)).all (chkBC 29) = true := pJ 29 15 2 (by decide +kernel) ⟨bc_29_0,bc_29_1,trivial⟩
theorem bc_30_0 : pB 30 0 15 = true := by kernel_rfl
theorem bc_30 : (prodN (od 30)).all (chkBC 30) = true := pJ 30 15 1 (by decide +kernel) ⟨bc_30_0,trivial⟩
theorem bc_22_0 : pB 22 0 15 = true := by kernel_rfl
theorem bc_22 : (prodN (od 22)).all (chkBC 22) = true := pJ 22 15 1 (by decide +kernel) ⟨bc_22_0,trivial⟩
theorem bc_9_0 : pB 9 0 15 = true := by kernel_rfl
theorem bc_9 : (prodN (od 9)).all (chkBC 9) = true := pJ 9 15 1 (by decide +kernel) ⟨bc_9_0,trivial⟩
theorem bc_3_0 : pB 3 0 15 = true := by kernel_rfl
theorem bc_3 : (prodN (od 3)).all (chkBC 3) = true := pJ 3 15 1 (by decide +kernel) ⟨bc_3_0,trivial⟩
end Go.Proofs.YtaidcaemdkncgaaGreatDoor