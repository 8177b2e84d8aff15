/- Contracts of functions of the program, and what proves them (texts: BCr1). -/
import Derived.KernelRfl
import Derived.Test.YtaidcaemdkncgaaGreatDoorZBE
set_option linter.all false
set_option maxRecDepth 100000
set_option maxHeartbeats 8000000
namespace Go.Proofs.YtaidcaemdkncgaaGreatDoor
open Go Go.Lg Go.Num
theorem bc_59_0 : pB 59 0 8 = true := by kernel_rfl
theorem bc_59_1 : pB 59 8 8 = true := by kernel_rfl
theorem bc_59_2 : pB 59 16 8 = true := by kernel_rfl
theorem bc_59_3 : pB 59 24 8 = true := by kernel_rfl
theorem bc_59_4 : pB 59 32 8 = true := by kernel_rfl
theorem bc_59_5 : pB 59 40 8 = true := by kernel_rfl
theorem bc_59_6 : pB 59 48 8 = true := by kernel_rfl
theorem bc_59_7 : pB 59 56 8 = true := by kernel_rfl
theorem bc_59 : (prodN (od 59)).all (chkBC 59) = true := pJ 59 8 8 (by decide +kernel) ⟨bc_59_0,bc_59_1,bc_59_2,bc_59_3,bc_59_4,bc_59_5,bc_59_6,bc_59_7,trivial⟩
theorem bc_54_0 : pB 54 0 5 = true := by kernel_rfl
theorem bc_54_1 : pB 54 5 5 = true := by kernel_rfl
theorem bc_54_2 : pB 54 10 5 = true := by kernel_rfl
theorem bc_54_3 : pB 54 15 5 = true := by kernel_rfl
theorem bc_54 : (prodN (od 54)).all (chkBC 54) = true := pJ 54 5 4 (by decide +kernel) ⟨bc_54_0,bc_54_1,bc_54_2,bc_54_3,trivial⟩
theorem bc_40_0 : pB 40 0 5 = true := by kernel_rfl
theorem bc_40_1 : pB 40 5 5 = true := by kernel_rfl
theorem bc_40_2 : pB 40 10 5 = true := by kernel_rfl
theorem bc_40_3 : pB 40 15 5 = true := by kernel_rfl
theorem bc_40 : (prodN (od 40)).all (chkBC 40) = true := pJ 40 5 4 (by decide +kernel) ⟨bc_40_0,bc_40_1,bc_40_2,bc_40_3,trivial⟩
theorem bc_25_0 : pB 25 0 15 = true := by kernel_rfl
theorem bc_25_1 : pB 25 15 15 = true := by kernel_rfl
theorem bc_25 : (prodN (od 25)).all (chkBC 25) = true := pJ 25 15 2 (by decide +kernel) ⟨bc_25_0,bc_25_1,trivial⟩
theorem bc_17_0 : pB 17 0 15 = true := by kernel_rfl
theorem bc_17_1 : pB 17 15 15 = true := by kernel_rfl
theorem bc_17 : (prodN (od 17)).all (chkBC 17) = true := pJ 17 15 2 (by decide +kernel) ⟨bc_17_0,bc_17_1,trivial⟩
theorem bc_12_0 : pB 12 0 15 = true := by kernel_rfl
theorem bc_12 : (prodN (od 12)).all (chkBC 12) = true := pJ 12 15 1 (by decide +kernel) ⟨bc_12_0,trivial⟩
theorem bc_2_0 : pB 2 0 15 = true := by kernel_rfl
theorem bc_2 : (prodN (od 2)).all (chkBC 2) = true := pJ 2 15 1 (by decide +kernel) ⟨bc_2_0,trivial⟩
end Go.Proofs.YtaidcaemdkncgaaGreatDoor