/- Contracts of functions of the program, and what proves them (texts: BCr8). -/
import Derived.KernelRfl
import Derived.Test.YtaidcaemdkncgaaGreatDoorZBE
set_option linter.all false
set_option maxRecDepth 100000
set_option maxHeartbeats 8000000
namespace Go.Proofs.YtaidcaemdkncgaaGreatDoor
open Go Go.Lg Go.Num
theorem bc_51_0 : pB 51 0 5 = true := by kernel_rfl
theorem bc_51_1 : pB 51 5 5 = true := by kernel_rfl
theorem bc_51_2 : pB 51 10 5 = true := by kernel_rfl
theorem bc_51_3 : pB 51 15 5 = true := by kernel_rfl
theorem bc_51_4 : pB 51 20 5 = true := by kernel_rfl
theorem bc_51_5 : pB 51 25 5 = true := by kernel_rfl
theorem bc_51_6 : pB 51 30 5 = true := by kernel_rfl
theorem bc_51 : (prodN (od 51)).all (chkBC 51) = true := pJ 51 5 7 (by decide +kernel) ⟨bc_51_0,bc_51_1,bc_51_2,bc_51_3,bc_51_4,bc_51_5,bc_51_6,trivial⟩
theorem bc_56_0 : pB 56 0 5 = true := by kernel_rfl
theorem bc_56_1 : pB 56 5 5 = true := by kernel_rfl
theorem bc_56_2 : pB 56 10 5 = true := by kernel_rfl
theorem bc_56_3 : pB 56 15 5 = true := by kernel_rfl
theorem bc_56_4 : pB 56 20 5 = true := by kernel_rfl
theorem bc_56 : (prodN (od 56)).all (chkBC 56) = true := pJ 56 5 5 (by decide +kernel) ⟨bc_56_0,bc_56_1,bc_56_2,bc_56_3,bc_56_4,trivial⟩
theorem bc_50_0 : pB 50 0 5 = true := by kernel_rfl
theorem bc_50_1 : pB 50 5 5 = true := by kernel_rfl
theorem bc_50_2 : pB 50 10 5 = true := by kernel_rfl
theorem bc_50_3 : pB 50 15 5 = true := by kernel_rfl
theorem bc_50 : (prodN (od 50)).all (chkBC 50) = true := pJ 50 5 4 (by decide +kernel) ⟨bc_50_0,bc_50_1,bc_50_2,bc_50_3,trivial⟩
theorem bc_38_0 : pB 38 0 15 = true := by kernel_rfl
theorem bc_38_1 : pB 38 15 15 = true := by kernel_rfl
theorem bc_38 : (prodN (od 38)).all (chkBC 38) = true := pJ 38 15 2 (by decide +kernel) ⟨bc_38_0,bc_38_1,trivial⟩
theorem bc_34_0 : pB 34 0 15 = true := by kernel_rfl
theorem bc_34_1 : pB 34 15 15 = true := by kernel_rfl
theorem bc_34 : (prodN (od 34)).all (chkBC 34) = true := pJ 34 15 2 (by decide +kernel) ⟨bc_34_0,bc_34_1,trivial⟩
theorem bc_18_0 : pB 18 0 15 = true := by kernel_rfl
theorem bc_18 : (prodN (od 18)).all (chkBC 18) = true := pJ 18 15 1 (by decide +kernel) ⟨bc_18_0,trivial⟩
theorem bc_5_0 : pB 5 0 15 = true := by kernel_rfl
theorem bc_5 : (prodN (od 5)).all (chkBC 5) = true := pJ 5 15 1 (by decide +kernel) ⟨bc_5_0,trivial⟩
theorem bc_6_0 : pB 6 0 15 = true := by kernel_rfl
theorem bc_6 : (prodN (od 6)).all (chkBC 6) = true := pJ 6 15 1 (by decide +kernel) ⟨bc_6_0,trivial⟩
end Go.Proofs.YtaidcaemdkncgaaGreatDoor