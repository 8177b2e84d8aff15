/- Contracts of functions of the program, and what proves them (texts: BCr3). -/
import Derived.KernelRfl
import Derived.Test.YtaidcaemdkncgaaGreatDoorZBE
set_option linter.all false
set_option maxRecDepth 100000
set_option maxHeartbeats 8000000
namespace Go.Proofs.YtaidcaemdkncgaaGreatDoor
open Go Go.Lg Go.Num
theorem bc_55_0 : pB 55 0 5 = true := by kernel_rfl
theorem bc_55_1 : pB 55 5 5 = true := by kernel_rfl
theorem bc_55_2 : pB 55 10 5 = true := by kernel_rfl
theorem bc_55_3 : pB 55 15 5 = true := by kernel_rfl
theorem bc_55_4 : pB 55 20 5 = true := by kernel_rfl
theorem bc_55_5 : pB 55 25 5 = true := by kernel_rfl
theorem bc_55_6 : pB 55 30 5 = true := by kernel_rfl
theorem bc_55_7 : pB 55 35 5 = true := by kernel_rfl
theorem bc_55 : (prodN (od 55)).all (chkBC 55) = true := pJ 55 5 8 (by decide +kernel) ⟨bc_55_0,bc_55_1,bc_55_2,bc_55_3,bc_55_4,bc_55_5,bc_55_6,bc_55_7,trivial⟩
theorem bc_60_0 : pB 60 0 5 = true := by kernel_rfl
theorem bc_60_1 : pB 60 5 5 = true := by kernel_rfl
theorem bc_60_2 : pB 60 10 5 = true := by kernel_rfl
theorem bc_60_3 : pB 60 15 5 = true := by kernel_rfl
theorem bc_60 : (prodN (od 60)).all (chkBC 60) = true := pJ 60 5 4 (by decide +kernel) ⟨bc_60_0,bc_60_1,bc_60_2,bc_60_3,trivial⟩
theorem bc_46_0 : pB 46 0 5 = true := by kernel_rfl
theorem bc_46_1 : pB 46 5 5 = true := by kernel_rfl
theorem bc_46_2 : pB 46 10 5 = true := by kernel_rfl
theorem bc_46_3 : pB 46 15 5 = true := by kernel_rfl
theorem bc_46_4 : pB 46 20 5 = true := by kernel_rfl
theorem bc_46 : (prodN (od 46)).all (chkBC 46) = true := pJ 46 5 5 (by decide +kernel) ⟨bc_46_0,bc_46_1,bc_46_2,bc_46_3,bc_46_4,trivial⟩
theorem bc_42_0 : pB 42 0 5 = true := by kernel_rfl
theorem bc_42_1 : pB 42 5 5 = true := by kernel_rfl
theorem bc_42_2 : pB 42 10 5 = true := by kernel_rfl
theorem bc_42 : (prodN (od 42)).all (chkBC 42) = true := pJ 42 5 3 (by decide +kernel) ⟨bc_42_0,bc_42_1,bc_42_2,trivial⟩
theorem bc_26_0 : pB 26 0 15 = true := by kernel_rfl
theorem bc_26 : (prodN (od 26)).all (chkBC 26) = true := pJ 26 15 1 (by decide +kernel) ⟨bc_26_0,trivial⟩
theorem bc_24_0 : pB 24 0 15 = true := by kernel_rfl
theorem bc_24 : (prodN (od 24)).all (chkBC 24) = true := pJ 24 15 1 (by decide +kernel) ⟨bc_24_0,trivial⟩
theorem bc_10_0 : pB 10 0 15 = true := by kernel_rfl
theorem bc_10 : (prodN (od 10)).all (chkBC 10) = true := pJ 10 15 1 (by decide +kernel) ⟨bc_10_0,trivial⟩
end Go.Proofs.YtaidcaemdkncgaaGreatDoor