/- Contracts of functions of the program, and what proves them (texts: BCr2). -/
import Derived.KernelRfl
import Derived.Test.YtaidcaemdkncgaaGreatDoorZBE
set_option linter.all false
set_option maxRecDepth 100000
set_option maxHeartbeats 8000000
namespace Go.Proofs.YtaidcaemdkncgaaGreatDoor
open Go Go.Lg Go.Num
theorem bc_53_0 : pB 53 0 8 = true := by kernel_rfl
theorem bc_53_1 : pB 53 8 8 = true := by kernel_rfl
theorem bc_53_2 : pB 53 16 8 = true := by kernel_rfl
theorem bc_53_3 : pB 53 24 8 = true := by kernel_rfl
theorem bc_53_4 : pB 53 32 8 = true := by kernel_rfl
theorem bc_53_5 : pB 53 40 8 = true := by kernel_rfl
theorem bc_53_6 : pB 53 48 8 = true := by kernel_rfl
theorem bc_53 : (prodN (od 53)).all (chkBC 53) = true := pJ 53 8 7 (by decide +kernel) ⟨bc_53_0,bc_53_1,bc_53_2,bc_53_3,bc_53_4,bc_53_5,bc_53_6,trivial⟩
theorem bc_45_0 : pB 45 0 5 = true := by kernel_rfl
theorem bc_45_1 : pB 45 5 5 = true := by kernel_rfl
theorem bc_45_2 : pB 45 10 5 = true := by kernel_rfl
theorem bc_45_3 : pB 45 15 5 = true := by kernel_rfl
theorem bc_45_4 : pB 45 20 5 = true := by kernel_rfl
theorem bc_45 : (prodN (od 45)).all (chkBC 45) = true := pJ 45 5 5 (by decide +kernel) ⟨bc_45_0,bc_45_1,bc_45_2,bc_45_3,bc_45_4,trivial⟩
theorem bc_31_0 : pB 31 0 15 = true := by kernel_rfl
theorem bc_31_1 : pB 31 15 15 = true := by kernel_rfl
theorem bc_31 : (prodN (od 31)).all (chkBC 31) = true := pJ 31 15 2 (by decide +kernel) ⟨bc_31_0,bc_31_1,trivial⟩
theorem bc_27_0 : pB 27 0 15 = true := by kernel_rfl
theorem bc_27_1 : pB 27 15 15 = true := by kernel_rfl
theorem bc_27 : (prodN (od 27)).all (chkBC 27) = true := pJ 27 15 2 (by decide +kernel) ⟨bc_27_0,bc_27_1,trivial⟩
theorem bc_21_0 : pB 21 0 15 = true := by kernel_rfl
theorem bc_21 : (prodN (od 21)).all (chkBC 21) = true := pJ 21 15 1 (by decide +kernel) ⟨bc_21_0,trivial⟩
theorem bc_16_0 : pB 16 0 15 = true := by kernel_rfl
theorem bc_16 : (prodN (od 16)).all (chkBC 16) = true := pJ 16 15 1 (by decide +kernel) ⟨bc_16_0,trivial⟩
theorem bc_7_0 : pB 7 0 15 = true := by kernel_rfl
theorem bc_7 : (prodN (od 7)).all (chkBC 7) = true := pJ 7 15 1 (by decide +kernel) ⟨bc_7_0,trivial⟩
theorem bc_1_0 : pB 1 0 15 = true := by kernel_rfl
theorem bc_1 : (prodN (od 1)).all (chkBC 1) = true := pJ 1 15 1 (by decide +kernel) ⟨bc_1_0,trivial⟩
end Go.Proofs.YtaidcaemdkncgaaGreatDoor