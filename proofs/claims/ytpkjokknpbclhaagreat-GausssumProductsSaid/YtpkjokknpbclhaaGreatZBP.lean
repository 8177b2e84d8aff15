/- Contracts of functions of the program, and what proves them (texts: JO2). -/
import Derived.KernelRfl
import Derived.Test.YtpkjokknpbclhaaGreatZBN
set_option linter.all false
namespace Go.Proofs.YtpkjokknpbclhaaGreat
open Go Go.Lg Go.Num
set_option maxRecDepth 100000
theorem jo_53_0 : (((prodN (od 53)).drop 0).take 30).all (chkOr 53) = true := by kernel_rfl
theorem jo_53_1 : (((prodN (od 53)).drop 30).take 30).all (chkOr 53) = true := by kernel_rfl
theorem jo_53 : (prodN (od 53)).all (chkOr 53) = true := all_parts 30 2 (by decide +kernel) (by intro j hj;match j,hj with
 | 0,_ => exact jo_53_0
 | 1,_ => exact jo_53_1)
theorem jo_47_0 : (((prodN (od 47)).drop 0).take 30).all (chkOr 47) = true := by kernel_rfl
theorem jo_47_1 : (((prodN (od 47)).drop 30).take 30).all (chkOr 47) = true := by kernel_rfl
theorem jo_47 : (prodN (od 47)).all (chkOr 47) = true := all_parts 30 2 (by decide +kernel) (by intro j hj;match j,hj with
 | 0,_ => exact jo_47_0
 | 1,_ => exact jo_47_1)
theorem jo_49_0 : (((prodN (od 49)).drop 0).take 30).all (chkOr 49) = true := by kernel_rfl
theorem jo_49_1 : (((prodN (od 49)).drop 30).take 30).all (chkOr 49) = true := by kernel_rfl
theorem jo_49 : (prodN (od 49)).all (chkOr 49) = true := all_parts 30 2 (by decide +kernel) (by intro j hj;match j,hj with
 | 0,_ => exact jo_49_0
 | 1,_ => exact jo_49_1)
theorem jo_37_0 : (((prodN (od 37)).drop 0).take 30).all (chkOr 37) = true := by kernel_rfl
theorem jo_37_1 : (((prodN (od 37)).drop 30).take 30).all (chkOr 37) = true := by kernel_rfl
theorem jo_37 : (prodN (od 37)).all (chkOr 37) = true := all_parts 30 2 (by decide +kernel) (by intro j hj;match j,hj with
 | 0,_ => exact jo_37_0
 | 1,_ => exact jo_37_1)
theorem jo_57_0 : (((prodN (od 57)).drop 0).take 30).all (chkOr 57) = true := by kernel_rfl
theorem jo_57_1 : (((prodN (od 57)).drop 30).take 30).all (chkOr 57) = true := by kernel_rfl
theorem jo_57 : (prodN (od 57)).all (chkOr 57) = true := all_parts 30 2 (by decide +kernel) (by intro j hj;match j,hj with
 | 0,_ => exact jo_57_0
 | 1,_ => exact jo_57_1)
theorem jo_29_0 : (((prodN (od 29)).drop 0).take 30).all (chkOr 29) = true := by kernel_rfl
theorem jo_29 : (prodN (od 29)).all (chkOr 29) = true := all_parts 30 1 (by decide +kernel) (by intro j hj;match j,hj with
 | 0,_ => exact jo_29_0)
theorem jo_58_0 : (((prodN (od 58)).drop 0).take 30).all (chkOr 58) = true := by kernel_rfl
theorem jo_58 : (prodN (od 58)).all (chkOr 58) = true := all_parts 30 1 (by decide +kernel) (by intro j hj;match j,hj with
 | 0,_ => exact jo_58_0)
theorem jo_45_0 : (((prodN (od 45)).drop 0).take 30).all (chkOr 45) = true := by kernel_rfl
theorem jo_45 : (prodN (od 45)).all (chkOr 45) = true := all_parts 30 1 (by decide +kernel) (by intro j hj;match j,hj with
 | 0,_ => exact jo_45_0)
theorem jo_56_0 : (((prodN (od 56)).drop 0).take 30).all (chkOr 56) = true := by kernel_rfl
theorem jo_56 : (prodN (od 56)).all (chkOr 56) = true := all_parts 30 1 (by decide +kernel) (by intro j hj;match j,hj with
 | 0,_ => exact jo_56_0)
theorem jo_46_0 : (((prodN (od 46)).drop 0).take 30).all (chkOr 46) = true := by kernel_rfl
theorem jo_46 : (prodN (od 46)).all (chkOr 46) = true := all_parts 30 1 (by decide +kernel) (by intro j hj;match j,hj with
 | 0,_ => exact jo_46_0)
theorem jo_33_0 : (((prodN (od 33)).drop 0).take 30).all (chkOr 33) = true := by kernel_rfl
theorem jo_33 : (prodN (od 33)).all (chkOr 33) = true := all_parts 30 1 (by decide +kernel) (by intro j hj;match j,hj with
 | 0,_ => exact jo_33_0)
theorem jo_50_0 : (((prodN (od 50)).drop 0).take 30).all (chkOr 50) = true := by kernel_rfl
theorem jo_50 : (prodN (od 50)).all (chkOr 50) = true := all_parts 30 1 (by decide +kernel) (by intro j hj;match j,hj with
 | 0,_ => exact jo_50_0)
theorem jo_27_0 : (((prodN (od 27)).drop 0).take 30).all (chkOr 27) = true := by kernel_rfl
theorem jo_27 : (prodN (od 27)).all (chkOr 27) = true := all_parts 30 1 (by decide +kernel) (by intro j hj;match j,hj with
 | 0,_ => exact jo_27_0)
theorem jo_54_0 : (((prodN (od 54)).drop 0).take 30).all (chkOr 54) = true := by kernel_rfl
theorem jo_54 : (prodN (od 54)).all (chkOr 54) = true := all_parts 30 1 (by decide +kernel) (by intro j hj;match j,hj with
 | 0,_ => exact jo_54_0)
theorem jo_32_0 : (((prodN (od 32)).drop 0).take 30).all (chkOr 32) = true := by kernel_rfl
theorem jo_32 : (prodN (od 32)).all (chkOr 32) = true := all_parts 30 1 (by decide +kernel) (by intro j hj;match j,hj with
 | 0,_ => exact jo_32_0)
theorem jo_40_0 : (((prodN (od 40)).drop 0).take 30).all (chkOr 40) = true := by kernel_rfl
theorem jo_40 : (prodN (od 40)).all (chkOr 40) = true := all_parts 30 1 (by decide +kernel) (by intro j hj;match j,hj with
 | 0,_ => exact jo_40_0)
theorem jo_60_0 : (((prodN (od 60)).drop 0).take 30).all (chkOr 60) = true := by kernel_rfl
theorem jo_60 : (prodN (od 60)).all (chkOr 60) = true := all_parts 30 1 (by decide +kernel) (by intro j hj;match j,hj with
 | 0,_ => exact jo_60_0)
theorem jo_21_0 : (((prodN (od 21)).drop 0).take 30).all (chkOr 21) = true := by kernel_rfl
theorem jo_21 : (prodN (od 21)).all (chkOr 21) = true := all_parts 30 1 (by decide +kernel) (by intro j hj;match j,hj with
 | 0,_ => exact jo_21_0)
theorem jo_28_0 : (((prodN (od 28)).drop 0).take 30).all (chkOr 28) = true := by kernel_rfl
theorem jo_28 : (prodN (od 28)).all (chkOr 28) = true := all_parts 30 1 (by decide +kernel) (by intro j hj;match j,hj with
 | 0,_ => exact jo_28_0)
theorem jo_42_0 : (((prodN (od 42)).drop 0).take 30).all (chkOr 42) = true := by kernel_rfl
theorem jo_42 : (prodN (od 42)).all (chkOr 42) = true := all_parts 30 1 (by decide +kernel) (by intro j hj;match j,hj with
 | 0,_ => exact jo_42_0)
theorem jo_22_0 : (((prodN (od 22)).drop 0).take 30).all (chkOr 22) = true := by kernel_rfl
theorem jo_22 : (prodN (od 22)).all (chkOr 22) = true := all_parts 30 1 (by decide +kernel) (by intro j hj;match j,hj with
 | 0,_ => exact jo_22_0)
theorem jo_16_0 : (((prodN (od 16)).drop 0).take 30).all (chkOr 16) = true := by kernel_rfl
theorem jo_16 : (prodN (od 16)).all (chkOr 16) = true := all_parts 30 1 (by decide +kernel) (by intro j hj;match j,hj with
 | 0,_ => exact jo_16_0)
theorem jo_24_0 : (((prodN (od 24)).drop 0).take 30).all (chkOr 24) = true := by kernel_rfl
theorem jo_24 : (prodN (od 24)).all (chkOr 24) = true := all_parts 30 1 (by decide +kernel) (by intro j hj;match j,hj with
 | 0,_ => exact jo_24_0)
theorem jo_7_0 : (((prodN (od 7)).drop 0).take 30).all (chkOr 7) = true := by kernel_rfl
theorem jo_7 : (prodN (od 7)).all (chkOr 7) = true := all_parts 30 1 (by decide +kernel) (by intro j hj;match j,hj with
 | 0,_ => exact jo_7_0)
theorem jo_14_0 : (((prodN (od 14)).drop 0).take 30).all (chkOr 14) = true := by kernel_rfl
theorem jo_14 : (prodN (od 14)).all (chkOr 14) = true := all_parts 30 1 (by decide +kernel) (by intro j hj;match j,hj with
 | 0,_ => exact jo_14_0)
theorem jo_5_0 : (((prodN (od 5)).drop 0).take 30).all (chkOr 5) = true := by kernel_rfl
theorem jo_5 : (prodN (od 5)).all (chkOr 5) = true := all_parts 30 1 (by decide +kernel) (by intro j hj;match j,hj with
 | 0,_ => exact jo_5_0)
theorem jo_8_0 : (((prodN (od 8)).drop 0).take 30).all (chkOr 8) = true := by kernel_rfl
theorem jo_8 : (prodN (od 8)).all (chkOr 8) = true := all_parts 30 1 (by decide +kernel) (by intro j hj;match j,hj with
 | 0,_ => exact jo_8_0)
theorem jo_12_0 : (((prodN (od 12)).drop 0).take 30).all (chkOr 12) = true := by kernel_rfl
theorem jo_12 : (prodN (od 12)).all (chkOr 12) = true := all_parts 30 1 (by decide +kernel) (by intro j hj;match j,hj with
 | 0,_ => exact jo_12_0)
theorem jo_6_0 : (((prodN (od 6)).drop 0).take 30).all (chkOr 6) = true := by kernel_rfl
theorem jo_6 : (prodN (od 6)).all (chkOr 6) = true := all_parts 30 1 (by decide +kernel) (by intro j hj;match j,hj with
 | 0,_ => exact jo_6_0)
theorem jo_2_0 : (((prodN (od 2)).drop 0).take 30).all (chkOr 2) = true := by kernel_rfl
theorem jo_2 : (prodN (od 2)).all (chkOr 2) = true := all_parts 30 1 (by decide +kernel) (by intro j hj;match j,hj with
 | 0,_ => exact jo_2_0)
end Go.Proofs.YtpkjokknpbclhaaGreat