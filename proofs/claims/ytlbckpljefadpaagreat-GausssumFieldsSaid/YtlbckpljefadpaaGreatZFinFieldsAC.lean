/- Contracts of functions of the program, and what proves them (texts: GLF1). -/
import Derived.KernelRfl
import Derived.Test.YtlbckpljefadpaaGreatZFinFieldsAB
set_option linter.all false
namespace Go.Proofs.YtlbckpljefadpaaGreat
open Go Go.Lg Go.Num
set_option maxRecDepth 100000
theorem glF_42_0 : (((prodN (od 42)).drop 0).take 30).all (chkL 3 42) = true := by kernel_rfl
theorem glF_42 : (prodN (od 42)).all (chkL 3 42) = true := by
 have h := glF_42_0
 rwa [List.drop_zero,List.take_of_length_le (by decide +kernel)] at h
theorem glF_18_0 : (((prodN (od 18)).drop 0).take 30).all (chkL 3 18) = true := by kernel_rfl
theorem glF_18 : (prodN (od 18)).all (chkL 3 18) = true := by
 have h := glF_18_0
 rwa [List.drop_zero,List.take_of_length_le (by decide +kernel)] at h
theorem glF_9_0 : (((prodN (od 9)).drop 0).take 30).all (chkL 3 9) = true := by kernel_rfl
theorem glF_9 : (prodN (od 9)).all (chkL 3 9) = true := by
 have h := glF_9_0
 rwa [List.drop_zero,List.take_of_length_le (by decide +kernel)] at h
theorem glF_26_0 : (((prodN (od 26)).drop 0).take 30).all (chkL 3 26) = true := by kernel_rfl
theorem glF_26 : (prodN (od 26)).all (chkL 3 26) = true := by
 have h := glF_26_0
 rwa [List.drop_zero,List.take_of_length_le (by decide +kernel)] at h
theorem glF_8_0 : (((prodN (od 8)).drop 0).take 30).all (chkL 3 8) = true := by kernel_rfl
theorem glF_8 : (prodN (od 8)).all (chkL 3 8) = true := by
 have h := glF_8_0
 rwa [List.drop_zero,List.take_of_length_le (by decide +kernel)] at h
theorem glF_4_0 : (((prodN (od 4)).drop 0).take 30).all (chkL 3 4) = true := by kernel_rfl
theorem glF_4 : (prodN (od 4)).all (chkL 3 4) = true := by
 have h := glF_4_0
 rwa [List.drop_zero,List.take_of_length_le (by decide +kernel)] at h
theorem glF_49_0 : (((prodN (od 49)).drop 0).take 30).all (chkL 3 49) = true := by kernel_rfl
theorem glF_49_1 : (((prodN (od 49)).drop 30).take 30).all (chkL 3 49) = true := by kernel_rfl
theorem glF_49 : (prodN (od 49)).all (chkL 3 49) = true := all_parts 30 2 (by decide +kernel) (by intro j hj;match j,hj with
 | 0,_ => exact glF_49_0
 | 1,_ => exact glF_49_1)
theorem glF_55_0 : (((prodN (od 55)).drop 0).take 30).all (chkL 3 55) = true := by kernel_rfl
theorem glF_55_1 : (((prodN (od 55)).drop 30).take 30).all (chkL 3 55) = true := by kernel_rfl
theorem glF_55 : (prodN (od 55)).all (chkL 3 55) = true := all_parts 30 2 (by decide +kernel) (by intro j hj;match j,hj with
 | 0,_ => exact glF_55_0
 | 1,_ => exact glF_55_1)
theorem glF_58_0 : (((prodN (od 58)).drop 0).take 30).all (chkL 3 58) = true := by kernel_rfl
theorem glF_58 : (prodN (od 58)).all (chkL 3 58) = true := by
 have h := glF_58_0
 rwa [List.drop_zero,List.take_of_length_le (by decide +kernel)] at h
theorem glF_35_0 : (((prodN (od 35)).drop 0).take 30).all (chkL 3 35) = true := by kernel_rfl
theorem glF_35 : (prodN (od 35)).all (chkL 3 35) = true := by
 have h := glF_35_0
 rwa [List.drop_zero,List.take_of_length_le (by decide +kernel)] at h
theorem glF_56_0 : (((prodN (od 56)).drop 0).take 30).all (chkL 3 56) = true := by kernel_rfl
theorem glF_56 : (prodN (od 56)).all (chkL 3 56) = true := by
 have h := glF_56_0
 rwa [List.drop_zero,List.take_of_length_le (by decide +kernel)] at h
theorem glF_44_0 : (((prodN (od 44)).drop 0).take 30).all (chkL 3 44) = true := by kernel_rfl
theorem glF_44 : (prodN (od 44)).all (chkL 3 44) = true := by
 have h := glF_44_0
 rwa [List.drop_zero,List.take_of_length_le (by decide +kernel)] at h
theorem glF_27_0 : (((prodN (od 27)).drop 0).take 30).all (chkL 3 27) = true := by kernel_rfl
theorem glF_27 : (prodN (od 27)).all (chkL 3 27) = true := by
 have h := glF_27_0
 rwa [List.drop_zero,List.take_of_length_le (by decide +kernel)] at h
theorem glF_17_0 : (((prodN (od 17)).drop 0).take 30).all (chkL 3 17) = true := by kernel_rfl
theorem glF_17 : (prodN (od 17)).all (chkL 3 17) = true := by
 have h := glF_17_0
 rwa [List.drop_zero,List.take_of_length_le (by decide +kernel)] at h
theorem glF_40_0 : (((prodN (od 40)).drop 0).take 30).all (chkL 3 40) = true := by kernel_rfl
theorem glF_40 : (prodN (od 40)).all (chkL 3 40) = true := by
 have h := glF_40_0
 rwa [List.drop_zero,List.take_of_length_le (by decide +kernel)] at h
end Go.Proofs.YtlbckpljefadpaaGreat