/- Contracts of functions of the program, and what proves them (texts: GLF3). -/
import Derived.KernelRfl
import Derived.Test.YtlbckpljefadpaaGreatZFinFieldsAB
set_option linter.all false
namespace Go.Proofs.YtlbckpljefadpaaGreat
open Go Go.Lg Go.Num
set_option maxRecDepth 100000
theorem glF_36_0 : (((prodN (od 36)).drop 0).take 30).all (chkL 3 36) = true := by kernel_rfl
theorem glF_36 : (prodN (od 36)).all (chkL 3 36) = true := by
 have h := glF_36_0
 rwa [List.drop_zero,List.take_of_length_le (by decide +kernel)] at h
theorem glF_16_0 : (((prodN (od 16)).drop 0).take 30).all (chkL 3 16) = true := by kernel_rfl
theorem glF_16 : (prodN (od 16)).all (chkL 3 16) = true := by
 have h := glF_16_0
 rwa [List.drop_zero,List.take_of_length_le (by decide +kernel)] at h
theorem glF_30_0 : (((prodN (od 30)).drop 0).take 30).all (chkL 3 30) = true := by kernel_rfl
theorem glF_30 : (prodN (od 30)).all (chkL 3 30) = true := by
 have h := glF_30_0
 rwa [List.drop_zero,List.take_of_length_le (by decide +kernel)] at h
theorem glF_5_0 : (((prodN (od 5)).drop 0).take 30).all (chkL 3 5) = true := by kernel_rfl
theorem glF_5 : (prodN (od 5)).all (chkL 3 5) = true := by
 have h := glF_5_0
 rwa [List.drop_zero,List.take_of_length_le (by decide +kernel)] at h
theorem glF_11_0 : (((prodN (od 11)).drop 0).take 30).all (chkL 3 11) = true := by kernel_rfl
theorem glF_11 : (prodN (od 11)).all (chkL 3 11) = true := by
 have h := glF_11_0
 rwa [List.drop_zero,List.take_of_length_le (by decide +kernel)] at h
theorem glF_6_0 : (((prodN (od 6)).drop 0).take 30).all (chkL 3 6) = true := by kernel_rfl
theorem glF_6 : (prodN (od 6)).all (chkL 3 6) = true := by
 have h := glF_6_0
 rwa [List.drop_zero,List.take_of_length_le (by decide +kernel)] at h
theorem glF_53_0 : (((prodN (od 53)).drop 0).take 30).all (chkL 3 53) = true := by kernel_rfl
theorem glF_53_1 : (((prodN (od 53)).drop 30).take 30).all (chkL 3 53) = true := by kernel_rfl
theorem glF_53 : (prodN (od 53)).all (chkL 3 53) = true := all_parts 30 2 (by decide +kernel) (by intro j hj;match j,hj with
 | 0,_ => exact glF_53_0
 | 1,_ => exact glF_53_1)
theorem glF_57_0 : (((prodN (od 57)).drop 0).take 30).all (chkL 3 57) = true := by kernel_rfl
theorem glF_57_1 : (((prodN (od 57)).drop 30).take 30).all (chkL 3 57) = true := by kernel_rfl
theorem glF_57 : (prodN (od 57)).all (chkL 3 57) = true := all_parts 30 2 (by decide +kernel) (by intro j hj;match j,hj with
 | 0,_ => exact glF_57_0
 | 1,_ => exact glF_57_1)
theorem glF_29_0 : (((prodN (od 29)).drop 0).take 30).all (chkL 3 29) = true := by kernel_rfl
theorem glF_29 : (prodN (od 29)).all (chkL 3 29) = true := by
 have h := glF_29_0
 rwa [List.drop_zero,List.take_of_length_le (by decide +kernel)] at h
theorem glF_2_0 : (((prodN (od 2)).drop 0).take 30).all (chkL 3 2) = true := by kernel_rfl
theorem glF_2 : (prodN (od 2)).all (chkL 3 2) = true := by
 have h := glF_2_0
 rwa [List.drop_zero,List.take_of_length_le (by decide +kernel)] at h
theorem glF_52_0 : (((prodN (od 52)).drop 0).take 30).all (chkL 3 52) = true := by kernel_rfl
theorem glF_52 : (prodN (od 52)).all (chkL 3 52) = true := by
 have h := glF_52_0
 rwa [List.drop_zero,List.take_of_length_le (by decide +kernel)] at h
theorem glF_25_0 : (((prodN (od 25)).drop 0).take 30).all (chkL 3 25) = true := by kernel_rfl
theorem glF_25 : (prodN (od 25)).all (chkL 3 25) = true := by
 have h := glF_25_0
 rwa [List.drop_zero,List.take_of_length_le (by decide +kernel)] at h
theorem glF_50_0 : (((prodN (od 50)).drop 0).take 30).all (chkL 3 50) = true := by kernel_rfl
theorem glF_50 : (prodN (od 50)).all (chkL 3 50) = true := by
 have h := glF_50_0
 rwa [List.drop_zero,List.take_of_length_le (by decide +kernel)] at h
theorem glF_34_0 : (((prodN (od 34)).drop 0).take 30).all (chkL 3 34) = true := by kernel_rfl
theorem glF_34 : (prodN (od 34)).all (chkL 3 34) = true := by
 have h := glF_34_0
 rwa [List.drop_zero,List.take_of_length_le (by decide +kernel)] at h
theorem glF_60_0 : (((prodN (od 60)).drop 0).take 30).all (chkL 3 60) = true := by kernel_rfl
theorem glF_60 : (prodN (od 60)).all (chkL 3 60) = true := by
 have h := glF_60_0
 rwa [List.drop_zero,List.take_of_length_le (by decide +kernel)] at h
end Go.Proofs.YtlbckpljefadpaaGreat