/- Contracts of functions of the program, and what proves them (texts: GLF2). -/
import Derived.KernelRfl
import Derived.Test.YtlbckpljefadpaaGreatZFinFieldsAB
set_option linter.all false
namespace Go.Proofs.YtlbckpljefadpaaGreat
open Go Go.Lg Go.Num
set_option maxRecDepth 100000
theorem glF_21_0 : (((prodN (od 21)).drop 0).take 30).all (chkL 3 21) = true := by kernel_rfl
theorem glF_21 : (prodN (od 21)).all (chkL 3 21) = true := by
 have h := glF_21_0
 rwa [List.drop_zero,List.take_of_length_le (by decide +kernel)] at h
theorem glF_7_0 : (((prodN (od 7)).drop 0).take 30).all (chkL 3 7) = true := by kernel_rfl
theorem glF_7 : (prodN (od 7)).all (chkL 3 7) = true := by
 have h := glF_7_0
 rwa [List.drop_zero,List.take_of_length_le (by decide +kernel)] at h
theorem glF_28_0 : (((prodN (od 28)).drop 0).take 30).all (chkL 3 28) = true := by kernel_rfl
theorem glF_28 : (prodN (od 28)).all (chkL 3 28) = true := by
 have h := glF_28_0
 rwa [List.drop_zero,List.take_of_length_le (by decide +kernel)] at h
theorem glF_12_0 : (((prodN (od 12)).drop 0).take 30).all (chkL 3 12) = true := by kernel_rfl
theorem glF_12 : (prodN (od 12)).all (chkL 3 12) = true := by
 have h := glF_12_0
 rwa [List.drop_zero,List.take_of_length_le (by decide +kernel)] at h
theorem glF_22_0 : (((prodN (od 22)).drop 0).take 30).all (chkL 3 22) = true := by kernel_rfl
theorem glF_22 : (prodN (od 22)).all (chkL 3 22) = true := by
 have h := glF_22_0
 rwa [List.drop_zero,List.take_of_length_le (by decide +kernel)] at h
theorem glF_59_0 : (((prodN (od 59)).drop 0).take 30).all (chkL 3 59) = true := by kernel_rfl
theorem glF_59_1 : (((prodN (od 59)).drop 30).take 30).all (chkL 3 59) = true := by kernel_rfl
theorem glF_59 : (prodN (od 59)).all (chkL 3 59) = true := all_parts 30 2 (by decide +kernel) (by intro j hj;match j,hj with
 | 0,_ => exact glF_59_0
 | 1,_ => exact glF_59_1)
theorem glF_43_0 : (((prodN (od 43)).drop 0).take 30).all (chkL 3 43) = true := by kernel_rfl
theorem glF_43_1 : (((prodN (od 43)).drop 30).take 30).all (chkL 3 43) = true := by kernel_rfl
theorem glF_43 : (prodN (od 43)).all (chkL 3 43) = true := all_parts 30 2 (by decide +kernel) (by intro j hj;match j,hj with
 | 0,_ => exact glF_43_0
 | 1,_ => exact glF_43_1)
theorem glF_41_0 : (((prodN (od 41)).drop 0).take 30).all (chkL 3 41) = true := by kernel_rfl
theorem glF_41_1 : (((prodN (od 41)).drop 30).take 30).all (chkL 3 41) = true := by kernel_rfl
theorem glF_41 : (prodN (od 41)).all (chkL 3 41) = true := all_parts 30 2 (by decide +kernel) (by intro j hj;match j,hj with
 | 0,_ => exact glF_41_0
 | 1,_ => exact glF_41_1)
theorem glF_31_0 : (((prodN (od 31)).drop 0).take 30).all (chkL 3 31) = true := by kernel_rfl
theorem glF_31 : (prodN (od 31)).all (chkL 3 31) = true := by
 have h := glF_31_0
 rwa [List.drop_zero,List.take_of_length_le (by decide +kernel)] at h
theorem glF_39_0 : (((prodN (od 39)).drop 0).take 30).all (chkL 3 39) = true := by kernel_rfl
theorem glF_39 : (prodN (od 39)).all (chkL 3 39) = true := by
 have h := glF_39_0
 rwa [List.drop_zero,List.take_of_length_le (by decide +kernel)] at h
theorem glF_1_0 : (((prodN (od 1)).drop 0).take 30).all (chkL 3 1) = true := by kernel_rfl
theorem glF_1 : (prodN (od 1)).all (chkL 3 1) = true := by
 have h := glF_1_0
 rwa [List.drop_zero,List.take_of_length_le (by decide +kernel)] at h
theorem glF_46_0 : (((prodN (od 46)).drop 0).take 30).all (chkL 3 46) = true := by kernel_rfl
theorem glF_46 : (prodN (od 46)).all (chkL 3 46) = true := by
 have h := glF_46_0
 rwa [List.drop_zero,List.take_of_length_le (by decide +kernel)] at h
theorem glF_38_0 : (((prodN (od 38)).drop 0).take 30).all (chkL 3 38) = true := by kernel_rfl
theorem glF_38 : (prodN (od 38)).all (chkL 3 38) = true := by
 have h := glF_38_0
 rwa [List.drop_zero,List.take_of_length_le (by decide +kernel)] at h
theorem glF_32_0 : (((prodN (od 32)).drop 0).take 30).all (chkL 3 32) = true := by kernel_rfl
theorem glF_32 : (prodN (od 32)).all (chkL 3 32) = true := by
 have h := glF_32_0
 rwa [List.drop_zero,List.take_of_length_le (by decide +kernel)] at h
theorem glF_48_0 : (((prodN (od 48)).drop 0).take 30).all (chkL 3 48) = true := by kernel_rfl
theorem glF_48 : (prodN (od 48)).all (chkL 3 48) = true := by
 have h := glF_48_0
 rwa [List.drop_zero,List.take_of_length_le (by decide +kernel)] at h
end Go.Proofs.YtlbckpljefadpaaGreat