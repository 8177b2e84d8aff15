/- Contracts of functions of the program, and what proves them (texts: GLF4). -/
import Derived.KernelRfl
import Derived.Test.YtlbckpljefadpaaGreatZFinFieldsAB
set_option linter.all false
namespace Go.Proofs.YtlbckpljefadpaaGreat
open Go Go.Lg Go.Num
set_option maxRecDepth 100000
theorem glF_24_0 : (((prodN (od 24)).drop 0).take 30).all (chkL 3 24) = true := by kernel_rfl
theorem glF_24 : (prodN (od 24)).all (chkL 3 24) = true := by
 have h := glF_24_0
 rwa [List.drop_zero,List.take_of_length_le (by decide +kernel)] at h
theorem glF_14_0 : (((prodN (od 14)).drop 0).take 30).all (chkL 3 14) = true := by kernel_rfl
theorem glF_14 : (prodN (od 14)).all (chkL 3 14) = true := by
 have h := glF_14_0
 rwa [List.drop_zero,List.take_of_length_le (by decide +kernel)] at h
theorem glF_20_0 : (((prodN (od 20)).drop 0).take 30).all (chkL 3 20) = true := by kernel_rfl
theorem glF_20 : (prodN (od 20)).all (chkL 3 20) = true := by
 have h := glF_20_0
 rwa [List.drop_zero,List.take_of_length_le (by decide +kernel)] at h
theorem glF_15_0 : (((prodN (od 15)).drop 0).take 30).all (chkL 3 15) = true := by kernel_rfl
theorem glF_15 : (prodN (od 15)).all (chkL 3 15) = true := by
 have h := glF_15_0
 rwa [List.drop_zero,List.take_of_length_le (by decide +kernel)] at h
theorem glF_10_0 : (((prodN (od 10)).drop 0).take 30).all (chkL 3 10) = true := by kernel_rfl
theorem glF_10 : (prodN (od 10)).all (chkL 3 10) = true := by
 have h := glF_10_0
 rwa [List.drop_zero,List.take_of_length_le (by decide +kernel)] at h
theorem glF_13_0 : (((prodN (od 13)).drop 0).take 30).all (chkL 3 13) = true := by kernel_rfl
theorem glF_13 : (prodN (od 13)).all (chkL 3 13) = true := by
 have h := glF_13_0
 rwa [List.drop_zero,List.take_of_length_le (by decide +kernel)] at h
theorem glF_3_0 : (((prodN (od 3)).drop 0).take 30).all (chkL 3 3) = true := by kernel_rfl
theorem glF_3 : (prodN (od 3)).all (chkL 3 3) = true := by
 have h := glF_3_0
 rwa [List.drop_zero,List.take_of_length_le (by decide +kernel)] at h
theorem glF_47_0 : (((prodN (od 47)).drop 0).take 30).all (chkL 3 47) = true := by kernel_rfl
theorem glF_47_1 : (((prodN (od 47)).drop 30).take 30).all (chkL 3 47) = true := by kernel_rfl
theorem glF_47 : (prodN (od 47)).all (chkL 3 47) = true := all_parts 30 2 (by decide +kernel) (by intro j hj;match j,hj with
 | 0,_ => exact glF_47_0
 | 1,_ => exact glF_47_1)
theorem glF_37_0 : (((prodN (od 37)).drop 0).take 30).all (chkL 3 37) = true := by kernel_rfl
theorem glF_37_1 : (((prodN (od 37)).drop 30).take 30).all (chkL 3 37) = true := by kernel_rfl
theorem glF_37 : (prodN (od 37)).all (chkL 3 37) = true := all_parts 30 2 (by decide +kernel) (by intro j hj;match j,hj with
 | 0,_ => exact glF_37_0
 | 1,_ => exact glF_37_1)
theorem glF_51_0 : (((prodN (od 51)).drop 0).take 30).all (chkL 3 51) = true := by kernel_rfl
theorem glF_51_1 : (((prodN (od 51)).drop 30).take 30).all (chkL 3 51) = true := by kernel_rfl
theorem glF_51 : (prodN (od 51)).all (chkL 3 51) = true := all_parts 30 2 (by decide +kernel) (by intro j hj;match j,hj with
 | 0,_ => exact glF_51_0
 | 1,_ => exact glF_51_1)
theorem glF_45_0 : (((prodN (od 45)).drop 0).take 30).all (chkL 3 45) = true := by kernel_rfl
theorem glF_45 : (prodN (od 45)).all (chkL 3 45) = true := by
 have h := glF_45_0
 rwa [List.drop_zero,List.take_of_length_le (by decide +kernel)] at h
theorem glF_23_0 : (((prodN (od 23)).drop 0).take 30).all (chkL 3 23) = true := by kernel_rfl
theorem glF_23 : (prodN (od 23)).all (chkL 3 23) = true := by
 have h := glF_23_0
 rwa [List.drop_zero,List.take_of_length_le (by decide +kernel)] at h
theorem glF_33_0 : (((prodN (od 33)).drop 0).take 30).all (chkL 3 33) = true := by kernel_rfl
theorem glF_33 : (prodN (od 33)).all (chkL 3 33) = true := by
 have h := glF_33_0
 rwa [List.drop_zero,List.take_of_length_le (by decide +kernel)] at h
theorem glF_19_0 : (((prodN (od 19)).drop 0).take 30).all (chkL 3 19) = true := by kernel_rfl
theorem glF_19 : (prodN (od 19)).all (chkL 3 19) = true := by
 have h := glF_19_0
 rwa [List.drop_zero,List.take_of_length_le (by decide +kernel)] at h
theorem glF_54_0 : (((prodN (od 54)).drop 0).take 30).all (chkL 3 54) = true := by kernel_rfl
theorem glF_54 : (prodN (od 54)).all (chkL 3 54) = true := by
 have h := glF_54_0
 rwa [List.drop_zero,List.take_of_length_le (by decide +kernel)] at h
end Go.Proofs.YtlbckpljefadpaaGreat