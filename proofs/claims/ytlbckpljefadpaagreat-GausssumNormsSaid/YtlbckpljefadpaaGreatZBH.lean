/- Contracts of functions of the program, and what proves them (texts: GC1). -/
import Derived.KernelRfl
import Derived.Test.YtlbckpljefadpaaGreatZBG
set_option linter.all false
namespace Go.Proofs.YtlbckpljefadpaaGreat
open Go Go.Lg Go.Num
set_option maxRecDepth 100000
theorem gc_56_0 : (((prodN (od 56)).drop 0).take 30).all (chkCd 56) = true := by kernel_rfl
theorem gc_56 : (prodN (od 56)).all (chkCd 56) = true := all_parts 30 1 (by decide +kernel) (by intro j hj;match j,hj with
 | 0,_ => exact gc_56_0)
theorem gc_49_0 : (((prodN (od 49)).drop 0).take 30).all (chkCd 49) = true := by kernel_rfl
theorem gc_49_1 : (((prodN (od 49)).drop 30).take 30).all (chkCd 49) = true := by kernel_rfl
theorem gc_49 : (prodN (od 49)).all (chkCd 49) = true := all_parts 30 2 (by decide +kernel) (by intro j hj;match j,hj with
 | 0,_ => exact gc_49_0
 | 1,_ => exact gc_49_1)
theorem gc_53_0 : (((prodN (od 53)).drop 0).take 30).all (chkCd 53) = true := by kernel_rfl
theorem gc_53_1 : (((prodN (od 53)).drop 30).take 30).all (chkCd 53) = true := by kernel_rfl
theorem gc_53 : (prodN (od 53)).all (chkCd 53) = true := all_parts 30 2 (by decide +kernel) (by intro j hj;match j,hj with
 | 0,_ => exact gc_53_0
 | 1,_ => exact gc_53_1)
theorem gc_58_0 : (((prodN (od 58)).drop 0).take 30).all (chkCd 58) = true := by kernel_rfl
theorem gc_58 : (prodN (od 58)).all (chkCd 58) = true := all_parts 30 1 (by decide +kernel) (by intro j hj;match j,hj with
 | 0,_ => exact gc_58_0)
theorem gc_36_0 : (((prodN (od 36)).drop 0).take 30).all (chkCd 36) = true := by kernel_rfl
theorem gc_36 : (prodN (od 36)).all (chkCd 36) = true := all_parts 30 1 (by decide +kernel) (by intro j hj;match j,hj with
 | 0,_ => exact gc_36_0)
theorem gc_41_0 : (((prodN (od 41)).drop 0).take 30).all (chkCd 41) = true := by kernel_rfl
theorem gc_41_1 : (((prodN (od 41)).drop 30).take 30).all (chkCd 41) = true := by kernel_rfl
theorem gc_41 : (prodN (od 41)).all (chkCd 41) = true := all_parts 30 2 (by decide +kernel) (by intro j hj;match j,hj with
 | 0,_ => exact gc_41_0
 | 1,_ => exact gc_41_1)
theorem gc_27_0 : (((prodN (od 27)).drop 0).take 30).all (chkCd 27) = true := by kernel_rfl
theorem gc_27 : (prodN (od 27)).all (chkCd 27) = true := all_parts 30 1 (by decide +kernel) (by intro j hj;match j,hj with
 | 0,_ => exact gc_27_0)
theorem gc_31_0 : (((prodN (od 31)).drop 0).take 30).all (chkCd 31) = true := by kernel_rfl
theorem gc_31 : (prodN (od 31)).all (chkCd 31) = true := all_parts 30 1 (by decide +kernel) (by intro j hj;match j,hj with
 | 0,_ => exact gc_31_0)
theorem gc_25_0 : (((prodN (od 25)).drop 0).take 30).all (chkCd 25) = true := by kernel_rfl
theorem gc_25 : (prodN (od 25)).all (chkCd 25) = true := all_parts 30 1 (by decide +kernel) (by intro j hj;match j,hj with
 | 0,_ => exact gc_25_0)
theorem gc_21_0 : (((prodN (od 21)).drop 0).take 30).all (chkCd 21) = true := by kernel_rfl
theorem gc_21 : (prodN (od 21)).all (chkCd 21) = true := all_parts 30 1 (by decide +kernel) (by intro j hj;match j,hj with
 | 0,_ => exact gc_21_0)
theorem gc_19_0 : (((prodN (od 19)).drop 0).take 30).all (chkCd 19) = true := by kernel_rfl
theorem gc_19 : (prodN (od 19)).all (chkCd 19) = true := all_parts 30 1 (by decide +kernel) (by intro j hj;match j,hj with
 | 0,_ => exact gc_19_0)
theorem gc_11_0 : (((prodN (od 11)).drop 0).take 30).all (chkCd 11) = true := by kernel_rfl
theorem gc_11 : (prodN (od 11)).all (chkCd 11) = true := all_parts 30 1 (by decide +kernel) (by intro j hj;match j,hj with
 | 0,_ => exact gc_11_0)
theorem gc_14_0 : (((prodN (od 14)).drop 0).take 30).all (chkCd 14) = true := by kernel_rfl
theorem gc_14 : (prodN (od 14)).all (chkCd 14) = true := all_parts 30 1 (by decide +kernel) (by intro j hj;match j,hj with
 | 0,_ => exact gc_14_0)
theorem gc_7_0 : (((prodN (od 7)).drop 0).take 30).all (chkCd 7) = true := by kernel_rfl
theorem gc_7 : (prodN (od 7)).all (chkCd 7) = true := all_parts 30 1 (by decide +kernel) (by intro j hj;match j,hj with
 | 0,_ => exact gc_7_0)
theorem gc_2_0 : (((prodN (od 2)).drop 0).take 30).all (chkCd 2) = true := by kernel_rfl
theorem gc_2 : (prodN (od 2)).all (chkCd 2) = true := all_parts 30 1 (by decide +kernel) (by intro j hj;match j,hj with
 | 0,_ => exact gc_2_0)
end Go.Proofs.YtlbckpljefadpaaGreat