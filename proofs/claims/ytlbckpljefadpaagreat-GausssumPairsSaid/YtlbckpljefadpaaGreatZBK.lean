/- Contracts of functions of the program, and what proves them (texts: GC4). -/
import Derived.KernelRfl
import Derived.Test.YtlbckpljefadpaaGreatZBG
set_option linter.all false
namespace Go.Proofs.YtlbckpljefadpaaGreat
open Go Go.Lg Go.Num
set_option maxRecDepth 100000
theorem gc_57_0 : (((prodN (od 57)).drop 0).take 30).all (chkCd 57) = true := by kernel_rfl
theorem gc_57_1 : (((prodN (od 57)).drop 30).take 30).all (chkCd 57) = true := by kernel_rfl
theorem gc_57 : (prodN (od 57)).all (chkCd 57) = true := all_parts 30 2 (by decide +kernel) (by intro j hj;match j,hj with
 | 0,_ => exact gc_57_0
 | 1,_ => exact gc_57_1)
theorem gc_48_0 : (((prodN (od 48)).drop 0).take 30).all (chkCd 48) = true := by kernel_rfl
theorem gc_48 : (prodN (od 48)).all (chkCd 48) = true := all_parts 30 1 (by decide +kernel) (by intro j hj;match j,hj with
 | 0,_ => exact gc_48_0)
theorem gc_52_0 : (((prodN (od 52)).drop 0).take 30).all (chkCd 52) = true := by kernel_rfl
theorem gc_52 : (prodN (od 52)).all (chkCd 52) = true := all_parts 30 1 (by decide +kernel) (by intro j hj;match j,hj with
 | 0,_ => exact gc_52_0)
theorem gc_40_0 : (((prodN (od 40)).drop 0).take 30).all (chkCd 40) = true := by kernel_rfl
theorem gc_40 : (prodN (od 40)).all (chkCd 40) = true := all_parts 30 1 (by decide +kernel) (by intro j hj;match j,hj with
 | 0,_ => exact gc_40_0)
theorem gc_47_0 : (((prodN (od 47)).drop 0).take 30).all (chkCd 47) = true := by kernel_rfl
theorem gc_47_1 : (((prodN (od 47)).drop 30).take 30).all (chkCd 47) = true := by kernel_rfl
theorem gc_47 : (prodN (od 47)).all (chkCd 47) = true := all_parts 30 2 (by decide +kernel) (by intro j hj;match j,hj with
 | 0,_ => exact gc_47_0
 | 1,_ => exact gc_47_1)
theorem gc_46_0 : (((prodN (od 46)).drop 0).take 30).all (chkCd 46) = true := by kernel_rfl
theorem gc_46 : (prodN (od 46)).all (chkCd 46) = true := all_parts 30 1 (by decide +kernel) (by intro j hj;match j,hj with
 | 0,_ => exact gc_46_0)
theorem gc_33_0 : (((prodN (od 33)).drop 0).take 30).all (chkCd 33) = true := by kernel_rfl
theorem gc_33 : (prodN (od 33)).all (chkCd 33) = true := all_parts 30 1 (by decide +kernel) (by intro j hj;match j,hj with
 | 0,_ => exact gc_33_0)
theorem gc_38_0 : (((prodN (od 38)).drop 0).take 30).all (chkCd 38) = true := by kernel_rfl
theorem gc_38 : (prodN (od 38)).all (chkCd 38) = true := all_parts 30 1 (by decide +kernel) (by intro j hj;match j,hj with
 | 0,_ => exact gc_38_0)
theorem gc_24_0 : (((prodN (od 24)).drop 0).take 30).all (chkCd 24) = true := by kernel_rfl
theorem gc_24 : (prodN (od 24)).all (chkCd 24) = true := all_parts 30 1 (by decide +kernel) (by intro j hj;match j,hj with
 | 0,_ => exact gc_24_0)
theorem gc_23_0 : (((prodN (od 23)).drop 0).take 30).all (chkCd 23) = true := by kernel_rfl
theorem gc_23 : (prodN (od 23)).all (chkCd 23) = true := all_parts 30 1 (by decide +kernel) (by intro j hj;match j,hj with
 | 0,_ => exact gc_23_0)
theorem gc_17_0 : (((prodN (od 17)).drop 0).take 30).all (chkCd 17) = true := by kernel_rfl
theorem gc_17 : (prodN (od 17)).all (chkCd 17) = true := all_parts 30 1 (by decide +kernel) (by intro j hj;match j,hj with
 | 0,_ => exact gc_17_0)
theorem gc_13_0 : (((prodN (od 13)).drop 0).take 30).all (chkCd 13) = true := by kernel_rfl
theorem gc_13 : (prodN (od 13)).all (chkCd 13) = true := all_parts 30 1 (by decide +kernel) (by intro j hj;match j,hj with
 | 0,_ => exact gc_13_0)
theorem gc_12_0 : (((prodN (od 12)).drop 0).take 30).all (chkCd 12) = true := by kernel_rfl
theorem gc_12 : (prodN (od 12)).all (chkCd 12) = true := all_parts 30 1 (by decide +kernel) (by intro j hj;match j,hj with
 | 0,_ => exact gc_12_0)
theorem gc_6_0 : (((prodN (od 6)).drop 0).take 30).all (chkCd 6) = true := by kernel_rfl
theorem gc_6 : (prodN (od 6)).all (chkCd 6) = true := all_parts 30 1 (by decide +kernel) (by intro j hj;match j,hj with
 | 0,_ => exact gc_6_0)
theorem gc_3_0 : (((prodN (od 3)).drop 0).take 30).all (chkCd 3) = true := by kernel_rfl
theorem gc_3 : (prodN (od 3)).all (chkCd 3) = true := all_parts 30 1 (by decide +kernel) (by intro j hj;match j,hj with
 | 0,_ => exact gc_3_0)
end Go.Proofs.YtlbckpljefadpaaGreat