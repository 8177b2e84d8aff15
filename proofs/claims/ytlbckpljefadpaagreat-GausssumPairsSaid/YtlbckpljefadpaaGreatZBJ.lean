/- Contracts of functions of the program, and what proves them (texts: GC3). -/
import Derived.KernelRfl
import Derived.Test.YtlbckpljefadpaaGreatZBG
set_option linter.all false
namespace Go.Proofs.YtlbckpljefadpaaGreat
open Go Go.Lg Go.Num
set_option maxRecDepth 100000
theorem gc_55_0 : (((prodN (od 55)).drop 0).take 30).all (chkCd 55) = true := by kernel_rfl
theorem gc_55_1 : (((prodN (od 55)).drop 30).take 30).all (chkCd 55) = true := by kernel_rfl
theorem gc_55 : (prodN (od 55)).all (chkCd 55) = true := all_parts 30 2 (by decide +kernel) (by intro j hj;match j,hj with
 | 0,_ => exact gc_55_0
 | 1,_ => exact gc_55_1)
theorem gc_59_0 : (((prodN (od 59)).drop 0).take 30).all (chkCd 59) = true := by kernel_rfl
theorem gc_59_1 : (((prodN (od 59)).drop 30).take 30).all (chkCd 59) = true := by kernel_rfl
theorem gc_59 : (prodN (od 59)).all (chkCd 59) = true := all_parts 30 2 (by decide +kernel) (by intro j hj;match j,hj with
 | 0,_ => exact gc_59_0
 | 1,_ => exact gc_59_1)
theorem gc_54_0 : (((prodN (od 54)).drop 0).take 30).all (chkCd 54) = true := by kernel_rfl
theorem gc_54 : (prodN (od 54)).all (chkCd 54) = true := all_parts 30 1 (by decide +kernel) (by intro j hj;match j,hj with
 | 0,_ => exact gc_54_0)
theorem gc_50_0 : (((prodN (od 50)).drop 0).take 30).all (chkCd 50) = true := by kernel_rfl
theorem gc_50 : (prodN (od 50)).all (chkCd 50) = true := all_parts 30 1 (by decide +kernel) (by intro j hj;match j,hj with
 | 0,_ => exact gc_50_0)
theorem gc_35_0 : (((prodN (od 35)).drop 0).take 30).all (chkCd 35) = true := by kernel_rfl
theorem gc_35 : (prodN (od 35)).all (chkCd 35) = true := all_parts 30 1 (by decide +kernel) (by intro j hj;match j,hj with
 | 0,_ => exact gc_35_0)
theorem gc_39_0 : (((prodN (od 39)).drop 0).take 30).all (chkCd 39) = true := by kernel_rfl
theorem gc_39 : (prodN (od 39)).all (chkCd 39) = true := all_parts 30 1 (by decide +kernel) (by intro j hj;match j,hj with
 | 0,_ => exact gc_39_0)
theorem gc_42_0 : (((prodN (od 42)).drop 0).take 30).all (chkCd 42) = true := by kernel_rfl
theorem gc_42 : (prodN (od 42)).all (chkCd 42) = true := all_parts 30 1 (by decide +kernel) (by intro j hj;match j,hj with
 | 0,_ => exact gc_42_0)
theorem gc_29_0 : (((prodN (od 29)).drop 0).take 30).all (chkCd 29) = true := by kernel_rfl
theorem gc_29 : (prodN (od 29)).all (chkCd 29) = true := all_parts 30 1 (by decide +kernel) (by intro j hj;match j,hj with
 | 0,_ => exact gc_29_0)
theorem gc_30_0 : (((prodN (od 30)).drop 0).take 30).all (chkCd 30) = true := by kernel_rfl
theorem gc_30 : (prodN (od 30)).all (chkCd 30) = true := all_parts 30 1 (by decide +kernel) (by intro j hj;match j,hj with
 | 0,_ => exact gc_30_0)
theorem gc_26_0 : (((prodN (od 26)).drop 0).take 30).all (chkCd 26) = true := by kernel_rfl
theorem gc_26 : (prodN (od 26)).all (chkCd 26) = true := all_parts 30 1 (by decide +kernel) (by intro j hj;match j,hj with
 | 0,_ => exact gc_26_0)
theorem gc_22_0 : (((prodN (od 22)).drop 0).take 30).all (chkCd 22) = true := by kernel_rfl
theorem gc_22 : (prodN (od 22)).all (chkCd 22) = true := all_parts 30 1 (by decide +kernel) (by intro j hj;match j,hj with
 | 0,_ => exact gc_22_0)
theorem gc_15_0 : (((prodN (od 15)).drop 0).take 30).all (chkCd 15) = true := by kernel_rfl
theorem gc_15 : (prodN (od 15)).all (chkCd 15) = true := all_parts 30 1 (by decide +kernel) (by intro j hj;match j,hj with
 | 0,_ => exact gc_15_0)
theorem gc_9_0 : (((prodN (od 9)).drop 0).take 30).all (chkCd 9) = true := by kernel_rfl
theorem gc_9 : (prodN (od 9)).all (chkCd 9) = true := all_parts 30 1 (by decide +kernel) (by intro j hj;match j,hj with
 | 0,_ => exact gc_9_0)
theorem gc_5_0 : (((prodN (od 5)).drop 0).take 30).all (chkCd 5) = true := by kernel_rfl
theorem gc_5 : (prodN (od 5)).all (chkCd 5) = true := all_parts 30 1 (by decide +kernel) (by intro j hj;match j,hj with
 | 0,_ => exact gc_5_0)
theorem gc_4_0 : (((prodN (od 4)).drop 0).take 30).all (chkCd 4) = true := by kernel_rfl
theorem gc_4 : (prodN (od 4)).all (chkCd 4) = true := all_parts 30 1 (by decide +kernel) (by intro j hj;match j,hj with
 | 0,_ => exact gc_4_0)
end Go.Proofs.YtlbckpljefadpaaGreat