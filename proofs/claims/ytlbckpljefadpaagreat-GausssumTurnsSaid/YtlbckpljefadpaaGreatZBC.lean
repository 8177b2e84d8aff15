/- Contracts of functions of the program, and what proves them (texts: GB2). -/
import Derived.KernelRfl
import Derived.Test.YtlbckpljefadpaaGreatZBA
set_option linter.all false
namespace Go.Proofs.YtlbckpljefadpaaGreat
open Go Go.Lg Go.Num
set_option maxRecDepth 100000
theorem gb_53_0 : (((prodN (od 53)).drop 0).take 30).all (chkB 53) = true := by kernel_rfl
theorem gb_53_1 : (((prodN (od 53)).drop 30).take 30).all (chkB 53) = true := by kernel_rfl
theorem gb_53 : (prodN (od 53)).all (chkB 53) = true := all_parts 30 2 (by decide +kernel) (by intro j hj;match j,hj with
 | 0,_ => exact gb_53_0
 | 1,_ => exact gb_53_1)
theorem gb_55_0 : (((prodN (od 55)).drop 0).take 30).all (chkB 55) = true := by kernel_rfl
theorem gb_55_1 : (((prodN (od 55)).drop 30).take 30).all (chkB 55) = true := by kernel_rfl
theorem gb_55 : (prodN (od 55)).all (chkB 55) = true := all_parts 30 2 (by decide +kernel) (by intro j hj;match j,hj with
 | 0,_ => exact gb_55_0
 | 1,_ => exact gb_55_1)
theorem gb_31_0 : (((prodN (od 31)).drop 0).take 30).all (chkB 31) = true := by kernel_rfl
theorem gb_31 : (prodN (od 31)).all (chkB 31) = true := all_parts 30 1 (by decide +kernel) (by intro j hj;match j,hj with
 | 0,_ => exact gb_31_0)
theorem gb_45_0 : (((prodN (od 45)).drop 0).take 30).all (chkB 45) = true := by kernel_rfl
theorem gb_45 : (prodN (od 45)).all (chkB 45) = true := all_parts 30 1 (by decide +kernel) (by intro j hj;match j,hj with
 | 0,_ => exact gb_45_0)
theorem gb_23_0 : (((prodN (od 23)).drop 0).take 30).all (chkB 23) = true := by kernel_rfl
theorem gb_23 : (prodN (od 23)).all (chkB 23) = true := all_parts 30 1 (by decide +kernel) (by intro j hj;match j,hj with
 | 0,_ => exact gb_23_0)
theorem gb_25_0 : (((prodN (od 25)).drop 0).take 30).all (chkB 25) = true := by kernel_rfl
theorem gb_25 : (prodN (od 25)).all (chkB 25) = true := all_parts 30 1 (by decide +kernel) (by intro j hj;match j,hj with
 | 0,_ => exact gb_25_0)
theorem gb_19_0 : (((prodN (od 19)).drop 0).take 30).all (chkB 19) = true := by kernel_rfl
theorem gb_19 : (prodN (od 19)).all (chkB 19) = true := all_parts 30 1 (by decide +kernel) (by intro j hj;match j,hj with
 | 0,_ => exact gb_19_0)
theorem gb_17_0 : (((prodN (od 17)).drop 0).take 30).all (chkB 17) = true := by kernel_rfl
theorem gb_17 : (prodN (od 17)).all (chkB 17) = true := all_parts 30 1 (by decide +kernel) (by intro j hj;match j,hj with
 | 0,_ => exact gb_17_0)
theorem gb_48_0 : (((prodN (od 48)).drop 0).take 30).all (chkB 48) = true := by kernel_rfl
theorem gb_48 : (prodN (od 48)).all (chkB 48) = true := all_parts 30 1 (by decide +kernel) (by intro j hj;match j,hj with
 | 0,_ => exact gb_48_0)
theorem gb_36_0 : (((prodN (od 36)).drop 0).take 30).all (chkB 36) = true := by kernel_rfl
theorem gb_36 : (prodN (od 36)).all (chkB 36) = true := all_parts 30 1 (by decide +kernel) (by intro j hj;match j,hj with
 | 0,_ => exact gb_36_0)
theorem gb_15_0 : (((prodN (od 15)).drop 0).take 30).all (chkB 15) = true := by kernel_rfl
theorem gb_15 : (prodN (od 15)).all (chkB 15) = true := all_parts 30 1 (by decide +kernel) (by intro j hj;match j,hj with
 | 0,_ => exact gb_15_0)
theorem gb_30_0 : (((prodN (od 30)).drop 0).take 30).all (chkB 30) = true := by kernel_rfl
theorem gb_30 : (prodN (od 30)).all (chkB 30) = true := all_parts 30 1 (by decide +kernel) (by intro j hj;match j,hj with
 | 0,_ => exact gb_30_0)
theorem gb_5_0 : (((prodN (od 5)).drop 0).take 30).all (chkB 5) = true := by kernel_rfl
theorem gb_5 : (prodN (od 5)).all (chkB 5) = true := all_parts 30 1 (by decide +kernel) (by intro j hj;match j,hj with
 | 0,_ => exact gb_5_0)
theorem gb_8_0 : (((prodN (od 8)).drop 0).take 30).all (chkB 8) = true := by kernel_rfl
theorem gb_8 : (prodN (od 8)).all (chkB 8) = true := all_parts 30 1 (by decide +kernel) (by intro j hj;match j,hj with
 | 0,_ => exact gb_8_0)
theorem gb_6_0 : (((prodN (od 6)).drop 0).take 30).all (chkB 6) = true := by kernel_rfl
theorem gb_6 : (prodN (od 6)).all (chkB 6) = true := all_parts 30 1 (by decide +kernel) (by intro j hj;match j,hj with
 | 0,_ => exact gb_6_0)
end Go.Proofs.YtlbckpljefadpaaGreat