/- Contracts of functions of the program, and what proves them (texts: G9f). -/
import Derived.KernelRfl
import Derived.Test.YtlbckpljefadpaaGreatZFinElementsAF
set_option linter.all false
namespace Go.Proofs.YtlbckpljefadpaaGreat
open Go Go.Lg Go.Num
set_option maxRecDepth 100000
theorem el_26_0 : (((fracs 26).drop 0).take 2).all (chkEl 26) = true := by kernel_rfl
theorem el_26_1 : (((fracs 26).drop 2).take 2).all (chkEl 26) = true := by kernel_rfl
theorem el_26_2 : (((fracs 26).drop 4).take 2).all (chkEl 26) = true := by kernel_rfl
theorem el_26_3 : (((fracs 26).drop 6).take 2).all (chkEl 26) = true := by kernel_rfl
theorem el_26_4 : (((fracs 26).drop 8).take 2).all (chkEl 26) = true := by kernel_rfl
theorem el_26_5 : (((fracs 26).drop 10).take 2).all (chkEl 26) = true := by kernel_rfl
theorem el_26_6 : (((fracs 26).drop 12).take 2).all (chkEl 26) = true := by kernel_rfl
theorem el_26_7 : (((fracs 26).drop 14).take 2).all (chkEl 26) = true := by kernel_rfl
theorem el_26_8 : (((fracs 26).drop 16).take 2).all (chkEl 26) = true := by kernel_rfl
theorem el_26_9 : (((fracs 26).drop 18).take 2).all (chkEl 26) = true := by kernel_rfl
theorem el_26_10 : (((fracs 26).drop 20).take 2).all (chkEl 26) = true := by kernel_rfl
theorem el_26_11 : (((fracs 26).drop 22).take 2).all (chkEl 26) = true := by kernel_rfl
theorem el_26_12 : (((fracs 26).drop 24).take 2).all (chkEl 26) = true := by kernel_rfl
theorem el_26 : (fracs 26).all (chkEl 26) = true := all_parts 2 13 (by decide +kernel) (by intro j hj;match j,hj with
 | 0,_ => exact el_26_0
 | 1,_ => exact el_26_1
 | 2,_ => exact el_26_2
 | 3,_ => exact el_26_3
 | 4,_ => exact el_26_4
 | 5,_ => exact el_26_5
 | 6,_ => exact el_26_6
 | 7,_ => exact el_26_7
 | 8,_ => exact el_26_8
 | 9,_ => exact el_26_9
 | 10,_ => exact el_26_10
 | 11,_ => exact el_26_11
 | 12,_ => exact el_26_12)
theorem el_21_0 : (((fracs 21).drop 0).take 2).all (chkEl 21) = true := by kernel_rfl
theorem el_21_1 : (((fracs 21).drop 2).take 2).all (chkEl 21) = true := by kernel_rfl
theorem el_21_2 : (((fracs 21).drop 4).take 2).all (chkEl 21) = true := by kernel_rfl
theorem el_21_3 : (((fracs 21).drop 6).take 2).all (chkEl 21) = true := by kernel_rfl
theorem el_21_4 : (((fracs 21).drop 8).take 2).all (chkEl 21) = true := by kernel_rfl
theorem el_21_5 : (((fracs 21).drop 10).take 2).all (chkEl 21) = true := by kernel_rfl
theorem el_21_6 : (((fracs 21).drop 12).take 2).all (chkEl 21) = true := by kernel_rfl
theorem el_21_7 : (((fracs 21).drop 14).take 2).all (chkEl 21) = true := by kernel_rfl
theorem el_21_8 : (((fracs 21).drop 16).take 2).all (chkEl 21) = true := by kernel_rfl
theorem el_21_9 : (((fracs 21).drop 18).take 2).all (chkEl 21) = true := by kernel_rfl
theorem el_21_10 : (((fracs 21).drop 20).take 2).all (chkEl 21) = true := by kernel_rfl
theorem el_21 : (fracs 21).all (chkEl 21) = true := all_parts 2 11 (by decide +kernel) (by intro j hj;match j,hj with
 | 0,_ => exact el_21_0
 | 1,_ => exact el_21_1
 | 2,_ => exact el_21_2
 | 3,_ => exact el_21_3
 | 4,_ => exact el_21_4
 | 5,_ => exact el_21_5
 | 6,_ => exact el_21_6
 | 7,_ => exact el_21_7
 | 8,_ => exact el_21_8
 | 9,_ => exact el_21_9
 | 10,_ => exact el_21_10)
theorem el_15_0 : (((fracs 15).drop 0).take 4).all (chkEl 15) = true := by kernel_rfl
theorem el_15_1 : (((fracs 15).drop 4).take 4).all (chkEl 15) = true := by kernel_rfl
theorem el_15_2 : (((fracs 15).drop 8).take 4).all (chkEl 15) = true := by kernel_rfl
theorem el_15_3 : (((fracs 15).drop 12).take 4).all (chkEl 15) = true := by kernel_rfl
theorem el_15 : (fracs 15).all (chkEl 15) = true := all_parts 4 4 (by decide +kernel) (by intro j hj;match j,hj with
 | 0,_ => exact el_15_0
 | 1,_ => exact el_15_1
 | 2,_ => exact el_15_2
 | 3,_ => exact el_15_3)
theorem el_10_0 : (((fracs 10).drop 0).take 6).all (chkEl 10) = true := by kernel_rfl
theorem el_10_1 : (((fracs 10).drop 6).take 6).all (chkEl 10) = true := by kernel_rfl
theorem el_10 : (fracs 10).all (chkEl 10) = true := all_parts 6 2 (by decide +kernel) (by intro j hj;match j,hj with
 | 0,_ => exact el_10_0
 | 1,_ => exact el_10_1)
theorem el_5_0 : (((fracs 5).drop 0).take 12).all (chkEl 5) = true := by kernel_rfl
theorem el_5 : (fracs 5).all (chkEl 5) = true := all_parts 12 1 (by decide +kernel) (by intro j hj;match j,hj with
 | 0,_ => exact el_5_0)
theorem el_2_0 : (((fracs 2).drop 0).take 30).all (chkEl 2) = true := by kernel_rfl
theorem el_2 : (fracs 2).all (chkEl 2) = true := all_parts 30 1 (by decide +kernel) (by intro j hj;match j,hj with
 | 0,_ => exact el_2_0)
end Go.Proofs.YtlbckpljefadpaaGreat