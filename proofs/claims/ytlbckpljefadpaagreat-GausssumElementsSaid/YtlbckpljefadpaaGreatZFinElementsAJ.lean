/- Contracts of functions of the program, and what proves them (texts: G9d). -/
import Derived.KernelRfl
import Derived.Test.YtlbckpljefadpaaGreatZFinElementsAF
set_option linter.all false
namespace Go.Proofs.YtlbckpljefadpaaGreat
open Go Go.Lg Go.Num
set_option maxRecDepth 100000
theorem el_28_0 : (((fracs 28).drop 0).take 2).all (chkEl 28) = true := by kernel_rfl
theorem el_28_1 : (((fracs 28).drop 2).take 2).all (chkEl 28) = true := by kernel_rfl
theorem el_28_2 : (((fracs 28).drop 4).take 2).all (chkEl 28) = true := by kernel_rfl
theorem el_28_3 : (((fracs 28).drop 6).take 2).all (chkEl 28) = true := by kernel_rfl
theorem el_28_4 : (((fracs 28).drop 8).take 2).all (chkEl 28) = true := by kernel_rfl
theorem el_28_5 : (((fracs 28).drop 10).take 2).all (chkEl 28) = true := by kernel_rfl
theorem el_28_6 : (((fracs 28).drop 12).take 2).all (chkEl 28) = true := by kernel_rfl
theorem el_28_7 : (((fracs 28).drop 14).take 2).all (chkEl 28) = true := by kernel_rfl
theorem el_28_8 : (((fracs 28).drop 16).take 2).all (chkEl 28) = true := by kernel_rfl
theorem el_28_9 : (((fracs 28).drop 18).take 2).all (chkEl 28) = true := by kernel_rfl
theorem el_28_10 : (((fracs 28).drop 20).take 2).all (chkEl 28) = true := by kernel_rfl
theorem el_28_11 : (((fracs 28).drop 22).take 2).all (chkEl 28) = true := by kernel_rfl
theorem el_28_12 : (((fracs 28).drop 24).take 2).all (chkEl 28) = true := by kernel_rfl
theorem el_28_13 : (((fracs 28).drop 26).take 2).all (chkEl 28) = true := by kernel_rfl
theorem el_28 : (fracs 28).all (chkEl 28) = true := all_parts 2 14 (by decide +kernel) (by intro j hj;match j,hj with
 | 0,_ => exact el_28_0
 | 1,_ => exact el_28_1
 | 2,_ => exact el_28_2
 | 3,_ => exact el_28_3
 | 4,_ => exact el_28_4
 | 5,_ => exact el_28_5
 | 6,_ => exact el_28_6
 | 7,_ => exact el_28_7
 | 8,_ => exact el_28_8
 | 9,_ => exact el_28_9
 | 10,_ => exact el_28_10
 | 11,_ => exact el_28_11
 | 12,_ => exact el_28_12
 | 13,_ => exact el_28_13)
theorem el_20_0 : (((fracs 20).drop 0).take 3).all (chkEl 20) = true := by kernel_rfl
theorem el_20_1 : (((fracs 20).drop 3).take 3).all (chkEl 20) = true := by kernel_rfl
theorem el_20_2 : (((fracs 20).drop 6).take 3).all (chkEl 20) = true := by kernel_rfl
theorem el_20_3 : (((fracs 20).drop 9).take 3).all (chkEl 20) = true := by kernel_rfl
theorem el_20_4 : (((fracs 20).drop 12).take 3).all (chkEl 20) = true := by kernel_rfl
theorem el_20_5 : (((fracs 20).drop 15).take 3).all (chkEl 20) = true := by kernel_rfl
theorem el_20_6 : (((fracs 20).drop 18).take 3).all (chkEl 20) = true := by kernel_rfl
theorem el_20 : (fracs 20).all (chkEl 20) = true := all_parts 3 7 (by decide +kernel) (by intro j hj;match j,hj with
 | 0,_ => exact el_20_0
 | 1,_ => exact el_20_1
 | 2,_ => exact el_20_2
 | 3,_ => exact el_20_3
 | 4,_ => exact el_20_4
 | 5,_ => exact el_20_5
 | 6,_ => exact el_20_6)
theorem el_14_0 : (((fracs 14).drop 0).take 4).all (chkEl 14) = true := by kernel_rfl
theorem el_14_1 : (((fracs 14).drop 4).take 4).all (chkEl 14) = true := by kernel_rfl
theorem el_14_2 : (((fracs 14).drop 8).take 4).all (chkEl 14) = true := by kernel_rfl
theorem el_14_3 : (((fracs 14).drop 12).take 4).all (chkEl 14) = true := by kernel_rfl
theorem el_14 : (fracs 14).all (chkEl 14) = true := all_parts 4 4 (by decide +kernel) (by intro j hj;match j,hj with
 | 0,_ => exact el_14_0
 | 1,_ => exact el_14_1
 | 2,_ => exact el_14_2
 | 3,_ => exact el_14_3)
theorem el_9_0 : (((fracs 9).drop 0).take 6).all (chkEl 9) = true := by kernel_rfl
theorem el_9_1 : (((fracs 9).drop 6).take 6).all (chkEl 9) = true := by kernel_rfl
theorem el_9 : (fracs 9).all (chkEl 9) = true := all_parts 6 2 (by decide +kernel) (by intro j hj;match j,hj with
 | 0,_ => exact el_9_0
 | 1,_ => exact el_9_1)
theorem el_3_0 : (((fracs 3).drop 0).take 20).all (chkEl 3) = true := by kernel_rfl
theorem el_3 : (fracs 3).all (chkEl 3) = true := all_parts 20 1 (by decide +kernel) (by intro j hj;match j,hj with
 | 0,_ => exact el_3_0)
theorem el_1_0 : (((fracs 1).drop 0).take 60).all (chkEl 1) = true := by kernel_rfl
theorem el_1 : (fracs 1).all (chkEl 1) = true := all_parts 60 1 (by decide +kernel) (by intro j hj;match j,hj with
 | 0,_ => exact el_1_0)
end Go.Proofs.YtlbckpljefadpaaGreat