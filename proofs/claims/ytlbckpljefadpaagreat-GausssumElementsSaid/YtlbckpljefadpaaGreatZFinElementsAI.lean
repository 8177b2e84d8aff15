/- Contracts of functions of the program, and what proves them (texts: G9c). -/
import Derived.KernelRfl
import Derived.Test.YtlbckpljefadpaaGreatZFinElementsAF
set_option linter.all false
namespace Go.Proofs.YtlbckpljefadpaaGreat
open Go Go.Lg Go.Num
set_option maxRecDepth 100000
theorem el_30_0 : (((fracs 30).drop 0).take 2).all (chkEl 30) = true := by kernel_rfl
theorem el_30_1 : (((fracs 30).drop 2).take 2).all (chkEl 30) = true := by kernel_rfl
theorem el_30_2 : (((fracs 30).drop 4).take 2).all (chkEl 30) = true := by kernel_rfl
theorem el_30_3 : (((fracs 30).drop 6).take 2).all (chkEl 30) = true := by kernel_rfl
theorem el_30_4 : (((fracs 30).drop 8).take 2).all (chkEl 30) = true := by kernel_rfl
theorem el_30_5 : (((fracs 30).drop 10).take 2).all (chkEl 30) = true := by kernel_rfl
theorem el_30_6 : (((fracs 30).drop 12).take 2).all (chkEl 30) = true := by kernel_rfl
theorem el_30_7 : (((fracs 30).drop 14).take 2).all (chkEl 30) = true := by kernel_rfl
theorem el_30_8 : (((fracs 30).drop 16).take 2).all (chkEl 30) = true := by kernel_rfl
theorem el_30_9 : (((fracs 30).drop 18).take 2).all (chkEl 30) = true := by kernel_rfl
theorem el_30_10 : (((fracs 30).drop 20).take 2).all (chkEl 30) = true := by kernel_rfl
theorem el_30_11 : (((fracs 30).drop 22).take 2).all (chkEl 30) = true := by kernel_rfl
theorem el_30_12 : (((fracs 30).drop 24).take 2).all (chkEl 30) = true := by kernel_rfl
theorem el_30_13 : (((fracs 30).drop 26).take 2).all (chkEl 30) = true := by kernel_rfl
theorem el_30_14 : (((fracs 30).drop 28).take 2).all (chkEl 30) = true := by kernel_rfl
theorem el_30 : (fracs 30).all (chkEl 30) = true := all_parts 2 15 (by decide +kernel) (by intro j hj;match j,hj with
 | 0,_ => exact el_30_0
 | 1,_ => exact el_30_1
 | 2,_ => exact el_30_2
 | 3,_ => exact el_30_3
 | 4,_ => exact el_30_4
 | 5,_ => exact el_30_5
 | 6,_ => exact el_30_6
 | 7,_ => exact el_30_7
 | 8,_ => exact el_30_8
 | 9,_ => exact el_30_9
 | 10,_ => exact el_30_10
 | 11,_ => exact el_30_11
 | 12,_ => exact el_30_12
 | 13,_ => exact el_30_13
 | 14,_ => exact el_30_14)
theorem el_18_0 : (((fracs 18).drop 0).take 3).all (chkEl 18) = true := by kernel_rfl
theorem el_18_1 : (((fracs 18).drop 3).take 3).all (chkEl 18) = true := by kernel_rfl
theorem el_18_2 : (((fracs 18).drop 6).take 3).all (chkEl 18) = true := by kernel_rfl
theorem el_18_3 : (((fracs 18).drop 9).take 3).all (chkEl 18) = true := by kernel_rfl
theorem el_18_4 : (((fracs 18).drop 12).take 3).all (chkEl 18) = true := by kernel_rfl
theorem el_18_5 : (((fracs 18).drop 15).take 3).all (chkEl 18) = true := by kernel_rfl
theorem el_18 : (fracs 18).all (chkEl 18) = true := all_parts 3 6 (by decide +kernel) (by intro j hj;match j,hj with
 | 0,_ => exact el_18_0
 | 1,_ => exact el_18_1
 | 2,_ => exact el_18_2
 | 3,_ => exact el_18_3
 | 4,_ => exact el_18_4
 | 5,_ => exact el_18_5)
theorem el_13_0 : (((fracs 13).drop 0).take 4).all (chkEl 13) = true := by kernel_rfl
theorem el_13_1 : (((fracs 13).drop 4).take 4).all (chkEl 13) = true := by kernel_rfl
theorem el_13_2 : (((fracs 13).drop 8).take 4).all (chkEl 13) = true := by kernel_rfl
theorem el_13_3 : (((fracs 13).drop 12).take 4).all (chkEl 13) = true := by kernel_rfl
theorem el_13 : (fracs 13).all (chkEl 13) = true := all_parts 4 4 (by decide +kernel) (by intro j hj;match j,hj with
 | 0,_ => exact el_13_0
 | 1,_ => exact el_13_1
 | 2,_ => exact el_13_2
 | 3,_ => exact el_13_3)
theorem el_8_0 : (((fracs 8).drop 0).take 7).all (chkEl 8) = true := by kernel_rfl
theorem el_8_1 : (((fracs 8).drop 7).take 7).all (chkEl 8) = true := by kernel_rfl
theorem el_8 : (fracs 8).all (chkEl 8) = true := all_parts 7 2 (by decide +kernel) (by intro j hj;match j,hj with
 | 0,_ => exact el_8_0
 | 1,_ => exact el_8_1)
theorem el_4_0 : (((fracs 4).drop 0).take 15).all (chkEl 4) = true := by kernel_rfl
theorem el_4 : (fracs 4).all (chkEl 4) = true := all_parts 15 1 (by decide +kernel) (by intro j hj;match j,hj with
 | 0,_ => exact el_4_0)
end Go.Proofs.YtlbckpljefadpaaGreat