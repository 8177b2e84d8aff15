/- Contracts of functions of the program, and what proves them (texts: G9g). -/
import Derived.KernelRfl
import Derived.Test.YtlbckpljefadpaaGreatZFinElementsAF
set_option linter.all false
namespace Go.Proofs.YtlbckpljefadpaaGreat
open Go Go.Lg Go.Num
set_option maxRecDepth 100000
theorem el_24_0 : (((fracs 24).drop 0).take 2).all (chkEl 24) = true := by kernel_rfl
theorem el_24_1 : (((fracs 24).drop 2).take 2).all (chkEl 24) = true := by kernel_rfl
theorem el_24_2 : (((fracs 24).drop 4).take 2).all (chkEl 24) = true := by kernel_rfl
theorem el_24_3 : (((fracs 24).drop 6).take 2).all (chkEl 24) = true := by kernel_rfl
theorem el_24_4 : (((fracs 24).drop 8).take 2).all (chkEl 24) = true := by kernel_rfl
theorem el_24_5 : (((fracs 24).drop 10).take 2).all (chkEl 24) = true := by kernel_rfl
theorem el_24_6 : (((fracs 24).drop 12).take 2).all (chkEl 24) = true := by kernel_rfl
theorem el_24_7 : (((fracs 24).drop 14).take 2).all (chkEl 24) = true := by kernel_rfl
theorem el_24_8 : (((fracs 24).drop 16).take 2).all (chkEl 24) = true := by kernel_rfl
theorem el_24_9 : (((fracs 24).drop 18).take 2).all (chkEl 24) = true := by kernel_rfl
theorem el_24_10 : (((fracs 24).drop 20).take 2).all (chkEl 24) = true := by kernel_rfl
theorem el_24_11 : (((fracs 24).drop 22).take 2).all (chkEl 24) = true := by kernel_rfl
theorem el_24 : (fracs 24).all (chkEl 24) = true := all_parts 2 12 (by decide +kernel) (by intro j hj;match j,hj with
 | 0,_ => exact el_24_0
 | 1,_ => exact el_24_1
 | 2,_ => exact el_24_2
 | 3,_ => exact el_24_3
 | 4,_ => exact el_24_4
 | 5,_ => exact el_24_5
 | 6,_ => exact el_24_6
 | 7,_ => exact el_24_7
 | 8,_ => exact el_24_8
 | 9,_ => exact el_24_9
 | 10,_ => exact el_24_10
 | 11,_ => exact el_24_11)
theorem el_22_0 : (((fracs 22).drop 0).take 2).all (chkEl 22) = true := by kernel_rfl
theorem el_22_1 : (((fracs 22).drop 2).take 2).all (chkEl 22) = true := by kernel_rfl
theorem el_22_2 : (((fracs 22).drop 4).take 2).all (chkEl 22) = true := by kernel_rfl
theorem el_22_3 : (((fracs 22).drop 6).take 2).all (chkEl 22) = true := by kernel_rfl
theorem el_22_4 : (((fracs 22).drop 8).take 2).all (chkEl 22) = true := by kernel_rfl
theorem el_22_5 : (((fracs 22).drop 10).take 2).all (chkEl 22) = true := by kernel_rfl
theorem el_22_6 : (((fracs 22).drop 12).take 2).all (chkEl 22) = true := by kernel_rfl
theorem el_22_7 : (((fracs 22).drop 14).take 2).all (chkEl 22) = true := by kernel_rfl
theorem el_22_8 : (((fracs 22).drop 16).take 2).all (chkEl 22) = true := by kernel_rfl
theorem el_22_9 : (((fracs 22).drop 18).take 2).all (chkEl 22) = true := by kernel_rfl
theorem el_22_10 : (((fracs 22).drop 20).take 2).all (chkEl 22) = true := by kernel_rfl
theorem el_22 : (fracs 22).all (chkEl 22) = true := all_parts 2 11 (by decide +kernel) (by intro j hj;match j,hj with
 | 0,_ => exact el_22_0
 | 1,_ => exact el_22_1
 | 2,_ => exact el_22_2
 | 3,_ => exact el_22_3
 | 4,_ => exact el_22_4
 | 5,_ => exact el_22_5
 | 6,_ => exact el_22_6
 | 7,_ => exact el_22_7
 | 8,_ => exact el_22_8
 | 9,_ => exact el_22_9
 | 10,_ => exact el_22_10)
theorem el_16_0 : (((fracs 16).drop 0).take 3).all (chkEl 16) = true := by kernel_rfl
theorem el_16_1 : (((fracs 16).drop 3).take 3).all (chkEl 16) = true := by kernel_rfl
theorem el_16_2 : (((fracs 16).drop 6).take 3).all (chkEl 16) = true := by kernel_rfl
theorem el_16_3 : (((fracs 16).drop 9).take 3).all (chkEl 16) = true := by kernel_rfl
theorem el_16_4 : (((fracs 16).drop 12).take 3).all (chkEl 16) = true := by kernel_rfl
theorem el_16_5 : (((fracs 16).drop 15).take 3).all (chkEl 16) = true := by kernel_rfl
theorem el_16 : (fracs 16).all (chkEl 16) = true := all_parts 3 6 (by decide +kernel) (by intro j hj;match j,hj with
 | 0,_ => exact el_16_0
 | 1,_ => exact el_16_1
 | 2,_ => exact el_16_2
 | 3,_ => exact el_16_3
 | 4,_ => exact el_16_4
 | 5,_ => exact el_16_5)
theorem el_11_0 : (((fracs 11).drop 0).take 5).all (chkEl 11) = true := by kernel_rfl
theorem el_11_1 : (((fracs 11).drop 5).take 5).all (chkEl 11) = true := by kernel_rfl
theorem el_11_2 : (((fracs 11).drop 10).take 5).all (chkEl 11) = true := by kernel_rfl
theorem el_11 : (fracs 11).all (chkEl 11) = true := all_parts 5 3 (by decide +kernel) (by intro j hj;match j,hj with
 | 0,_ => exact el_11_0
 | 1,_ => exact el_11_1
 | 2,_ => exact el_11_2)
theorem el_7_0 : (((fracs 7).drop 0).take 8).all (chkEl 7) = true := by kernel_rfl
theorem el_7 : (fracs 7).all (chkEl 7) = true := all_parts 8 1 (by decide +kernel) (by intro j hj;match j,hj with
 | 0,_ => exact el_7_0)
end Go.Proofs.YtlbckpljefadpaaGreat