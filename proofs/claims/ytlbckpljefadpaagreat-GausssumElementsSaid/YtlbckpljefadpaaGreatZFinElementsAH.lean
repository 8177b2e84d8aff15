/- Contracts of functions of the program, and what proves them (texts: G9b). -/
import Derived.KernelRfl
import Derived.Test.YtlbckpljefadpaaGreatZFinElementsAF
set_option linter.all false
namespace Go.Proofs.YtlbckpljefadpaaGreat
open Go Go.Lg Go.Num
set_option maxRecDepth 100000
theorem el_36_0 : (((fracs 36).drop 0).take 3).all (chkEl 36) = true := by kernel_rfl
theorem el_36_1 : (((fracs 36).drop 3).take 3).all (chkEl 36) = true := by kernel_rfl
theorem el_36_2 : (((fracs 36).drop 6).take 3).all (chkEl 36) = true := by kernel_rfl
theorem el_36_3 : (((fracs 36).drop 9).take 3).all (chkEl 36) = true := by kernel_rfl
theorem el_36_4 : (((fracs 36).drop 12).take 3).all (chkEl 36) = true := by kernel_rfl
theorem el_36_5 : (((fracs 36).drop 15).take 3).all (chkEl 36) = true := by kernel_rfl
theorem el_36_6 : (((fracs 36).drop 18).take 3).all (chkEl 36) = true := by kernel_rfl
theorem el_36_7 : (((fracs 36).drop 21).take 3).all (chkEl 36) = true := by kernel_rfl
theorem el_36_8 : (((fracs 36).drop 24).take 3).all (chkEl 36) = true := by kernel_rfl
theorem el_36_9 : (((fracs 36).drop 27).take 3).all (chkEl 36) = true := by kernel_rfl
theorem el_36_10 : (((fracs 36).drop 30).take 3).all (chkEl 36) = true := by kernel_rfl
theorem el_36_11 : (((fracs 36).drop 33).take 3).all (chkEl 36) = true := by kernel_rfl
theorem el_36 : (fracs 36).all (chkEl 36) = true := all_parts 3 12 (by decide +kernel) (by intro j hj;match j,hj with
 | 0,_ => exact el_36_0
 | 1,_ => exact el_36_1
 | 2,_ => exact el_36_2
 | 3,_ => exact el_36_3
 | 4,_ => exact el_36_4
 | 5,_ => exact el_36_5
 | 6,_ => exact el_36_6
 | 7,_ => exact el_36_7
 | 8,_ => exact el_36_8
 | 9,_ => exact el_36_9
 | 10,_ => exact el_36_10
 | 11,_ => exact el_36_11)
theorem el_12_0 : (((fracs 12).drop 0).take 5).all (chkEl 12) = true := by kernel_rfl
theorem el_12_1 : (((fracs 12).drop 5).take 5).all (chkEl 12) = true := by kernel_rfl
theorem el_12_2 : (((fracs 12).drop 10).take 5).all (chkEl 12) = true := by kernel_rfl
theorem el_12 : (fracs 12).all (chkEl 12) = true := all_parts 5 3 (by decide +kernel) (by intro j hj;match j,hj with
 | 0,_ => exact el_12_0
 | 1,_ => exact el_12_1
 | 2,_ => exact el_12_2)
theorem el_6_0 : (((fracs 6).drop 0).take 10).all (chkEl 6) = true := by kernel_rfl
theorem el_6 : (fracs 6).all (chkEl 6) = true := all_parts 10 1 (by decide +kernel) (by intro j hj;match j,hj with
 | 0,_ => exact el_6_0)
end Go.Proofs.YtlbckpljefadpaaGreat