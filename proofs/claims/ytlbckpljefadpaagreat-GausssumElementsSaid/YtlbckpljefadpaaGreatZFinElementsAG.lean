/- Contracts of functions of the program, and what proves them (texts: G9a). -/
import Derived.KernelRfl
import Derived.Test.YtlbckpljefadpaaGreatZFinElementsAF
set_option linter.all false
namespace Go.Proofs.YtlbckpljefadpaaGreat
open Go Go.Lg Go.Num
set_option maxRecDepth 100000
theorem el_42_0 : (((fracs 42).drop 0).take 3).all (chkEl 42) = true := by kernel_rfl
theorem el_42_1 : (((fracs 42).drop 3).take 3).all (chkEl 42) = true := by kernel_rfl
theorem el_42_2 : (((fracs 42).drop 6).take 3).all (chkEl 42) = true := by kernel_rfl
theorem el_42_3 : (((fracs 42).drop 9).take 3).all (chkEl 42) = true := by kernel_rfl
theorem el_42_4 : (((fracs 42).drop 12).take 3).all (chkEl 42) = true := by kernel_rfl
theorem el_42_5 : (((fracs 42).drop 15).take 3).all (chkEl 42) = true := by kernel_rfl
theorem el_42_6 : (((fracs 42).drop 18).take 3).all (chkEl 42) = true := by kernel_rfl
theorem el_42_7 : (((fracs 42).drop 21).take 3).all (chkEl 42) = true := by kernel_rfl
theorem el_42_8 : (((fracs 42).drop 24).take 3).all (chkEl 42) = true := by kernel_rfl
theorem el_42_9 : (((fracs 42).drop 27).take 3).all (chkEl 42) = true := by kernel_rfl
theorem el_42_10 : (((fracs 42).drop 30).take 3).all (chkEl 42) = true := by kernel_rfl
theorem el_42_11 : (((fracs 42).drop 33).take 3).all (chkEl 42) = true := by kernel_rfl
theorem el_42_12 : (((fracs 42).drop 36).take 3).all (chkEl 42) = true := by kernel_rfl
theorem el_42_13 : (((fracs 42).drop 39).take 3).all (chkEl 42) = true := by kernel_rfl
theorem el_42 : (fracs 42).all (chkEl 42) = true := all_parts 3 14 (by decide +kernel) (by intro j hj;match j,hj with
 | 0,_ => exact el_42_0
 | 1,_ => exact el_42_1
 | 2,_ => exact el_42_2
 | 3,_ => exact el_42_3
 | 4,_ => exact el_42_4
 | 5,_ => exact el_42_5
 | 6,_ => exact el_42_6
 | 7,_ => exact el_42_7
 | 8,_ => exact el_42_8
 | 9,_ => exact el_42_9
 | 10,_ => exact el_42_10
 | 11,_ => exact el_42_11
 | 12,_ => exact el_42_12
 | 13,_ => exact el_42_13)
end Go.Proofs.YtlbckpljefadpaaGreat