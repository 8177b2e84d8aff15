/- Contracts of functions of the program, and what proves them (texts: SQ5). -/
import Derived.KernelRfl
import Derived.Test.YtaidcaemdkncgaaGreatDoorZSAY
set_option linter.all false
set_option maxRecDepth 100000
set_option maxHeartbeats 8000000
namespace Go.Proofs.YtaidcaemdkncgaaGreatDoor
open Go Go.Lg Go.Num
theorem sq_40 : chkSi 40 = true := by kernel_rfl
theorem sq_72 : chkSi 72 = true := by kernel_rfl
theorem sq_0 : chkSi 0 = true := by kernel_rfl
theorem sq_1 : chkSi 1 = true := by kernel_rfl
theorem sq_2 : chkSi 2 = true := by kernel_rfl
theorem sq_3 : chkSi 3 = true := by kernel_rfl
theorem sq_4 : chkSi 4 = true := by kernel_rfl
theorem sq_6 : chkSi 6 = true := by kernel_rfl
theorem sq_10 : chkSi 10 = true := by kernel_rfl
theorem sq_14 : chkSi 14 = true := by kernel_rfl
theorem sq_18 : chkSi 18 = true := by kernel_rfl
theorem sq_23 : chkSi 23 = true := by kernel_rfl
theorem sq_29 : chkSi 29 = true := by kernel_rfl
theorem sq_35 : chkSi 35 = true := by kernel_rfl
theorem sq_43 : chkSi 43 = true := by kernel_rfl
theorem sq_51 : chkSi 51 = true := by kernel_rfl
theorem sq_62 : chkSi 62 = true := by kernel_rfl
theorem sq_70 : chkSi 70 = true := by kernel_rfl
theorem sq_78 : chkSi 78 = true := by kernel_rfl
theorem sq_86 : chkSi 86 = true := by kernel_rfl
theorem sq_93 : chkSi 93 = true := by kernel_rfl
theorem sq_99 : chkSi 99 = true := by kernel_rfl
theorem sq_105 : chkSi 105 = true := by kernel_rfl
theorem sq_111 : chkSi 111 = true := by kernel_rfl
theorem sq_117 : chkSi 117 = true := by kernel_rfl
end Go.Proofs.YtaidcaemdkncgaaGreatDoor