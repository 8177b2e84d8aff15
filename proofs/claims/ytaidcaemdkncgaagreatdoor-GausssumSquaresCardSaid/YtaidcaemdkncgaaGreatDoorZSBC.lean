/- Contracts of functions of the program, and what proves them (texts: SQ4). -/
import Derived.KernelRfl
import Derived.Test.YtaidcaemdkncgaaGreatDoorZSAY
set_option linter.all false
set_option maxRecDepth 100000
set_option maxHeartbeats 8000000
namespace Go.Proofs.YtaidcaemdkncgaaGreatDoor
open Go Go.Lg Go.Num
theorem sq_81 : chkSi 81 = true := by kernel_rfl
theorem sq_49 : chkSi 49 = true := by kernel_rfl
theorem sq_61 : chkSi 61 = true := by kernel_rfl
theorem sq_8 : chkSi 8 = true := by kernel_rfl
theorem sq_12 : chkSi 12 = true := by kernel_rfl
theorem sq_16 : chkSi 16 = true := by kernel_rfl
theorem sq_21 : chkSi 21 = true := by kernel_rfl
theorem sq_26 : chkSi 26 = true := by kernel_rfl
theorem sq_32 : chkSi 32 = true := by kernel_rfl
theorem sq_39 : chkSi 39 = true := by kernel_rfl
theorem sq_47 : chkSi 47 = true := by kernel_rfl
theorem sq_58 : chkSi 58 = true := by kernel_rfl
theorem sq_66 : chkSi 66 = true := by kernel_rfl
theorem sq_75 : chkSi 75 = true := by kernel_rfl
theorem sq_82 : chkSi 82 = true := by kernel_rfl
theorem sq_90 : chkSi 90 = true := by kernel_rfl
theorem sq_96 : chkSi 96 = true := by kernel_rfl
theorem sq_102 : chkSi 102 = true := by kernel_rfl
theorem sq_108 : chkSi 108 = true := by kernel_rfl
theorem sq_114 : chkSi 114 = true := by kernel_rfl
theorem sq_120 : chkSi 120 = true := by kernel_rfl
end Go.Proofs.YtaidcaemdkncgaaGreatDoor