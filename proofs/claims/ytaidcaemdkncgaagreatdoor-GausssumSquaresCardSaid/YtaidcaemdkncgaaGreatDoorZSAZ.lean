/- Contracts of functions of the program, and what proves them (texts: SQ1). -/
import Derived.KernelRfl
import Derived.Test.YtaidcaemdkncgaaGreatDoorZSAY
set_option linter.all false
set_option maxRecDepth 100000
set_option maxHeartbeats 8000000
namespace Go.Proofs.YtaidcaemdkncgaaGreatDoor
open Go Go.Lg Go.Num
theorem sq_88 : chkSi 88 = true := by kernel_rfl
theorem sq_53 : chkSi 53 = true := by kernel_rfl
theorem sq_5 : chkSi 5 = true := by kernel_rfl
theorem sq_7 : chkSi 7 = true := by kernel_rfl
theorem sq_11 : chkSi 11 = true := by kernel_rfl
theorem sq_15 : chkSi 15 = true := by kernel_rfl
theorem sq_19 : chkSi 19 = true := by kernel_rfl
theorem sq_24 : chkSi 24 = true := by kernel_rfl
theorem sq_30 : chkSi 30 = true := by kernel_rfl
theorem sq_37 : chkSi 37 = true := by kernel_rfl
theorem sq_44 : chkSi 44 = true := by kernel_rfl
theorem sq_54 : chkSi 54 = true := by kernel_rfl
theorem sq_63 : chkSi 63 = true := by kernel_rfl
theorem sq_71 : chkSi 71 = true := by kernel_rfl
theorem sq_79 : chkSi 79 = true := by kernel_rfl
theorem sq_87 : chkSi 87 = true := by kernel_rfl
theorem sq_94 : chkSi 94 = true := by kernel_rfl
theorem sq_100 : chkSi 100 = true := by kernel_rfl
theorem sq_106 : chkSi 106 = true := by kernel_rfl
theorem sq_112 : chkSi 112 = true := by kernel_rfl
theorem sq_118 : chkSi 118 = true := by kernel_rfl
end Go.Proofs.YtaidcaemdkncgaaGreatDoor