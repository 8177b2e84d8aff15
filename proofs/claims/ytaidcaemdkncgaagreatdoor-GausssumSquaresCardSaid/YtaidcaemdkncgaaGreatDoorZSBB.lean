/- Contracts of functions of the program, and what proves them (texts: SQ3). -/
import Derived.KernelRfl
import Derived.Test.YtaidcaemdkncgaaGreatDoorZSAY
set_option linter.all false
set_option maxRecDepth 100000
set_option maxHeartbeats 8000000
namespace Go.Proofs.YtaidcaemdkncgaaGreatDoor
open Go Go.Lg Go.Num
theorem sq_84 : chkSi 84 = true := by kernel_rfl
theorem sq_68 : chkSi 68 = true := by kernel_rfl
theorem sq_57 : chkSi 57 = true := by kernel_rfl
theorem sq_20 : chkSi 20 = true := by kernel_rfl
theorem sq_25 : chkSi 25 = true := by kernel_rfl
theorem sq_31 : chkSi 31 = true := by kernel_rfl
theorem sq_38 : chkSi 38 = true := by kernel_rfl
theorem sq_46 : chkSi 46 = true := by kernel_rfl
theorem sq_55 : chkSi 55 = true := by kernel_rfl
theorem sq_64 : chkSi 64 = true := by kernel_rfl
theorem sq_74 : chkSi 74 = true := by kernel_rfl
theorem sq_80 : chkSi 80 = true := by kernel_rfl
theorem sq_89 : chkSi 89 = true := by kernel_rfl
theorem sq_95 : chkSi 95 = true := by kernel_rfl
theorem sq_101 : chkSi 101 = true := by kernel_rfl
theorem sq_107 : chkSi 107 = true := by kernel_rfl
theorem sq_113 : chkSi 113 = true := by kernel_rfl
theorem sq_119 : chkSi 119 = true := by kernel_rfl
end Go.Proofs.YtaidcaemdkncgaaGreatDoor