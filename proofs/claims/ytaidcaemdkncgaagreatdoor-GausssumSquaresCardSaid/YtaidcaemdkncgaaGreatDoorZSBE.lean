/- Contracts of functions of the program, and what proves them (texts: SQ6). -/
import Derived.KernelRfl
import Derived.Test.YtaidcaemdkncgaaGreatDoorZSAY
set_option linter.all false
set_option maxRecDepth 100000
set_option maxHeartbeats 8000000
namespace Go.Proofs.YtaidcaemdkncgaaGreatDoor
open Go Go.Lg Go.Num
theorem sq_45 : chkSi 45 = true := by kernel_rfl
theorem sq_73 : chkSi 73 = true := by kernel_rfl
theorem sq_65 : chkSi 65 = true := by kernel_rfl
theorem sq_9 : chkSi 9 = true := by kernel_rfl
theorem sq_13 : chkSi 13 = true := by kernel_rfl
theorem sq_17 : chkSi 17 = true := by kernel_rfl
theorem sq_22 : chkSi 22 = true := by kernel_rfl
theorem sq_27 : chkSi 27 = true := by kernel_rfl
theorem sq_33 : chkSi 33 = true := by kernel_rfl
theorem sq_41 : chkSi 41 = true := by kernel_rfl
theorem sq_48 : chkSi 48 = true := by kernel_rfl
theorem sq_59 : chkSi 59 = true := by kernel_rfl
theorem sq_67 : chkSi 67 = true := by kernel_rfl
theorem sq_76 : chkSi 76 = true := by kernel_rfl
theorem sq_83 : chkSi 83 = true := by kernel_rfl
theorem sq_91 : chkSi 91 = true := by kernel_rfl
theorem sq_97 : chkSi 97 = true := by kernel_rfl
theorem sq_103 : chkSi 103 = true := by kernel_rfl
theorem sq_109 : chkSi 109 = true := by kernel_rfl
theorem sq_115 : chkSi 115 = true := by kernel_rfl
end Go.Proofs.YtaidcaemdkncgaaGreatDoor