/- Contracts of functions of the program, and what proves them (texts: SQ2). -/
import Derived.KernelRfl
import Derived.Test.YtaidcaemdkncgaaGreatDoorZSAY
set_option linter.all false
set_option maxRecDepth 100000
set_option maxHeartbeats 8000000
namespace Go.Proofs.YtaidcaemdkncgaaGreatDoor
open Go Go.Lg Go.Num
theorem sq_36 : chkSi 36 = true := by kernel_rfl
theorem sq_52 : chkSi 52 = true := by kernel_rfl
theorem sq_56 : chkSi 56 = true := by kernel_rfl
theorem sq_28 : chkSi 28 = true := by kernel_rfl
theorem sq_34 : chkSi 34 = true := by kernel_rfl
theorem sq_42 : chkSi 42 = true := by kernel_rfl
theorem sq_50 : chkSi 50 = true := by kernel_rfl
theorem sq_60 : chkSi 60 = true := by kernel_rfl
theorem sq_69 : chkSi 69 = true := by kernel_rfl
theorem sq_77 : chkSi 77 = true := by kernel_rfl
theorem sq_85 : chkSi 85 = true := by kernel_rfl
theorem sq_92 : chkSi 92 = true := by kernel_rfl
theorem sq_98 : chkSi 98 = true := by kernel_rfl
theorem sq_104 : chkSi 104 = true := by kernel_rfl
theorem sq_110 : chkSi 110 = true := by kernel_rfl
theorem sq_116 : chkSi 116 = true := by kernel_rfl
end Go.Proofs.YtaidcaemdkncgaaGreatDoor