/- Contracts of functions of the program, and what proves them (texts: EZr2). -/
import Derived.KernelRfl
import Derived.Test.YtaidcaemdkncgaaGreatDoorZFinSeriesAF
set_option linter.all false
set_option maxRecDepth 100000
set_option maxHeartbeats 8000000
namespace Go.Proofs.YtaidcaemdkncgaaGreatDoor
open Go Go.Lg Go.Num
theorem cGu:eZ 24=true:=by kernel_rfl
theorem cGv:eZ 26=true:=by kernel_rfl
theorem cGw:eZ 28=true:=by kernel_rfl
theorem cGx:eZ 30=true:=by kernel_rfl
theorem cGy:eZ 36=true:=by kernel_rfl
theorem cGz:eZ 42=true:=by kernel_rfl
end Go.Proofs.YtaidcaemdkncgaaGreatDoor
