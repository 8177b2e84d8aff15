/- Contracts of functions of the program, and what proves them (texts: EZr1). -/
import Derived.KernelRfl
import Derived.Test.YtaidcaemdkncgaaGreatDoorZFinSeriesAF
set_option linter.all false
set_option maxRecDepth 100000
set_option maxHeartbeats 8000000
namespace Go.Proofs.YtaidcaemdkncgaaGreatDoor
open Go Go.Lg Go.Num
theorem cLm:eZ 1=true:=by kernel_rfl
theorem cLn:eZ 2=true:=by kernel_rfl
theorem cLo:eZ 3=true:=by kernel_rfl
theorem cLp:eZ 4=true:=by kernel_rfl
theorem cLq:eZ 5=true:=by kernel_rfl
theorem cLr:eZ 6=true:=by kernel_rfl
theorem cLs:eZ 7=true:=by kernel_rfl
theorem cLt:eZ 8=true:=by kernel_rfl
theorem cLu:eZ 9=true:=by kernel_rfl
theorem cGj:eZ 10=true:=by kernel_rfl
theorem cGk:eZ 11=true:=by kernel_rfl
theorem cGl:eZ 12=true:=by kernel_rfl
theorem cGm:eZ 13=true:=by kernel_rfl
theorem cGn:eZ 14=true:=by kernel_rfl
theorem cGo:eZ 15=true:=by kernel_rfl
theorem cGp:eZ 16=true:=by kernel_rfl
theorem cGq:eZ 18=true:=by kernel_rfl
theorem cGr:eZ 20=true:=by kernel_rfl
theorem cGs:eZ 21=true:=by kernel_rfl
theorem cGt:eZ 22=true:=by kernel_rfl
end Go.Proofs.YtaidcaemdkncgaaGreatDoor
