/- Contracts of functions of the program, and what proves them (texts: EZr1). -/
import Derived.KernelRfl
import Derived.Test.YtaidcaemdkncgaaGreatDoorZSBK
set_option linter.all false
set_option maxRecDepth 100000
set_option maxHeartbeats 8000000
namespace Go.Proofs.YtaidcaemdkncgaaGreatDoor
open Go Go.Lg Go.Num
theorem cLv:fD 1=true:=by kernel_rfl
theorem cLw:fD 2=true:=by kernel_rfl
theorem cLx:fD 3=true:=by kernel_rfl
theorem cLy:fD 4=true:=by kernel_rfl
theorem cLz:fD 5=true:=by kernel_rfl
theorem cL0:fD 6=true:=by kernel_rfl
theorem cL1:fD 7=true:=by kernel_rfl
theorem cL2:fD 8=true:=by kernel_rfl
theorem cL3:fD 9=true:=by kernel_rfl
theorem cHh:fD 10=true:=by kernel_rfl
theorem cHi:fD 11=true:=by kernel_rfl
theorem cHj:fD 12=true:=by kernel_rfl
theorem cHk:fD 13=true:=by kernel_rfl
theorem cHl:fD 14=true:=by kernel_rfl
theorem cHm:fD 15=true:=by kernel_rfl
theorem cHn:fD 16=true:=by kernel_rfl
theorem cHo:fD 18=true:=by kernel_rfl
theorem cHp:fD 20=true:=by kernel_rfl
theorem cHq:fD 21=true:=by kernel_rfl
theorem cHr:fD 22=true:=by kernel_rfl
end Go.Proofs.YtaidcaemdkncgaaGreatDoor
