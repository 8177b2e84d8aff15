/- Contracts of functions of the program, and what proves them (texts: KSr1). -/
import Derived.KernelRfl
import Derived.Test.YtaidcaemdkncgaaGreatDoorZSAS
set_option linter.all false
set_option maxRecDepth 100000
set_option maxHeartbeats 8000000
namespace Go.Proofs.YtaidcaemdkncgaaGreatDoor
open Go Go.Lg Go.Num
theorem bVo:dL (-59)=true:=by kernel_rfl
theorem bVp:dL (-55)=true:=by kernel_rfl
theorem bVq:dL (-51)=true:=by kernel_rfl
theorem bVr:dL (-43)=true:=by kernel_rfl
theorem bVs:dL (-39)=true:=by kernel_rfl
theorem bVt:dL (-31)=true:=by kernel_rfl
theorem bVu:dL (-23)=true:=by kernel_rfl
theorem bVv:dL (-19)=true:=by kernel_rfl
theorem bVw:dL (-11)=true:=by kernel_rfl
theorem cGm:dL (-7)=true:=by kernel_rfl
theorem cGn:dL (-3)=true:=by kernel_rfl
theorem cK2:dL (5)=true:=by kernel_rfl
theorem cGo:dL (12)=true:=by kernel_rfl
theorem cGp:dL (17)=true:=by kernel_rfl
theorem cGq:dL (24)=true:=by kernel_rfl
theorem cGr:dL (29)=true:=by kernel_rfl
theorem cGs:dL (37)=true:=by kernel_rfl
theorem cGt:dL (41)=true:=by kernel_rfl
theorem cGu:dL (53)=true:=by kernel_rfl
theorem cGv:dL (57)=true:=by kernel_rfl
end Go.Proofs.YtaidcaemdkncgaaGreatDoor
