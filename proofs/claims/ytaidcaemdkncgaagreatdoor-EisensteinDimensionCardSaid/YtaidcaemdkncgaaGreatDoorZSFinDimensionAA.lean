/- Contracts of functions of the program, and what proves them (texts: DMq). -/
import Derived.KernelRfl
import Derived.Test.YtaidcaemdkncgaaGreatDoorZSBH
set_option linter.all false
set_option maxRecDepth 100000
set_option maxHeartbeats 8000000
namespace Go.Proofs.YtaidcaemdkncgaaGreatDoor
open Go Go.Lg Go.Num
def qA (L:Nat) (d:Int):Prop:=∀ n:Nat,aPs false (.ofNat (n+3)) L d=true
def qB (L:Nat) (d:Int):Prop:=aPs true 2 L d=true
end Go.Proofs.YtaidcaemdkncgaaGreatDoor
