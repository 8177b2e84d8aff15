/- Contracts of functions of the program, and what proves them (texts: EAr3). -/
import Derived.KernelRfl
import Derived.Test.YtaidcaemdkncgaaGreatDoorZSAU
set_option linter.all false
set_option maxRecDepth 100000
set_option maxHeartbeats 8000000
namespace Go.Proofs.YtaidcaemdkncgaaGreatDoor
open Go Go.Lg Go.Num
theorem cK8:∀ p∈[(10,0),(24,0),(26,0),(26,1),(42,0),(42,1),(46,0),(46,1),(46,2),(55,0),(55,1),(55,2),(55,3),(60,0),(60,1)],pS p=true:=by
 simp only[List.forall_mem_cons]
 (repeat' apply And.intro)
 all_goals first |exact List.forall_mem_nil _ |(as_aux_lemma=>kernel_rfl)
end Go.Proofs.YtaidcaemdkncgaaGreatDoor
