/- Contracts of functions of the program, and what proves them (texts: EAr5). -/
import Derived.KernelRfl
import Derived.Test.YtaidcaemdkncgaaGreatDoorZSAU
set_option linter.all false
set_option maxRecDepth 100000
set_option maxHeartbeats 8000000
namespace Go.Proofs.YtaidcaemdkncgaaGreatDoor
open Go Go.Lg Go.Num
theorem cLa:∀ p∈[(4,0),(8,0),(15,0),(23,0),(23,1),(23,2),(32,0),(32,1),(39,0),(39,1),(39,2),(52,0),(52,1),(52,2),(57,0),(57,1),(57,2),(57,3)],pS p=true:=by
 simp only[List.forall_mem_cons]
 (repeat' apply And.intro)
 all_goals first |exact List.forall_mem_nil _ |(as_aux_lemma=>kernel_rfl)
end Go.Proofs.YtaidcaemdkncgaaGreatDoor
