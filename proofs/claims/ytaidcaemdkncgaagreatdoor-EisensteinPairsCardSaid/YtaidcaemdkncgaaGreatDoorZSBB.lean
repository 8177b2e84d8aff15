/- Contracts of functions of the program, and what proves them (texts: EAr7). -/
import Derived.KernelRfl
import Derived.Test.YtaidcaemdkncgaaGreatDoorZSAU
set_option linter.all false
set_option maxRecDepth 100000
set_option maxHeartbeats 8000000
namespace Go.Proofs.YtaidcaemdkncgaaGreatDoor
open Go Go.Lg Go.Num
theorem cLc:∀ p∈[(3,0),(9,0),(22,0),(29,0),(29,1),(29,2),(30,0),(41,0),(41,1),(41,2),(41,3),(43,0),(43,1),(43,2),(43,3),(43,4),(48,0),(48,1)],pS p=true:=by
 simp only[List.forall_mem_cons]
 (repeat' apply And.intro)
 all_goals first |exact List.forall_mem_nil _ |(as_aux_lemma=>kernel_rfl)
end Go.Proofs.YtaidcaemdkncgaaGreatDoor
