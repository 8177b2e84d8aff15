/- Contracts of functions of the program, and what proves them (texts: EAr6). -/
import Derived.KernelRfl
import Derived.Test.YtaidcaemdkncgaaGreatDoorZSAU
set_option linter.all false
set_option maxRecDepth 100000
set_option maxHeartbeats 8000000
namespace Go.Proofs.YtaidcaemdkncgaaGreatDoor
open Go Go.Lg Go.Num
theorem cLb:∀ p∈[(14,0),(19,0),(19,1),(20,0),(35,0),(35,1),(35,2),(36,0),(36,1),(47,0),(47,1),(47,2),(47,3),(47,4),(58,0),(58,1),(58,2)],pS p=true:=by
 simp only[List.forall_mem_cons]
 (repeat' apply And.intro)
 all_goals first |exact List.forall_mem_nil _ |(as_aux_lemma=>kernel_rfl)
end Go.Proofs.YtaidcaemdkncgaaGreatDoor
