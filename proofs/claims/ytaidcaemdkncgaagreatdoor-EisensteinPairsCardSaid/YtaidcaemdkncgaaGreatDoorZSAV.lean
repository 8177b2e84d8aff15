/- Contracts of functions of the program, and what proves them (texts: EAr1). -/
import Derived.KernelRfl
import Derived.Test.YtaidcaemdkncgaaGreatDoorZSAU
set_option linter.all false
set_option maxRecDepth 100000
set_option maxHeartbeats 8000000
namespace Go.Proofs.YtaidcaemdkncgaaGreatDoor
open Go Go.Lg Go.Num
theorem cK6:∀ p∈[(2,0),(12,0),(17,0),(17,1),(25,0),(25,1),(40,0),(40,1),(54,0),(54,1),(59,0),(59,1),(59,2),(59,3),(59,4),(59,5)],pS p=true:=by
 simp only[List.forall_mem_cons]
 (repeat' apply And.intro)
 all_goals first |exact List.forall_mem_nil _ |(as_aux_lemma=>kernel_rfl)
end Go.Proofs.YtaidcaemdkncgaaGreatDoor
