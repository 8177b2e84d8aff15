/- Contracts of functions of the program, and what proves them (texts: EAr4). -/
import Derived.KernelRfl
import Derived.Test.YtaidcaemdkncgaaGreatDoorZSAU
set_option linter.all false
set_option maxRecDepth 100000
set_option maxHeartbeats 8000000
namespace Go.Proofs.YtaidcaemdkncgaaGreatDoor
open Go Go.Lg Go.Num
theorem cK9:∀ p∈[(11,0),(13,0),(13,1),(28,0),(28,1),(33,0),(33,1),(37,0),(37,1),(37,2),(37,3),(44,0),(44,1),(49,0),(49,1),(49,2),(49,3),(49,4)],pS p=true:=by
 simp only[List.forall_mem_cons]
 (repeat' apply And.intro)
 all_goals first |exact List.forall_mem_nil _ |(as_aux_lemma=>kernel_rfl)
end Go.Proofs.YtaidcaemdkncgaaGreatDoor
