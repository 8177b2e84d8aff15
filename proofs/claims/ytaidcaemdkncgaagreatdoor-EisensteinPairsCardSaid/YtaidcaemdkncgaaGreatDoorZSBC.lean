/- Contracts of functions of the program, and what proves them (texts: EAr8). -/
import Derived.KernelRfl
import Derived.Test.YtaidcaemdkncgaaGreatDoorZSAU
set_option linter.all false
set_option maxRecDepth 100000
set_option maxHeartbeats 8000000
namespace Go.Proofs.YtaidcaemdkncgaaGreatDoor
open Go Go.Lg Go.Num
theorem cLd:∀ p∈[(5,0),(6,0),(18,0),(34,0),(34,1),(38,0),(38,1),(50,0),(50,1),(51,0),(51,1),(51,2),(51,3),(56,0),(56,1),(56,2)],pS p=true:=by
 simp only[List.forall_mem_cons]
 (repeat' apply And.intro)
 all_goals first |exact List.forall_mem_nil _ |(as_aux_lemma=>kernel_rfl)
end Go.Proofs.YtaidcaemdkncgaaGreatDoor
