/- Contracts of functions of the program, and what proves them (texts: EAr2). -/
import Derived.KernelRfl
import Derived.Test.YtaidcaemdkncgaaGreatDoorZSAU
set_option linter.all false
set_option maxRecDepth 100000
set_option maxHeartbeats 8000000
namespace Go.Proofs.YtaidcaemdkncgaaGreatDoor
open Go Go.Lg Go.Num
theorem cK7:∀ p∈[(1,0),(7,0),(16,0),(21,0),(21,1),(27,0),(27,1),(31,0),(31,1),(31,2),(45,0),(45,1),(45,2),(53,0),(53,1),(53,2),(53,3),(53,4),(53,5)],pS p=true:=by
 simp only[List.forall_mem_cons]
 (repeat' apply And.intro)
 all_goals first |exact List.forall_mem_nil _ |(as_aux_lemma=>kernel_rfl)
end Go.Proofs.YtaidcaemdkncgaaGreatDoor
