/- Contracts of functions of the program, and what proves them (texts: RPr7). -/
import Derived.KernelRfl
import Derived.Test.YtaidcaemdkncgaaGreatDoorZSFinEPairsAE
set_option linter.all false
set_option maxRecDepth 100000
set_option maxHeartbeats 8000000
namespace Go.Proofs.YtaidcaemdkncgaaGreatDoor
open Go Go.Lg Go.Num
theorem cMl:∀ p∈[(1,1),(5,1),(7,-7),(9,1),(11,1),(23,-23),(24,12),(25,5),(30,-3),(31,-31),(35,-7),(39,-39),(40,-40),(40,40),(43,1),(44,1),(45,-15),(47,-47),(49,-7),(53,53),(54,1),(56,28),(57,-19),(57,1)],rA p.1 p.2:=by
 simp only[List.forall_mem_cons]
 (repeat' apply And.intro)
 all_goals first |exact List.forall_mem_nil _ |(refine fun n=> ?_;as_aux_lemma=>kernel_rfl)
theorem cMm:∀ p∈[(1,1),(5,1),(9,1),(11,1),(24,12),(25,5),(40,40),(43,1),(44,1),(53,53),(54,1),(56,28),(57,1)],rB p.1 p.2:=by
 simp only[List.forall_mem_cons]
 (repeat' apply And.intro)
 all_goals first |exact List.forall_mem_nil _ |(show _=true;as_aux_lemma=>kernel_rfl)
end Go.Proofs.YtaidcaemdkncgaaGreatDoor
