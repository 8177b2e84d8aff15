/- Contracts of functions of the program, and what proves them (texts: RPr1). -/
import Derived.KernelRfl
import Derived.Test.YtaidcaemdkncgaaGreatDoorZSFinEPairsAE
set_option linter.all false
set_option maxRecDepth 100000
set_option maxHeartbeats 8000000
namespace Go.Proofs.YtaidcaemdkncgaaGreatDoor
open Go Go.Lg Go.Num
theorem cL9:∀ p∈[(2,1),(5,5),(15,-3),(17,1),(18,1),(21,-3),(24,-4),(26,13),(27,1),(32,1),(33,33),(36,-3),(36,12),(38,-19),(41,1),(42,-7),(45,5),(47,1),(48,-3),(48,8),(54,-3),(56,-8),(60,5)],rA p.1 p.2:=by
 simp only[List.forall_mem_cons]
 (repeat' apply And.intro)
 all_goals first |exact List.forall_mem_nil _ |(refine fun n=> ?_;as_aux_lemma=>kernel_rfl)
theorem cMa:∀ p∈[(2,1),(5,5),(17,1),(18,1),(26,13),(27,1),(32,1),(33,33),(36,12),(41,1),(45,5),(47,1),(48,8),(60,5)],rB p.1 p.2:=by
 simp only[List.forall_mem_cons]
 (repeat' apply And.intro)
 all_goals first |exact List.forall_mem_nil _ |(show _=true;as_aux_lemma=>kernel_rfl)
end Go.Proofs.YtaidcaemdkncgaaGreatDoor
