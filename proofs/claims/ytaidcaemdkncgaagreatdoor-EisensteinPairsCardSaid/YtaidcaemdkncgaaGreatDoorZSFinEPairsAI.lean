/- Contracts of functions of the program, and what proves them (texts: RPr4). -/
import Derived.KernelRfl
import Derived.Test.YtaidcaemdkncgaaGreatDoorZSFinEPairsAE
set_option linter.all false
set_option maxRecDepth 100000
set_option maxHeartbeats 8000000
namespace Go.Proofs.YtaidcaemdkncgaaGreatDoor
open Go Go.Lg Go.Num
theorem cMf:∀ p∈[(3,-3),(9,-3),(10,5),(14,-7),(15,1),(16,8),(18,-3),(20,-20),(24,8),(32,-4),(33,1),(34,17),(35,-35),(37,1),(38,1),(40,-20),(41,41),(45,-3),(46,-23),(49,1),(50,5),(58,1),(58,29),(60,-15)],rA p.1 p.2:=by
 simp only[List.forall_mem_cons]
 (repeat' apply And.intro)
 all_goals first |exact List.forall_mem_nil _ |(refine fun n=> ?_;as_aux_lemma=>kernel_rfl)
theorem cMg:∀ p∈[(10,5),(15,1),(16,8),(24,8),(33,1),(34,17),(37,1),(38,1),(41,41),(49,1),(50,5),(58,1),(58,29)],rB p.1 p.2:=by
 simp only[List.forall_mem_cons]
 (repeat' apply And.intro)
 all_goals first |exact List.forall_mem_nil _ |(show _=true;as_aux_lemma=>kernel_rfl)
end Go.Proofs.YtaidcaemdkncgaaGreatDoor
