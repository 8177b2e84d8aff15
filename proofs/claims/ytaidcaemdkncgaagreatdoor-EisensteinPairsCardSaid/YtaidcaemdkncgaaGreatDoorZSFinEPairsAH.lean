/- Contracts of functions of the program, and what proves them (texts: RPr3). -/
import Derived.KernelRfl
import Derived.Test.YtaidcaemdkncgaaGreatDoorZSFinEPairsAE
set_option linter.all false
set_option maxRecDepth 100000
set_option maxHeartbeats 8000000
namespace Go.Proofs.YtaidcaemdkncgaaGreatDoor
open Go Go.Lg Go.Num
theorem cMd:∀ p∈[(3,1),(12,1),(15,-15),(16,-8),(17,17),(20,1),(21,21),(24,-24),(24,24),(28,-7),(29,29),(30,5),(33,-3),(35,5),(39,-3),(42,21),(44,-11),(48,-8),(48,24),(56,-56),(56,1),(57,-3),(60,60)],rA p.1 p.2:=by
 simp only[List.forall_mem_cons]
 (repeat' apply And.intro)
 all_goals first |exact List.forall_mem_nil _ |(refine fun n=> ?_;as_aux_lemma=>kernel_rfl)
theorem cMe:∀ p∈[(3,1),(12,1),(17,17),(20,1),(21,21),(24,24),(29,29),(30,5),(35,5),(42,21),(48,24),(56,1),(60,60)],rB p.1 p.2:=by
 simp only[List.forall_mem_cons]
 (repeat' apply And.intro)
 all_goals first |exact List.forall_mem_nil _ |(show _=true;as_aux_lemma=>kernel_rfl)
end Go.Proofs.YtaidcaemdkncgaaGreatDoor
