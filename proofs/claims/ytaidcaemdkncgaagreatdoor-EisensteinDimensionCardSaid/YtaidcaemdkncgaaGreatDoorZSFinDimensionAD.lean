/- Contracts of functions of the program, and what proves them (texts: DMr3). -/
import Derived.KernelRfl
import Derived.Test.YtaidcaemdkncgaaGreatDoorZSFinDimensionAA
set_option linter.all false
set_option maxRecDepth 100000
set_option maxHeartbeats 8000000
namespace Go.Proofs.YtaidcaemdkncgaaGreatDoor
open Go Go.Lg Go.Num
theorem cMu:∀ p∈[(3,1),(12,1),(15,-15),(16,-8),(17,17),(20,1),(21,21),(24,-24),(24,24),(28,-7),(29,29),(30,5),(33,-3),(35,5),(39,-3),(42,21),(44,-11),(48,-8),(48,24),(56,-56),(56,1),(57,-3),(60,60)],qA p.1 p.2:=by
 simp only[List.forall_mem_cons]
 (repeat' apply And.intro)
 all_goals first |exact List.forall_mem_nil _ |(refine fun n=> ?_;as_aux_lemma=>kernel_rfl)
theorem cMv:∀ p∈[(3,1),(12,1),(17,17),(20,1),(21,21),(24,24),(29,29),(30,5),(35,5),(42,21),(48,24),(56,1),(60,60)],qB p.1 p.2:=by
 simp only[List.forall_mem_cons]
 (repeat' apply And.intro)
 all_goals first |exact List.forall_mem_nil _ |(show _=true;as_aux_lemma=>kernel_rfl)
end Go.Proofs.YtaidcaemdkncgaaGreatDoor
