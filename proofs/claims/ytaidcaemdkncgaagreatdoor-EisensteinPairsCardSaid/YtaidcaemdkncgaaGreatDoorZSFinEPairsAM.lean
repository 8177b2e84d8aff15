/- Contracts of functions of the program, and what proves them (texts: RPr8). -/
import Derived.KernelRfl
import Derived.Test.YtaidcaemdkncgaaGreatDoorZSFinEPairsAE
set_option linter.all false
set_option maxRecDepth 100000
set_option maxHeartbeats 8000000
namespace Go.Proofs.YtaidcaemdkncgaaGreatDoor
open Go Go.Lg Go.Num
theorem cMn:∀ p∈[(4,1),(12,-3),(14,1),(19,-19),(21,-7),(21,1),(24,1),(27,-3),(28,28),(29,1),(31,1),(32,-8),(36,1),(39,13),(40,-8),(40,8),(45,1),(48,-24),(52,13),(53,1),(55,-55),(56,56),(60,-4)],rA p.1 p.2:=by
 simp only[List.forall_mem_cons]
 (repeat' apply And.intro)
 all_goals first |exact List.forall_mem_nil _ |(refine fun n=> ?_;as_aux_lemma=>kernel_rfl)
theorem cMo:∀ p∈[(4,1),(14,1),(21,1),(24,1),(28,28),(29,1),(31,1),(36,1),(39,13),(40,8),(45,1),(52,13),(53,1),(56,56)],rB p.1 p.2:=by
 simp only[List.forall_mem_cons]
 (repeat' apply And.intro)
 all_goals first |exact List.forall_mem_nil _ |(show _=true;as_aux_lemma=>kernel_rfl)
end Go.Proofs.YtaidcaemdkncgaaGreatDoor
