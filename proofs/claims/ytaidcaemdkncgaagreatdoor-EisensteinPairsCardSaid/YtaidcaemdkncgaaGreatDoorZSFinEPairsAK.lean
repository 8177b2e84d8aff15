/- Contracts of functions of the program, and what proves them (texts: RPr6). -/
import Derived.KernelRfl
import Derived.Test.YtaidcaemdkncgaaGreatDoorZSFinEPairsAE
set_option linter.all false
set_option maxRecDepth 100000
set_option maxHeartbeats 8000000
namespace Go.Proofs.YtaidcaemdkncgaaGreatDoor
open Go Go.Lg Go.Num
theorem cMj:∀ p∈[(6,-3),(6,1),(8,-8),(8,1),(15,5),(19,1),(22,-11),(22,1),(24,-8),(28,-4),(37,37),(42,-3),(43,-43),(48,-4),(48,1),(51,-51),(51,1),(52,-52),(55,5),(56,-4),(56,8),(59,-59),(60,-20),(60,1)],rA p.1 p.2:=by
 simp only[List.forall_mem_cons]
 (repeat' apply And.intro)
 all_goals first |exact List.forall_mem_nil _ |(refine fun n=> ?_;as_aux_lemma=>kernel_rfl)
theorem cMk:∀ p∈[(6,1),(8,1),(15,5),(19,1),(22,1),(37,37),(48,1),(51,1),(55,5),(56,8),(60,1)],rB p.1 p.2:=by
 simp only[List.forall_mem_cons]
 (repeat' apply And.intro)
 all_goals first |exact List.forall_mem_nil _ |(show _=true;as_aux_lemma=>kernel_rfl)
end Go.Proofs.YtaidcaemdkncgaaGreatDoor
