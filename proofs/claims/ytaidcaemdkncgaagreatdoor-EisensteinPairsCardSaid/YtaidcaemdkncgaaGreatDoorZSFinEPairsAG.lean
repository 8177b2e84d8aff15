/- Contracts of functions of the program, and what proves them (texts: RPr2). -/
import Derived.KernelRfl
import Derived.Test.YtaidcaemdkncgaaGreatDoorZSFinEPairsAE
set_option linter.all false
set_option maxRecDepth 100000
set_option maxHeartbeats 8000000
namespace Go.Proofs.YtaidcaemdkncgaaGreatDoor
open Go Go.Lg Go.Num
theorem cMb:∀ p∈[(10,1),(11,-11),(12,-4),(12,12),(20,-4),(20,5),(23,1),(24,-3),(26,1),(28,1),(30,-15),(32,8),(34,1),(36,-4),(40,1),(44,44),(48,12),(50,1),(52,-4),(55,-11),(55,1),(60,-3),(60,12)],rA p.1 p.2:=by
 simp only[List.forall_mem_cons]
 (repeat' apply And.intro)
 all_goals first |exact List.forall_mem_nil _ |(refine fun n=> ?_;as_aux_lemma=>kernel_rfl)
theorem cMc:∀ p∈[(10,1),(12,12),(20,5),(23,1),(26,1),(28,1),(32,8),(34,1),(40,1),(44,44),(48,12),(50,1),(55,1),(60,12)],rB p.1 p.2:=by
 simp only[List.forall_mem_cons]
 (repeat' apply And.intro)
 all_goals first |exact List.forall_mem_nil _ |(show _=true;as_aux_lemma=>kernel_rfl)
end Go.Proofs.YtaidcaemdkncgaaGreatDoor
