/- Contracts of functions of the program, and what proves them (texts: RPr5). -/
import Derived.KernelRfl
import Derived.Test.YtaidcaemdkncgaaGreatDoorZSFinEPairsAE
set_option linter.all false
set_option maxRecDepth 100000
set_option maxHeartbeats 8000000
namespace Go.Proofs.YtaidcaemdkncgaaGreatDoor
open Go Go.Lg Go.Num
theorem cMh:∀ p∈[(4,-4),(7,1),(8,-4),(8,8),(13,1),(13,13),(16,-4),(16,1),(25,1),(30,1),(33,-11),(35,1),(39,1),(40,-4),(40,5),(42,1),(44,-4),(46,1),(51,-3),(51,17),(52,1),(56,-7),(57,57),(59,1)],rA p.1 p.2:=by
 simp only[List.forall_mem_cons]
 (repeat' apply And.intro)
 all_goals first |exact List.forall_mem_nil _ |(refine fun n=> ?_;as_aux_lemma=>kernel_rfl)
theorem cMi:∀ p∈[(7,1),(8,8),(13,1),(13,13),(16,1),(25,1),(30,1),(35,1),(39,1),(40,5),(42,1),(46,1),(51,17),(52,1),(57,57),(59,1)],rB p.1 p.2:=by
 simp only[List.forall_mem_cons]
 (repeat' apply And.intro)
 all_goals first |exact List.forall_mem_nil _ |(show _=true;as_aux_lemma=>kernel_rfl)
end Go.Proofs.YtaidcaemdkncgaaGreatDoor
