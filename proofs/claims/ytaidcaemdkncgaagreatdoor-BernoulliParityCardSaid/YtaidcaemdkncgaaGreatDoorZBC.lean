/- Contracts of functions of the program, and what proves them (texts: BCq). -/
import Derived.Test.YtaidcaemdkncgaaGreatDoorZBA
import Derived.Test.YtaidcaemdkncgaaGreatDoorZBB
set_option linter.all false
set_option maxRecDepth 100000
set_option maxHeartbeats 8000000
namespace Go.Proofs.YtaidcaemdkncgaaGreatDoor
open Go Go.Lg Go.Num
theorem trimQ_zeros : ∀ m : Nat,trimQ (List.replicate m 0) = []
 | 0 => rfl
 | m + 1 => by rw [List.replicate_succ',trimQ_snoc_z,trimQ_zeros m]
theorem trimQ_pad (a : List Rat) : ∀ m : Nat,trimQ (a ++ List.replicate m 0) = trimQ a
 | 0 => by rw [List.replicate_zero,List.append_nil]
 | m + 1 => by rw [List.replicate_succ',← List.append_assoc,trimQ_snoc_z,trimQ_pad a m]
theorem trimQ_split (L : List Rat) : ∃ m,L = trimQ L ++ List.replicate m 0 := by
 obtain ⟨k,h1,h2,h3,_⟩ := trimQ_prefix L
 refine ⟨L.length - k,?_⟩
 rw [h2]
 conv => lhs;rw [← List.take_append_drop k L]
 congr 1
 refine ext_getD (by simp) (fun j hj => ?_)
 have e1 : (L.drop k).getD j 0 = L.getD (k + j) 0 := by simp [List.getD]
 rw [e1,h3 (k + j) (by omega)]
 simp [List.getD,List.getElem?_replicate]
 split <;> rfl
theorem remQ_full {g : List Rat} (hg : 1 ≤ g.length) (L : List Rat) : remQ g (trimQ L) = trimQ (divR g (L.length + 1 - g.length) L) := by
 obtain ⟨m,hm⟩ := trimQ_split L
 unfold remQ
 generalize trimQ L = t at *
 subst hm
 rw [List.length_append,List.length_replicate]
 have hz : ∀ j,t.length ≤ j → (t ++ List.replicate m (0 : Rat)).getD j 0 = 0 := fun j hj => by
  simp [List.getD,List.getElem?_append_right hj,List.getElem?_replicate]
  split <;> rfl
 obtain ⟨d,hd⟩ : ∃ d,t.length + m + 1 - g.length = (t.length + 1 - g.length) + d := ⟨t.length + m + 1 - g.length - (t.length + 1 - g.length),by omega⟩
 rw [hd,divR_top g _ d _ (fun j hj => hz j (by omega))]
 by_cases h0 : t.length + 1 - g.length = 0
 ·rw [h0,divR,divR,trimQ_pad]
 ·rw [divR_app g _ hg _ _ (by omega),trimQ_pad]
end Go.Proofs.YtaidcaemdkncgaaGreatDoor