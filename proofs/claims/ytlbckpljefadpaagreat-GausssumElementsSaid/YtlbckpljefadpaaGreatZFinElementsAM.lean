/- Contracts of functions of the program, and what proves them (texts: G9e). -/
import Derived.Test.YtlbckpljefadpaaGreatZFinElementsAG
import Derived.Test.YtlbckpljefadpaaGreatZFinElementsAH
import Derived.Test.YtlbckpljefadpaaGreatZFinElementsAI
import Derived.Test.YtlbckpljefadpaaGreatZFinElementsAJ
import Derived.Test.YtlbckpljefadpaaGreatZFinElementsAK
import Derived.Test.YtlbckpljefadpaaGreatZFinElementsAL
set_option linter.all false
namespace Go.Proofs.YtlbckpljefadpaaGreat
open Go Go.Lg Go.Num
set_option maxRecDepth 100000
theorem el_mem : ∀ n ∈ nEl,(fracs n).all (chkEl n) = true := by
 simp only [nEl,List.forall_mem_cons]
 exact ⟨el_1,el_2,el_3,el_4,el_5,el_6,el_7,el_8,el_9,el_10,el_11,el_12,el_13,el_14,el_15,el_16,el_18,el_20,el_21,el_22,el_24,el_26,el_28,el_30,el_36,el_42,by simp⟩
theorem lawElements_good (n : Int) (hn : -9223372036854775808 ≤ n ∧ n ≤ 9223372036854775807) (z : Bool) (num den : Int) (hu : -9223372036854775808 ≤ num ∧ num ≤ 9223372036854775807) (hd : -9223372036854775808 ≤ den ∧ den ≤ 9223372036854775807) : PureGood Tryz.prog 6 [i64 n,.agg [bl z,i64 num,i64 den]] (.lit (.bool true)) := by
 by_cases h1 : n < 1 ∨ 512 < n
 ·exact lawElem_err (elem_e2 h1)
 ·obtain ⟨n,rfl⟩ : ∃ k : Nat,n = k := ⟨n.toNat,by omega⟩
  have n1 : 1 ≤ n := by omega
  have n2 : n ≤ 512 := by omega
  by_cases h2 : 12 < phN n n
  ·exact lawElem_err (elem_e7 n1 n2 h2)
  ·have h2 : phN n n ≤ 12 := by omega
   by_cases h3 : fmd z num den
   ·cases z with
    | true =>
      have h3' := h3
      unfold fmd at h3'
      rw [if_pos rfl] at h3'
      rw [h3'.1,h3'.2]
      exact lawElem_err (elem_e0 n1 n2 h2)
    | false =>
      by_cases h4 : (n : Int).tmod den = 0
      · have h3' := h3
        unfold fmd at h3'
        rw [if_neg (by simp)] at h3'
        obtain ⟨c1,c2,c3⟩ := h3'
        obtain ⟨u,rfl⟩ : ∃ k : Nat,num = k := ⟨num.toNat,by omega⟩
        obtain ⟨d,rfl⟩ : ∃ k : Nat,den = k := ⟨den.toNat,by omega⟩
        have h5 : n % d = 0 := by
          rw [Int.tmod_eq_emod_of_nonneg (by omega)] at h4
          omega
        have hm := fracs_mem (n := n) (u := u) (d := d) (by omega) n1 h5 (by omega) c3
        have h := List.all_eq_true.1 (el_mem n (nEl_ok n1 n2 h2)) _ hm
        unfold chkEl at h
        split at h
        · rename_i b e
          subst h
          exact evo_good orcR_ok e
        · cases h
      · exact lawElem_err (elem_e12 n1 n2 h2 hu hd h3 h4)
   ·exact lawElem_err (elem_e3 n1 n2 h2 hu hd h3)
end Go.Proofs.YtlbckpljefadpaaGreat