/- Contracts of functions of the program, and what proves them (texts: GC0). -/
import Derived.Test.YtlbckpljefadpaaGreatZAZ
import Derived.Test.YtlbckpljefadpaaGreatZBA
set_option linter.all false
namespace Go.Proofs.YtlbckpljefadpaaGreat
open Go Go.Lg Go.Num
set_option maxRecDepth 100000
noncomputable def chkU (f n : Nat) (v : List Nat) : Bool := match evo orcU f [chV n v] with
 | some (.lit (.bool b)) => b
 | _ => false
theorem chkU_ok {f n : Nat} {v : List Nat} (h : chkU f n v = true) : PureGood Tryz.prog f [.agg [i64 n,.sl (nI v).length (ec (nI v))]] (.lit (.bool true)) := by
 unfold chkU at h
 split at h
 ·rename_i b e
  rw [← chV_eq]
  subst h
  exact evo_good orcU_ok e
 ·cases h
noncomputable def chkCd (n : Nat) (v : List Nat) : Bool := (sml n).any (eqN v) || (match evo orcU 23 [chV n v] with
 | some (.tup [.lit (.int .i64 _),.lit (.int .i64 (.ofNat e))]) => Nat.beq e 0
 | _ => false)
theorem chkCd_ok {n : Nat} {v : List Nat} (h : chkCd n v = true) : v ∈ sml n ∨ ∃ c,PureGood Tryz.prog 23 [.agg [i64 n,.sl (nI v).length (ec (nI v))]] (.tup [.lit (.int .i64 c),i64 0]) := by
 unfold chkCd at h
 rw [Bool.or_eq_true] at h
 rcases h with h | h
 ·obtain ⟨w,hw,he⟩ := List.any_eq_true.1 h
  rw [eqN_ok he]
  exact .inl hw
 ·rw [← chV_eq]
  split at h
  ·rename_i c e he
   have e1 := Nat.eq_of_beq_eq_true h
   subst e1
   exact .inr ⟨c,evo_good orcU_ok he⟩
  ·cases h
end Go.Proofs.YtlbckpljefadpaaGreat