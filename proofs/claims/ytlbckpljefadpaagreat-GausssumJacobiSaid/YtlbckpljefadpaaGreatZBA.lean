/- Contracts of functions of the program, and what proves them (texts: GB0). -/
import Derived.Test.YtlbckpljefadpaaGreatZAX
set_option linter.all false
namespace Go.Proofs.YtlbckpljefadpaaGreat
open Go Go.Lg Go.Num
set_option maxRecDepth 100000
def smlT : List (List (List Nat)) := [[],[[]],[[]],[[0],[1]],[[0],[1]],[[0],[1],[2],[3]],[[0],[1]],[[0],[1],[2],[3],[4],[5]],[[0,0],[0,1],[1,0],[1,1]],[[0],[1],[2],[3],[4],[5]],[[0],[1],[2],[3]],[[0],[5]],[[0,0],[0,1],[1,0],[1,1]],[[0],[6]],[[0],[1],[2],[3],[4],[5]],[[0,0],[0,2],[1,0],[1,2]],[[0,0],[0,1],[0,2],[0,3],[1,0],[1,1],[1,2],[1,3]],[],[[0],[1],[2],[3],[4],[5]],[],[[0,0],[0,1],[0,2],[0,3],[1,0],[1,1],[1,2],[1,3]],[[0,0],[0,1],[0,2],[0,3],[0,4],[0,5],[1,0],[1,1],[1,2],[1,3],[1,4],[1,5]],[[0],[5]],[],[[0,0,0],[0,0,1],[0,1,0],[0,1,1],[1,0,0],[1,0,1],[1,1,0],[1,1,1]],[],[[0],[6]],[],[[0,0],[0,3],[1,0],[1,3]],[],[[0,0],[0,2],[1,0],[1,2]],[],[],[],[],[],[[0,0],[0,1],[0,2],[0,3],[0,4],[0,5],[1,0],[1,1],[1,2],[1,3],[1,4],[1,5]],[],[],[],[],[],[[0,0],[0,1],[0,2],[0,3],[0,4],[0,5],[1,0],[1,1],[1,2],[1,3],[1,4],[1,5]],[],[],[],[],[],[],[],[],[],[],[],[],[],[],[],[],[],[]]
def sml (n : Nat) : List (List Nat) := smlT.getD n []
def eqN : List Nat → List Nat → Bool
 | [],[] => true
 | a :: l,b :: m => Nat.beq a b && eqN l m
 | _,_ => false
theorem eqN_ok : ∀ {l m : List Nat},eqN l m = true → l = m
 | [],[],_ => rfl
 | [],_ :: _,h => by cases h
 | _ :: _,[],h => by cases h
 | a :: l,b :: m,h => by
   unfold eqN at h
   rw [Bool.and_eq_true] at h
   rw [Nat.eq_of_beq_eq_true h.1,eqN_ok h.2]
noncomputable def is07 (x : Option LV) : Bool := match x with
 | some (.tup [.lit (.int .i64 (.ofNat a)),.lit (.int .i64 (.ofNat e))]) => Nat.beq a 0 && Nat.beq e 7
 | _ => false
noncomputable def chkB (n : Nat) (v : List Nat) : Bool := (sml n).any (eqN v) || (is07 (evo orcR 13 [chV n v]) && is07 (evo orcR 15 [chV n v]))
theorem is07_ok {f : Nat} {args : List LV} (h : is07 (evo orcR f args) = true) : PureGood Tryz.prog f args (.tup [i64 0,i64 7]) := by
 unfold is07 at h
 split at h
 ·rename_i a e he
  rw [Bool.and_eq_true] at h
  have e1 := Nat.eq_of_beq_eq_true h.1
  have e2 := Nat.eq_of_beq_eq_true h.2
  subst e1
  subst e2
  exact evo_good orcR_ok he
 ·cases h
theorem chkB_ok {n : Nat} {v : List Nat} (h : chkB n v = true) : v ∈ sml n ∨ PureGood Tryz.prog 13 [.agg [i64 n,.sl (nI v).length (ec (nI v))]] (.tup [i64 0,i64 7]) ∧ PureGood Tryz.prog 15 [.agg [i64 n,.sl (nI v).length (ec (nI v))]] (.tup [i64 0,i64 7]) := by
 unfold chkB at h
 rw [Bool.or_eq_true,Bool.and_eq_true] at h
 rcases h with h | ⟨h1,h2⟩
 ·obtain ⟨w,hw,he⟩ := List.any_eq_true.1 h
  rw [eqN_ok he]
  exact .inl hw
 ·rw [← chV_eq]
  exact .inr ⟨is07_ok h1,is07_ok h2⟩
end Go.Proofs.YtlbckpljefadpaaGreat