/- Contracts of functions of the program, and what proves them (texts: JO0). -/
import Derived.Test.YtpkjokknpbclhaaGreatZBR
set_option linter.all false
namespace Go.Proofs.YtpkjokknpbclhaaGreat
open Go Go.Lg Go.Num
set_option maxRecDepth 100000
def ordG : Nat → List Nat → List Nat → Nat
 | k,o :: os,e :: v => fNat (o / Nat.gcd o e) fun d => fNat (k / Nat.gcd k d * d) fun k => ordG k os v
 | k,_,_ => k
def ordN (n : Nat) (v : List Nat) : Nat := ordG 1 (od n) v
noncomputable def chkOr (n : Nat) (v : List Nat) : Bool := Nat.ble 1 (ordN n v) && Nat.ble (ordN n v) 60 && (match evo orcU 29 [chV n v] with
 | some (.tup [.lit (.int .i64 (.ofNat k)),.lit (.int .i64 (.ofNat e))]) => Nat.beq k (ordN n v) && Nat.beq e 0
 | _ => false) && (match evo orcU 34 [chV n v] with
 | some (.lit (.int .i64 (.ofNat k))) => Nat.beq k (ordN n v)
 | _ => false)
theorem chkOr_ok {n : Nat} {v : List Nat} (h : chkOr n v = true) : (1 ≤ ordN n v ∧ ordN n v ≤ 60) ∧ PureGood Tryz.prog 29 [.agg [i64 n,.sl (nI v).length (ec (nI v))]] (.tup [i64 (ordN n v),i64 0]) ∧ PureGood Tryz.prog 34 [.agg [i64 n,.sl (nI v).length (ec (nI v))]] (i64 (ordN n v)) := by
 unfold chkOr at h
 rw [Bool.and_eq_true,Bool.and_eq_true,Bool.and_eq_true,Nat.ble_eq,Nat.ble_eq] at h
 obtain ⟨⟨h0,h⟩,h'⟩ := h
 rw [← chV_eq]
 refine ⟨h0,?_,?_⟩
 ·split at h
  ·rename_i k e he
   rw [Bool.and_eq_true] at h
   have e1 := Nat.eq_of_beq_eq_true h.1
   have e2 := Nat.eq_of_beq_eq_true h.2
   rw [e1,e2] at he
   exact evo_good orcU_ok he
  ·cases h
 ·split at h'
  ·rename_i k he
   have e1 := Nat.eq_of_beq_eq_true h'
   rw [e1] at he
   exact evo_good orcU_ok he
  ·cases h'
end Go.Proofs.YtpkjokknpbclhaaGreat