/- Contracts of functions of the program, and what proves them (texts: KE0). -/
import Derived.KernelRfl
import Derived.Test.YtbajpjjbaffnnaaGreatZAP
import Derived.Test.YtbajpjjbaffnnaaGreatZAR
import Derived.Test.YtbajpjjbaffnnaaGreatZAS
set_option linter.all false
namespace Go.Proofs.YtbajpjjbaffnnaaGreat
open Go Go.Lg Go.Num
set_option maxRecDepth 100000
def eqI : List LV → List Nat → Bool
 | [],[] => true
 | .lit (.int .i64 (.ofNat d)) :: cs,e :: es => Nat.beq d e && eqI cs es
 | _,_ => false
theorem eqI_ok : ∀ {cs : List LV} {l : List Nat},eqI cs l = true → cs = ec (l.map fun (d : Nat) => (d : Int))
 | [],[],_ => rfl
 | [],_ :: _,h => by cases h
 | c :: cs,[],h => by unfold eqI at h;split at h <;> simp_all
 | c :: cs,e :: es,h => by
   unfold eqI at h
   split at h
   · simp_all
   · rename_i h1 h2
     rw [Bool.and_eq_true] at h
     simp only [List.cons.injEq] at h1 h2
     obtain ⟨rfl,rfl⟩ := h1
     obtain ⟨rfl,rfl⟩ := h2
     obtain rfl := Nat.eq_of_beq_eq_true h.1
     rw [eqI_ok h.2]
     rfl
   · cases h
def fcs (n : Nat) (l : List Nat) : List LV := l.flatMap fun (p : Nat) => [LV.lit (.int .i64 (p : Int)),LV.lit (.int .i64 ((vp p n : Nat) : Int))]
def eqF (n : Nat) : List LV → List Nat → Bool
 | [],[] => true
 | .lit (.int .i64 (.ofNat d)) :: .lit (.int .i64 (.ofNat k)) :: cs,e :: es => Nat.beq d e && Nat.beq k (vp d n) && eqF n cs es
 | _,_ => false
theorem eqF_ok (n : Nat) : ∀ {l : List Nat} {cs : List LV},eqF n cs l = true → cs = fcs n l
 | [],cs,h => by
   unfold eqF at h
   split at h <;> simp_all [fcs]
 | e :: es,cs,h => by
   unfold eqF at h
   split at h
   · simp_all
   · rename_i h2
     rw [Bool.and_eq_true,Bool.and_eq_true] at h
     simp only [List.cons.injEq] at h2
     obtain ⟨rfl,rfl⟩ := h2
     obtain rfl := Nat.eq_of_beq_eq_true h.1.1
     have := Nat.eq_of_beq_eq_true h.1.2
     subst this
     rw [eqF_ok n h.2]
     rfl
   · cases h
noncomputable def chkD (n : Nat) : Bool := match evh 25 [i64 n] with
 | some (.tup [.sl k cs,.lit (.int .i64 (.ofNat 0))]) => Nat.beq k (divN n).length && eqI cs (divN n)
 | _ => false
noncomputable def chkR (n : Nat) : Bool := match evh 68 [i64 n] with
 | some (.sl k cs) => Nat.beq k (divN n).length && eqI cs (divN n)
 | _ => false
noncomputable def chkF (n : Nat) : Bool := match evh 100 [i64 n] with
 | some (.tup [.sl k cs,.lit (.int .i64 (.ofNat 0))]) => Nat.beq k (prs n).length && eqF n cs (prs n)
 | _ => false
noncomputable def chkP (n : Nat) : Bool := match evh 101 [i64 n] with
 | some (.lit (.bool b)) => b == primesT.contains n
 | _ => false
noncomputable def chkN (n : Nat) : Bool := chkD n && chkR n && chkF n && chkP n
theorem chkD_ok {n : Nat} (h : chkD n = true) : PureGood Tryz.prog 25 [i64 n] (.tup [.sl (divN n).length (ec (divL n)),i64 0]) := by
 unfold chkD at h
 split at h
 ·rename_i k cs he
  rw [Bool.and_eq_true] at h
  obtain rfl := Nat.eq_of_beq_eq_true h.1
  rw [eqI_ok h.2] at he
  exact evh_good he
 ·cases h
theorem chkR_ok {n : Nat} (h : chkR n = true) : PureGood Tryz.prog 68 [i64 n] (.sl (divN n).length (ec (divL n))) := by
 unfold chkR at h
 split at h
 ·rename_i k cs he
  rw [Bool.and_eq_true] at h
  obtain rfl := Nat.eq_of_beq_eq_true h.1
  rw [eqI_ok h.2] at he
  exact evh_good he
 ·cases h
theorem chkF_ok {n : Nat} (h : chkF n = true) : PureGood Tryz.prog 100 [i64 n] (.tup [.sl (prs n).length (fcs n (prs n)),i64 0]) := by
 unfold chkF at h
 split at h
 ·rename_i k cs he
  rw [Bool.and_eq_true] at h
  obtain rfl := Nat.eq_of_beq_eq_true h.1
  rw [eqF_ok n h.2] at he
  exact evh_good he
 ·cases h
end Go.Proofs.YtbajpjjbaffnnaaGreat