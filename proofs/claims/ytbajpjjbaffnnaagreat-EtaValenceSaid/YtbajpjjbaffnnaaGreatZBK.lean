/- Contracts of functions of the program, and what proves them (texts: KP0). -/
import Derived.KernelRfl
import Derived.Test.YtbajpjjbaffnnaaGreatZAR
import Derived.Test.YtbajpjjbaffnnaaGreatZBG
set_option linter.all false
namespace Go.Proofs.YtbajpjjbaffnnaaGreat
open Go Go.Lg Go.Num
set_option maxRecDepth 100000
noncomputable def chkPsi (n : Nat) : Bool := match evh 26 [i64 n] with
  | some (.tup [.lit (.int .i64 (.ofNat k)), .lit (.int .i64 (.ofNat 0))]) => Nat.beq k (psiN n)
  | _ => false
theorem chkPsi_ok {n : Nat} (h : chkPsi n = true) : PureGood Tryz.prog 26 [i64 n] (.tup [i64 (psiN n), i64 0]) := by
  unfold chkPsi at h
  split at h
  · rename_i k he
    obtain rfl := Nat.eq_of_beq_eq_true h
    exact evh_good he
  · cases h
noncomputable def chkPhi (n : Nat) : Bool := match evh 28 [i64 n] with
  | some (.tup [.lit (.int .i64 (.ofNat k)), .lit (.int .i64 (.ofNat 0))]) => Nat.beq k (phiN n)
  | _ => false
theorem chkPhi_ok {n : Nat} (h : chkPhi n = true) : PureGood Tryz.prog 28 [i64 n] (.tup [i64 (phiN n), i64 0]) := by
  unfold chkPhi at h
  split at h
  · rename_i k he
    obtain rfl := Nat.eq_of_beq_eq_true h
    exact evh_good he
  · cases h
end Go.Proofs.YtbajpjjbaffnnaaGreat
