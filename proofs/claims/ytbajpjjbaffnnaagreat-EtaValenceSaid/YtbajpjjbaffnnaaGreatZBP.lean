/- Contracts of functions of the program, and what proves them (texts: KP). -/
import Derived.Test.YtbajpjjbaffnnaaGreatZBL
import Derived.Test.YtbajpjjbaffnnaaGreatZBM
import Derived.Test.YtbajpjjbaffnnaaGreatZBN
import Derived.Test.YtbajpjjbaffnnaaGreatZBO
set_option linter.all false
namespace Go.Proofs.YtbajpjjbaffnnaaGreat
open Go Go.Lg Go.Num
set_option maxRecDepth 100000
theorem kp_all {n : Nat} (h1 : 1 ≤ n) (h2 : n ≤ 600) : chkPsi n = true := by
  obtain ⟨j, i, hi, hj, rfl⟩ : ∃ j i, i < 4 ∧ j < 150 ∧ n = 4 * j + (i + 1) := ⟨(n - 1) / 4, (n - 1) % 4, by omega, by omega, by omega⟩
  match i, hi with
  | 0, _ => exact kp0 j hj
  | 1, _ => exact kp1 j hj
  | 2, _ => exact kp2 j hj
  | 3, _ => exact kp3 j hj
theorem psi_good {n : Nat} (h1 : 1 ≤ n) (h2 : n ≤ 600) : PureGood Tryz.prog 26 [i64 n] (.tup [i64 (psiN n), i64 0]) := chkPsi_ok (kp_all h1 h2)
theorem phi_good {n : Nat} (h1 : 1 ≤ n) (h2 : n ≤ 24) : PureGood Tryz.prog 28 [i64 n] (.tup [i64 (phiN n), i64 0]) := by
  have h := List.all_eq_true.1 kf0 (n - 1) (List.mem_range.2 (by omega))
  rw [show n - 1 + 1 = n by omega] at h
  exact chkPhi_ok h
end Go.Proofs.YtbajpjjbaffnnaaGreat
