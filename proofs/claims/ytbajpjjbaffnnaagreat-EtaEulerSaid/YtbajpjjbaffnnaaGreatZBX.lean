/- Contracts of functions of the program, and what proves them (texts: NumU). -/
import Derived.Test.YtbajpjjbaffnnaaGreatZBS
set_option linter.all false
namespace Go.Num
/-- The table's square and sign at the step t - 30. -/
def sqA (t : Nat) : Nat := (6 * (t : Int) - 181).natAbs * (6 * (t : Int) - 181).natAbs
def sqB (t : Nat) : Nat := (2 * (t - 30) + 1) * (2 * (t - 30) + 1)
def sgT (t : Nat) : Int := if t % 2 = 0 then 1 else -1
def xF : Nat → Nat → Int
  | 0, _ => 0
  | t + 1, k => if k = sqA t then sgT t else xF t k
def yF : Nat → Nat → Int
  | 0, _ => 0
  | t + 1, k => if 30 ≤ t ∧ k = sqB t then sgT t * ((2 * (t - 30) + 1 : Nat) : Int) else yF t k
theorem xF_set {t p : Nat} (h : sqA t < p) : ((List.range p).map (xF t)).set (sqA t) (sgT t) = (List.range p).map (xF (t + 1)) :=
  set_range (by rw [xF, if_pos rfl]) (fun m _ hne => by rw [xF, if_neg hne])
theorem xF_keep {t p : Nat} (h : ¬ sqA t < p) : (List.range p).map (xF t) = (List.range p).map (xF (t + 1)) :=
  List.map_congr_left (fun m hm => by have := List.mem_range.1 hm; rw [xF, if_neg (by omega)])
theorem yF_set {t p : Nat} (h0 : 30 ≤ t) (h : sqB t < p) : ((List.range p).map (yF t)).set (sqB t) (sgT t * ((2 * (t - 30) + 1 : Nat) : Int)) = (List.range p).map (yF (t + 1)) :=
  set_range (by rw [yF, if_pos ⟨h0, rfl⟩]) (fun m _ hne => by rw [yF, if_neg (fun e => hne e.2)])
theorem yF_keep {t p : Nat} (h : ¬ (30 ≤ t ∧ sqB t < p)) : (List.range p).map (yF t) = (List.range p).map (yF (t + 1)) :=
  List.map_congr_left (fun m hm => by have := List.mem_range.1 hm; rw [yF, if_neg (fun e => h ⟨e.1, by omega⟩)])
/-! The check. -/
def dotI : List Int → List Int → Int
  | a :: l, b :: m => a * b + dotI l m
  | _, _ => 0
def chkA (S : List Int) : List Int → List Int → Nat → Bool
  | _, [], _ => true
  | rev, u :: rest, n => decide ((n : Int) * u = -(dotI S rev)) && chkA S (u :: rev) rest (n + 1)
theorem dotI_psum : ∀ (S R : List Int), R.length ≤ S.length → dotI S R = psum (fun i => S.getD i 0 * R.getD i 0) R.length
  | [], [], _ => rfl
  | _ :: _, [], _ => by simp [dotI, psum]
  | [], _ :: _, h => by simp at h
  | a :: S, b :: R, h => by
    rw [dotI, dotI_psum S R (by simpa using h), List.length_cons]
    have shift : ∀ (f : Nat → Int) k, psum f (k + 1) = f 0 + psum (fun j => f (j + 1)) k := by
      intro f k
      induction k with
      | zero => simp [psum]
      | succ k ih => rw [psum, ih, psum, Int.add_assoc]
    rw [shift]
    rfl
theorem chkA_ok (S U : List Int) : ∀ (rest rev : List Int) (n : Nat), U = rev.reverse ++ rest → rev.length = n → U.length ≤ S.length + 1 → chkA S rev rest n = true →
    ∀ m, n ≤ m → m < U.length → (m : Int) * U.getD m 0 = -(psum (fun i => S.getD i 0 * U.getD (m - 1 - i) 0) m)
  | [], rev, n, hU, hr, _, _, m, h1, h2 => by
    subst hU
    simp at h2
    omega
  | u :: rest, rev, n, hU, hr, hS, hc, m, h1, h2 => by
    rw [chkA, Bool.and_eq_true] at hc
    have hlen : U.length = n + (rest.length + 1) := by rw [hU]; simp [hr]
    rcases Nat.lt_or_ge n m with h3 | h3
    · exact chkA_ok S U rest (u :: rev) (n + 1) (by rw [hU]; simp) (by simp [hr]) hS hc.2 m (by omega) h2
    · obtain rfl : m = n := by omega
      have hd := of_decide_eq_true hc.1
      have e1 : U.getD m 0 = u := by
        rw [hU, ← hr]
        simp [List.getD]
      rw [e1, hd, dotI_psum S rev (by omega), hr]
      congr 1
      refine psum_congr (fun i hi => ?_)
      congr 1
      rw [hU]
      have : m - 1 - i < rev.reverse.length := by simp; omega
      simp only [List.getD, List.getElem?_append_left this]
      rw [List.getElem?_reverse (by omega), hr]
      congr 2
      omega
def fI {α : Type} : List Int → (List Int → α) → α
  | [], k => k []
  | .ofNat 0 :: l, k => fI l fun l => k (.ofNat 0 :: l)
  | .ofNat (m + 1) :: l, k => fI l fun l => k (.ofNat (m + 1) :: l)
  | .negSucc 0 :: l, k => fI l fun l => k (.negSucc 0 :: l)
  | .negSucc (m + 1) :: l, k => fI l fun l => k (.negSucc (m + 1) :: l)
theorem fI_eq {α : Type} : ∀ (l : List Int) (k : List Int → α), fI l k = k l
  | [], k => rfl
  | .ofNat 0 :: l, k => by rw [fI]; exact fI_eq l _
  | .ofNat (m + 1) :: l, k => by rw [fI]; exact fI_eq l _
  | .negSucc 0 :: l, k => by rw [fI]; exact fI_eq l _
  | .negSucc (m + 1) :: l, k => by rw [fI]; exact fI_eq l _
/-- The sum of k d over the divisors d of n that m divides. -/
def sN (m k n : Nat) : Nat → Nat
  | 0 => 0
  | j + 1 => sN m k n j + bif Nat.beq (n % (j + 1)) 0 && Nat.beq ((j + 1) % m) 0 then (j + 1) * k else 0
def sL (m k : Nat) : List Int := (List.range 498).map fun i => ((sN m k (i + 1) (i + 1) : Nat) : Int)
def uL (f : Nat → Int) : List Int := (List.range 499).map fun i => f (i + 1)
def chkU (m k : Nat) (f : Nat → Int) : Bool := fI (sL m k) fun S => fI (uL f) fun U => (U.all fun u => decide (-100 ≤ u) && decide (u ≤ 100)) && match U with
  | [] => false
  | u :: rest => decide (u = 1) && chkA S [u] rest 1
theorem chkU_x : chkU 24 1 (xF 61) = true := by decide +kernel
theorem chkU_y : chkU 8 3 (yF 61) = true := by decide +kernel
end Go.Num
