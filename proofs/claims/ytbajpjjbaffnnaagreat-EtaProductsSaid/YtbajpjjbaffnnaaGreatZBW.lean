/- Contracts of functions of the program, and what proves them (texts: NumW2). -/
import Derived.Test.YtbajpjjbaffnnaaGreatZBV
set_option linter.all false
namespace Go.Num
theorem psum_one {f g : Nat → Int} {p : Nat} : ∀ {n : Nat},p < n → (∀ j,j < n → j ≠ p → f j = g j) → psum f n = psum g n + (f p - g p)
 | 0,hp,_ => absurd hp (Nat.not_lt_zero _)
 | n + 1,hp,h => by
   rw [psum,psum]
   by_cases hpn : p = n
   · subst hpn
     rw [psum_congr (f := f) (g := g) (fun k hk => h k (by omega) (by omega))]
     omega
   · have ih := psum_one (f := f) (g := g) (p := p) (n := n) (by omega) (fun j hj hne => h j (by omega) hne)
     have e := h n (by omega) (fun e => hpn e.symm)
     omega
theorem psum_zero {f : Nat → Int} : ∀ {n : Nat},(∀ j,j < n → f j = 0) → psum f n = 0
 | 0,_ => rfl
 | n + 1,h => by rw [psum,psum_zero (n := n) (fun j hj => h j (by omega)),h n (by omega)];rfl
theorem atk_none {E xs : List Int} {t l : Int} : ∀ {k : Nat},(∀ i,i < k → E.getD i 0 * t ≠ l) → atk E xs t l k = 0
 | 0,_ => rfl
 | k + 1,h => by rw [atk,if_neg (h k (by omega)),atk_none (k := k) (fun i hi => h i (by omega))]
theorem mdL_sum {D E xs : List Int} {t : Int} (F : Int → Int) (hnd : ∀ i j, i < j → j < D.length → D.getD i 0 ≠ D.getD j 0) (hE : ∀ i j, i < j → j < E.length → E.getD i 0 * t ≠ E.getD j 0 * t)
  (hp : ∀ i,i < E.length → ∃ p,p < D.length ∧ D.getD p 0 = E.getD i 0 * t) : psum (fun j => F (D.getD j 0) * (mdL D E xs t).getD j 0) D.length = psum (fun i => F (E.getD i 0 * t) * xs.getD i 0) E.length := by
 have key : ∀ k,k ≤ E.length → psum (fun j => F (D.getD j 0) * atk E xs t (D.getD j 0) k) D.length = psum (fun i => F (E.getD i 0 * t) * xs.getD i 0) k := by
  intro k
  induction k with
  | zero => intro _;exact psum_zero (fun j _ => by simp [atk])
  | succ k ih =>
    intro hk
    obtain ⟨p,p1,p2⟩ := hp k (by omega)
    have h1 := psum_one (f := fun j => F (D.getD j 0) * atk E xs t (D.getD j 0) (k + 1)) (g := fun j => F (D.getD j 0) * atk E xs t (D.getD j 0) k) p1 (fun j hj hne => by
      have : E.getD k 0 * t ≠ D.getD j 0 := by
        rw [← p2]
        rcases Nat.lt_or_gt_of_ne hne with h | h
        · exact fun e => hnd j p h p1 e.symm
        · exact hnd p j h hj
      simp only [atk,if_neg this])
    have h2 : atk E xs t (D.getD p 0) k = 0 := atk_none (fun i hi => by rw [p2];exact hE i k hi (by omega))
    have h3 : atk E xs t (D.getD p 0) (k + 1) = xs.getD k 0 := by rw [atk,if_pos p2.symm]
    rw [h1,ih (by omega),psum]
    rw [h2,h3,p2,Int.mul_zero,Int.sub_zero]
 rw [← key _ (Nat.le_refl _)]
 exact psum_congr (fun j hj => by rw [mdL_get E xs t hj])
theorem raise_sum {n m : Nat} {xs : List Int} (hx : EtaOk n xs) (m1 : 1 ≤ m) (hm : m % n = 0) (F : Int → Int) : psum (fun j => F ((divL m).getD j 0) * (mdL (divL m) (divL n) xs 1).getD j 0) (divN m).length = psum (fun i => F ((divL n).getD i 0) * xs.getD i 0) xs.length := by
 have h := mdL_sum (D := divL m) (E := divL n) (xs := xs) (t := 1) F (fun i j h hj => divL_apart h (by rw [divL_length] at hj;exact hj)) (fun i j h hj => by
  rw [Int.mul_one,Int.mul_one]
  exact divL_apart h (by rw [divL_length] at hj;exact hj)) (fun i hi => by
  rw [divL_length] at hi ⊢
  exact div_place (t := 1) m1 (by rw [Nat.mul_one];exact hm) hi)
 rw [divL_length,divL_length] at h
 rw [h,hx.len]
 exact psum_congr (fun i _ => by rw [Int.mul_one])
theorem raise_s0 {n m : Nat} {xs : List Int} (hx : EtaOk n xs) (m1 : 1 ≤ m) (hm : m % n = 0) : psum (exS (mdL (divL m) (divL n) xs 1)) (divN m).length = psum (exS xs) xs.length := by
 have h := raise_sum hx m1 hm (fun _ => 1)
 simp only [Int.one_mul] at h
 exact h
theorem raise_s1 {n m : Nat} {xs : List Int} (hx : EtaOk n xs) (m1 : 1 ≤ m) (hm : m % n = 0) : psum (exL m (mdL (divL m) (divL n) xs 1)) (divN m).length = psum (exL n xs) xs.length := raise_sum hx m1 hm id
end Go.Num