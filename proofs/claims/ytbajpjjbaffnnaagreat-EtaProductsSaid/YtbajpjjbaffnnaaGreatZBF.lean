/- Contracts of functions of the program, and what proves them (texts: NumV). -/
import Derived.Test.YtbajpjjbaffnnaaGreatZAM
import Derived.Test.YtbajpjjbaffnnaaGreatZAS
import Derived.Test.YtbajpjjbaffnnaaGreatZBE
set_option linter.all false
namespace Go.Num
def wA (n c d : Nat) : Nat := Nat.gcd c d * Nat.gcd c d * (n / (Nat.gcd c (n / c) * c)) * (n / d)
theorem hc_dvd {n c : Nat} (hc : n % c = 0) : Nat.gcd c (n / c) * c ∣ n := by
 have e : n = n / c * c := (Nat.div_mul_cancel (Nat.dvd_of_mod_eq_zero hc)).symm
 have h : Nat.gcd c (n / c) * c ∣ n / c * c := Nat.mul_dvd_mul_right (Nat.gcd_dvd_right c (n / c)) c
 rwa [← e] at h
theorem intQ_div (x y : Int) : ((x : Rat)) / (y : Rat) = Rat.divInt x y := by
 rw [div_divInt]
 simp
theorem part_eq {n c d : Nat} (hn : 1 ≤ n) (hc : n % c = 0) (hd : n % d = 0) (c0 : 1 ≤ c) (d0 : 1 ≤ d) :
  (((Nat.gcd c d * Nat.gcd c d * n : Nat) : Int) : Rat) / (((24 * Nat.gcd c (n / c) * c * d : Nat) : Int) : Rat) = Rat.divInt ((wA n c d : Nat) : Int) ((24 * n : Nat) : Int) := by
 have hpos : 0 < Nat.gcd c (n / c) := Nat.gcd_pos_of_pos_left _ c0
 have h1 := Nat.div_mul_cancel (hc_dvd hc)
 have h2 := Nat.div_mul_cancel (Nat.dvd_of_mod_eq_zero hd)
 have p1 : 0 < 24 * Nat.gcd c (n / c) * c * d := Nat.mul_pos (Nat.mul_pos (Nat.mul_pos (by omega) hpos) c0) d0
 rw [intQ_div,Rat.divInt_eq_divInt_iff (by omega) (by omega),← Int.natCast_mul,← Int.natCast_mul]
 congr 1
 unfold wA
 generalize Nat.gcd c (n / c) = h at *
 generalize Nat.gcd c d = g at *
 generalize hu : n / (h * c) = u at *
 generalize hv : n / d = v at *
 have e : g * g * u * v * (24 * h * c * d) = g * g * 24 * ((u * (h * c)) * (v * d)) := by
  simp only [Nat.mul_assoc,Nat.mul_left_comm,Nat.mul_comm]
 rw [e,h1,h2]
 simp only [Nat.mul_assoc,Nat.mul_left_comm,Nat.mul_comm]
theorem gcd_le {c d : Nat} (c0 : 1 ≤ c) : Nat.gcd c d ≤ c := Nat.le_of_dvd c0 (Nat.gcd_dvd_left c d)
theorem wA_bd {n c d : Nat} (hn : n ≤ 600) (c0 : 1 ≤ c) (hc : c ≤ 600) : wA n c d ≤ 129600000000 := by
 unfold wA
 have h1 := gcd_le (d := d) c0
 have h2 : n / (Nat.gcd c (n / c) * c) ≤ 600 := Nat.le_trans (Nat.div_le_self _ _) hn
 have h3 : n / d ≤ 600 := Nat.le_trans (Nat.div_le_self _ _) hn
 exact Nat.mul_le_mul (Nat.mul_le_mul (Nat.mul_le_mul (Nat.le_trans h1 hc) (Nat.le_trans h1 hc)) h2) h3
def oA (n c : Nat) (xs : List Int) (k : Nat) : Int := ((wA n c ((divN n).getD k 0) : Nat) : Int) * xs.getD k 0
theorem oA_bd {n c : Nat} {xs : List Int} (h : EtaOk n xs) (c0 : 1 ≤ c) (hc : c ≤ 600) (k : Nat) : -25920000000000 ≤ oA n c xs k ∧ oA n c xs k ≤ 25920000000000 := by
 have h1 := wA_bd (d := (divN n).getD k 0) h.n2 c0 hc
 exact mul_bd (A := 129600000000) (B := 200) (by omega) (h.get k)
theorem oS_bd {n c : Nat} {xs : List Int} (h : EtaOk n xs) (c0 : 1 ≤ c) (hc : c ≤ 600) {k : Nat} (hk : k ≤ xs.length) : -622080000000000 ≤ psum (oA n c xs) k ∧ psum (oA n c xs) k ≤ 622080000000000 := by
 have h1 := psum_bound (f := oA n c xs) (B := 25920000000000) (n := xs.length) (fun k _ => oA_bd h c0 hc k) k hk
 have h2 := h.len_le
 omega
def ordQ (n : Nat) (xs : List Int) (c k : Nat) : Rat := Rat.divInt (psum (oA n c xs) k) ((24 * n : Nat) : Int)
theorem ordQ_zero (n : Nat) (xs : List Int) (c : Nat) : ordQ n xs c 0 = 0 := by unfold ordQ psum;exact Rat.zero_divInt _
theorem ordQ_succ {n : Nat} (xs : List Int) (c k : Nat) : ordQ n xs c (k + 1) = ordQ n xs c k + Rat.divInt ((wA n c ((divN n).getD k 0) : Nat) : Int) ((24 * n : Nat) : Int) * ((xs.getD k 0 : Int) : Rat) := by
 unfold ordQ
 rw [psum,oA,Int.mul_comm,divInt_lin,Rat.mul_comm]
theorem lq_over {a : Int} {n : Nat} (hn : 1 ≤ n) (hn2 : n ≤ 600) (ha : -9223372036854775808 ≤ a ∧ a ≤ 9223372036854775808) : lq (Rat.divInt a ((24 * n : Nat) : Int)) ≤ 3 := by
 obtain ⟨h1,h2⟩ := lq_divInt (n := a) (d := ((24 * n : Nat) : Int)) (by omega)
 have h3 : len a ≤ 2 := len_pow_lt (e := 2) (by omega)
 have h4 : len ((24 * n : Nat) : Int) ≤ 1 := len_pow_lt (e := 1) (by omega)
 unfold lq
 omega
theorem lq_ord {n : Nat} {xs : List Int} (h : EtaOk n xs) {c : Nat} (c0 : 1 ≤ c) (hc : c ≤ 600) {k : Nat} (hk : k ≤ xs.length) : lq (ordQ n xs c k) ≤ 3 := by
 have := oS_bd h c0 hc hk
 exact lq_over h.n1 h.n2 (by omega)
/-! The valence. -/
def phiN (n : Nat) : Nat := (prs n).foldl (fun m p => m / p * (p - 1)) n
def cusps (n c : Nat) : Nat := phiN (Nat.gcd c (n / c))
theorem psum_add (f g : Nat → Int) : ∀ k,psum (fun j => f j + g j) k = psum f k + psum g k
 | 0 => rfl
 | k + 1 => by rw [psum,psum_add f g k,psum,psum];omega
theorem psum_mul (c : Int) (f : Nat → Int) : ∀ k,psum (fun j => c * f j) k = c * psum f k
 | 0 => by simp [psum]
 | k + 1 => by rw [psum,psum_mul c f k,psum,Int.mul_add]
end Go.Num