/- Contracts of functions of the program, and what proves them (texts: NumV). -/
import Derived.Test.YtbajpjjbaffnnaaGreatZAM
import Derived.Test.YtbajpjjbaffnnaaGreatZAS
import Derived.Test.YtbajpjjbaffnnaaGreatZBF
set_option linter.all false
namespace Go.Num
/-- The order of eta(d z) at the cusps with denominator c, times 24 N. -/
def wA (n c d : Nat) : Nat := Nat.gcd c d * Nat.gcd c d * (n / (Nat.gcd c (n / c) * c)) * (n / d)
theorem hc_dvd {n c : Nat} (hc : n % c = 0) : Nat.gcd c (n / c) * c ∣ n := by
  have e : n = n / c * c := (Nat.div_mul_cancel (Nat.dvd_of_mod_eq_zero hc)).symm
  have h : Nat.gcd c (n / c) * c ∣ n / c * c := Nat.mul_dvd_mul_right (Nat.gcd_dvd_right c (n / c)) c
  rwa [← e] at h
theorem intQ_div (x y : Int) : ((x : Rat)) / (y : Rat) = Rat.divInt x y := by
  rw [div_divInt]
  simp
theorem part_eq {n c d : Nat} (hn : 1 ≤ n) (hc : n % c = 0) (hd : n % d = 0) (c0 : 1 ≤ c) (d0 : 1 ≤ d) :
    (((Nat.gcd c d * Nat.gcd c d * n : Nat) : Int) : Rat) / (((24 * Nat.gcd c (n / c) * c * d : Nat) : Int) : Rat) = Rat.divInt ((wA n c d : Nat) : Int) ((24 * n : Nat) : Int) := by
  have hpos : 0 < Nat.gcd c (n / c) := Nat.gcd_pos_of_pos_left _ c0
  have h1 := Nat.div_mul_cancel (hc_dvd hc)
  have h2 := Nat.div_mul_cancel (Nat.dvd_of_mod_eq_zero hd)
  have p1 : 0 < 24 * Nat.gcd c (n / c) * c * d := Nat.mul_pos (Nat.mul_pos (Nat.mul_pos (by omega) hpos) c0) d0
  rw [intQ_div, Rat.divInt_eq_divInt_iff (by omega) (by omega), ← Int.natCast_mul, ← Int.natCast_mul]
  congr 1
  unfold wA
  generalize Nat.gcd c (n / c) = h at *
  generalize Nat.gcd c d = g at *
  generalize hu : n / (h * c) = u at *
  generalize hv : n / d = v at *
  have e : g * g * u * v * (24 * h * c * d) = g * g * 24 * ((u * (h * c)) * (v * d)) := by
    simp only [Nat.mul_assoc, Nat.mul_left_comm, Nat.mul_comm]
  rw [e, h1, h2]
  simp only [Nat.mul_assoc, Nat.mul_left_comm, Nat.mul_comm]
theorem gcd_le {c d : Nat} (c0 : 1 ≤ c) : Nat.gcd c d ≤ c := Nat.le_of_dvd c0 (Nat.gcd_dvd_left c d)
theorem wA_bd {n c d : Nat} (hn : n ≤ 600) (c0 : 1 ≤ c) (hc : c ≤ 600) : wA n c d ≤ 129600000000 := by
  unfold wA
  have h1 := gcd_le (d := d) c0
  have h2 : n / (Nat.gcd c (n / c) * c) ≤ 600 := Nat.le_trans (Nat.div_le_self _ _) hn
  have h3 : n / d ≤ 600 := Nat.le_trans (Nat.div_le_self _ _) hn
  exact Nat.mul_le_mul (Nat.mul_le_mul (Nat.mul_le_mul (Nat.le_trans h1 hc) (Nat.le_trans h1 hc)) h2) h3
def oA (n c : Nat) (xs : List Int) (k : Nat) : Int := ((wA n c ((divN n).getD k 0) : Nat) : Int) * xs.getD k 0
theorem oA_bd {n c : Nat} {xs : List Int} (h : EtaOk n xs) (c0 : 1 ≤ c) (hc : c ≤ 600) (k : Nat) : -25920000000000 ≤ oA n c xs k ∧ oA n c xs k ≤ 25920000000000 := by
  have h1 := wA_bd (d := (divN n).getD k 0) h.n2 c0 hc
  exact mul_bd (A := 129600000000) (B := 200) (by omega) (h.get k)
theorem oS_bd {n c : Nat} {xs : List Int} (h : EtaOk n xs) (c0 : 1 ≤ c) (hc : c ≤ 600) {k : Nat} (hk : k ≤ xs.length) : -622080000000000 ≤ psum (oA n c xs) k ∧ psum (oA n c xs) k ≤ 622080000000000 := by
  have h1 := psum_bound (f := oA n c xs) (B := 25920000000000) (n := xs.length) (fun k _ => oA_bd h c0 hc k) k hk
  have h2 := h.len_le
  omega
/-- The order, as far as the first k divisors give it. -/
def ordQ (n : Nat) (xs : List Int) (c k : Nat) : Rat := Rat.divInt (psum (oA n c xs) k) ((24 * n : Nat) : Int)
theorem ordQ_zero (n : Nat) (xs : List Int) (c : Nat) : ordQ n xs c 0 = 0 := by unfold ordQ psum; exact Rat.zero_divInt _
theorem ordQ_succ {n : Nat} (xs : List Int) (c k : Nat) : ordQ n xs c (k + 1) = ordQ n xs c k + Rat.divInt ((wA n c ((divN n).getD k 0) : Nat) : Int) ((24 * n : Nat) : Int) * ((xs.getD k 0 : Int) : Rat) := by
  unfold ordQ
  rw [psum, oA, Int.mul_comm, divInt_lin, Rat.mul_comm]
theorem lq_over {a : Int} {n : Nat} (hn : 1 ≤ n) (hn2 : n ≤ 600) (ha : -9223372036854775808 ≤ a ∧ a ≤ 9223372036854775808) : lq (Rat.divInt a ((24 * n : Nat) : Int)) ≤ 3 := by
  obtain ⟨h1, h2⟩ := lq_divInt (n := a) (d := ((24 * n : Nat) : Int)) (by omega)
  have h3 : len a ≤ 2 := len_pow_lt (e := 2) (by omega)
  have h4 : len ((24 * n : Nat) : Int) ≤ 1 := len_pow_lt (e := 1) (by omega)
  unfold lq
  omega
theorem lq_ord {n : Nat} {xs : List Int} (h : EtaOk n xs) {c : Nat} (c0 : 1 ≤ c) (hc : c ≤ 600) {k : Nat} (hk : k ≤ xs.length) : lq (ordQ n xs c k) ≤ 3 := by
  have := oS_bd h c0 hc hk
  exact lq_over h.n1 h.n2 (by omega)
/-! The valence. -/
def phiN (n : Nat) : Nat := (prs n).foldl (fun m p => m / p * (p - 1)) n
def psiN (n : Nat) : Nat := (prs n).foldl (fun m p => m / p * (p + 1)) n
def cusps (n c : Nat) : Nat := phiN (Nat.gcd c (n / c))
def fNl {α : Type} : List Nat → (List Nat → α) → α
  | [], k => k []
  | a :: l, k => match a with
    | 0 => fNl l fun l => k (0 :: l)
    | m + 1 => fNl l fun l => k ((m + 1) :: l)
theorem fNl_eq {α : Type} : ∀ (l : List Nat) (k : List Nat → α), fNl l k = k l
  | [], k => rfl
  | 0 :: l, k => by rw [fNl]; exact fNl_eq l _
  | (m + 1) :: l, k => by rw [fNl]; exact fNl_eq l _
def sumN (F : Nat → Nat) (l : List Nat) : Nat := l.foldr (fun c a => F c + a) 0
def chkV (n : Nat) : Bool := fNl (divN n) fun l => fNl (l.map (cusps n)) fun f => fNl [psiN n] fun p => Nat.ble (p.getD 0 0) 3000 && (f.all fun x => Nat.ble x 24) && l.all fun d => Nat.beq ((List.zip l f).foldr (fun c a => c.2 * wA n c.1 d + a) 0) (p.getD 0 0 * n)
theorem zip_sum (F G : Nat → Nat) : ∀ l : List Nat, (List.zip l (l.map F)).foldr (fun c a => c.2 * G c.1 + a) 0 = sumN (fun c => F c * G c) l
  | [] => rfl
  | c :: l => by simp only [List.map_cons, List.zip_cons_cons, List.foldr_cons, zip_sum F G l, sumN]
theorem chkV_all : ((List.range 600).all fun n => chkV (n + 1)) = true := by decide +kernel
theorem val_row {n : Nat} (h1 : 1 ≤ n) (h2 : n ≤ 600) : psiN n ≤ 3000 ∧ (∀ c ∈ divN n, cusps n c ≤ 24) ∧ ∀ d ∈ divN n, sumN (fun c => cusps n c * wA n c d) (divN n) = psiN n * n := by
  have h := List.all_eq_true.1 chkV_all (n - 1) (List.mem_range.2 (by omega))
  rw [show n - 1 + 1 = n by omega] at h
  unfold chkV at h
  rw [fNl_eq, fNl_eq, fNl_eq, Bool.and_eq_true, Bool.and_eq_true] at h
  obtain ⟨⟨ha, hb⟩, hc⟩ := h
  refine ⟨by simpa using ha, fun c hc' => ?_, fun d hd => ?_⟩
  · have := List.all_eq_true.1 hb (cusps n c) (List.mem_map_of_mem hc')
    exact Nat.le_of_ble_eq_true this
  · have := Nat.eq_of_beq_eq_true (List.all_eq_true.1 hc d hd)
    rw [zip_sum (cusps n) (fun c => wA n c d)] at this
    simpa using this
theorem psum_shift (f : Nat → Int) : ∀ k, psum f (k + 1) = f 0 + psum (fun j => f (j + 1)) k
  | 0 => by simp [psum]
  | k + 1 => by rw [psum, psum_shift f k, psum, Int.add_assoc]
theorem psum_sumN (F : Nat → Nat) : ∀ l : List Nat, psum (fun j => ((F (l.getD j 0) : Nat) : Int)) l.length = ((sumN F l : Nat) : Int)
  | [] => rfl
  | c :: l => by
    rw [List.length_cons, psum_shift]
    have := psum_sumN F l
    simp only [List.getD_cons_zero, List.getD_cons_succ]
    rw [this, ← Int.natCast_add]
    rfl
theorem psum_add (f g : Nat → Int) : ∀ k, psum (fun j => f j + g j) k = psum f k + psum g k
  | 0 => rfl
  | k + 1 => by rw [psum, psum_add f g k, psum, psum]; omega
theorem psum_mul (c : Int) (f : Nat → Int) : ∀ k, psum (fun j => c * f j) k = c * psum f k
  | 0 => by simp [psum]
  | k + 1 => by rw [psum, psum_mul c f k, psum, Int.mul_add]
theorem psum_swap (f : Nat → Nat → Int) (m : Nat) : ∀ k, psum (fun j => psum (fun i => f j i) m) k = psum (fun i => psum (fun j => f j i) k) m
  | 0 => by
    simp only [psum]
    clear f
    induction m with
    | zero => rfl
    | succ m ih => rw [psum, ← ih]; rfl
  | k + 1 => by
    rw [psum, psum_swap f m k, ← psum_add]
    rfl
def vA (n : Nat) (xs : List Int) (j : Nat) : Int := ((cusps n ((divN n).getD j 0) : Nat) : Int) * psum (oA n ((divN n).getD j 0) xs) xs.length
theorem val_sum {n : Nat} {xs : List Int} (h : EtaOk n xs) : psum (vA n xs) xs.length = ((psiN n : Nat) : Int) * (n : Int) * psum (exS xs) xs.length := by
  have hl := h.len
  obtain ⟨_, _, hrow⟩ := val_row h.n1 h.n2
  have e1 : ∀ j, vA n xs j = psum (fun k => (((cusps n ((divN n).getD j 0) * wA n ((divN n).getD j 0) ((divN n).getD k 0) : Nat) : Int)) * xs.getD k 0) xs.length := by
    intro j
    rw [vA, ← psum_mul]
    refine psum_congr (fun k _ => ?_)
    rw [oA, Int.natCast_mul, Int.mul_assoc]
  rw [psum_congr (n := xs.length) (fun j _ => e1 j), psum_swap, ← psum_mul]
  refine psum_congr (fun k hk => ?_)
  have e2 : psum (fun j => (((cusps n ((divN n).getD j 0) * wA n ((divN n).getD j 0) ((divN n).getD k 0) : Nat) : Int)) * xs.getD k 0) xs.length = xs.getD k 0 * psum (fun j => ((cusps n ((divN n).getD j 0) * wA n ((divN n).getD j 0) ((divN n).getD k 0) : Nat) : Int)) xs.length := by
    rw [← psum_mul]
    exact psum_congr (fun j _ => Int.mul_comm ..)
  have hm : (divN n).getD k 0 ∈ divN n := by
    have hk2 : k < (divN n).length := by omega
    have : (divN n).getD k 0 = (divN n)[k] := by simp [hk2]
    rw [this]; exact List.getElem_mem hk2
  rw [e2, hl, psum_sumN (fun c => cusps n c * wA n c ((divN n).getD k 0)) (divN n), hrow _ hm, exS, Int.natCast_mul, Int.mul_comm]
theorem vS_bd {n : Nat} {xs : List Int} (h : EtaOk n xs) {k : Nat} (hk : k ≤ xs.length) : -358318080000000000 ≤ psum (vA n xs) k ∧ psum (vA n xs) k ≤ 358318080000000000 := by
  obtain ⟨_, hcu, _⟩ := val_row h.n1 h.n2
  have h1 := psum_bound (f := vA n xs) (B := 14929920000000000) (n := xs.length) (fun j hj => by
    obtain ⟨d, _, d1, d2, d3, d4⟩ := divL_get (n := n) (k := j) (h.len ▸ hj)
    have hm : (divN n).getD j 0 ∈ divN n := by
      have hk2 : j < (divN n).length := h.len ▸ hj
      have : (divN n).getD j 0 = (divN n)[j] := by simp [hk2]
      rw [this]; exact List.getElem_mem hk2
    have := hcu _ hm
    have h3 := oS_bd h (c := (divN n).getD j 0) (by omega) (by have := h.n2; omega) (Nat.le_refl _)
    exact mul_bd (A := 24) (B := 622080000000000) (by omega) h3) k hk
  have h2 := h.len_le
  omega
/-- The sum of the orders, as far as the first k cusps go. -/
def valQ (n : Nat) (xs : List Int) (k : Nat) : Rat := Rat.divInt (psum (vA n xs) k) ((24 * n : Nat) : Int)
theorem valQ_zero (n : Nat) (xs : List Int) : valQ n xs 0 = 0 := by unfold valQ psum; exact Rat.zero_divInt _
theorem valQ_succ (n : Nat) (xs : List Int) (k : Nat) : valQ n xs (k + 1) = valQ n xs k + (((cusps n ((divN n).getD k 0) : Nat) : Int) : Rat) * ordQ n xs ((divN n).getD k 0) xs.length := by
  unfold valQ ordQ
  rw [psum, vA, divInt_lin]
theorem lq_val {n : Nat} {xs : List Int} (h : EtaOk n xs) {k : Nat} (hk : k ≤ xs.length) : lq (valQ n xs k) ≤ 3 := by
  have := vS_bd h hk
  exact lq_over h.n1 h.n2 (by omega)
theorem valQ_last {n : Nat} {xs : List Int} (h : EtaOk n xs) : valQ n xs xs.length = Rat.divInt (((psiN n : Nat) : Int) * psum (exS xs) xs.length) 24 := by
  have hn := h.n1
  unfold valQ
  rw [val_sum h, show ((24 * n : Nat) : Int) = (n : Int) * 24 by omega, show ((psiN n : Nat) : Int) * (n : Int) * psum (exS xs) xs.length = (n : Int) * (((psiN n : Nat) : Int) * psum (exS xs) xs.length) by
    rw [Int.mul_comm ((psiN n : Nat) : Int), Int.mul_assoc], divInt_scale (by omega)]
end Go.Num
