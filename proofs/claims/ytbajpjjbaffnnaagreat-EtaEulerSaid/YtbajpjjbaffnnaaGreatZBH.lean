/- Contracts of functions of the program, and what proves them (texts: NumO F2). -/
import Derived.Test.YtbajpjjbaffnnaaGreatZAM
import Derived.Test.YtbajpjjbaffnnaaGreatZBG
set_option linter.all false
namespace Go.Num
/-- g^2/d over the level. -/
def uA (n c d : Nat) : Nat := Nat.gcd c d * Nat.gcd c d * (n / d)
theorem upart_eq {n c d : Nat} (hn : 1 ≤ n) (hd : n % d = 0) (d0 : 1 ≤ d) :
    Rat.divInt ((Nat.gcd c d * Nat.gcd c d : Nat) : Int) (d : Int) = Rat.divInt ((uA n c d : Nat) : Int) (n : Int) := by
  have h2 := Nat.div_mul_cancel (Nat.dvd_of_mod_eq_zero hd)
  rw [Rat.divInt_eq_divInt_iff (by omega) (by omega), ← Int.natCast_mul, ← Int.natCast_mul]
  congr 1
  unfold uA
  generalize hv : n / d = v at *
  rw [Nat.mul_assoc _ v d, h2]
theorem wA_uA (n c d : Nat) : wA n c d = (n / (Nat.gcd c (n / c) * c)) * uA n c d := by
  unfold wA uA
  rw [Nat.mul_comm (Nat.gcd c d * Nat.gcd c d) (n / (Nat.gcd c (n / c) * c)), Nat.mul_assoc]
def rA (n c : Nat) (xs : List Int) (k : Nat) : Int := ((uA n c ((divN n).getD k 0) : Nat) : Int) * xs.getD k 0
theorem uA_bd {n c d : Nat} (hn : n ≤ 600) (c0 : 1 ≤ c) (hc : c ≤ 600) : uA n c d ≤ 216000000 := by
  unfold uA
  have h1 := gcd_le (d := d) c0
  have h3 : n / d ≤ 600 := Nat.le_trans (Nat.div_le_self _ _) hn
  exact Nat.mul_le_mul (Nat.mul_le_mul (Nat.le_trans h1 hc) (Nat.le_trans h1 hc)) h3
theorem rS_bd {n c : Nat} {xs : List Int} (h : EtaOk n xs) (c0 : 1 ≤ c) (hc : c ≤ 600) {k : Nat} (hk : k ≤ xs.length) : -1036800000000 ≤ psum (rA n c xs) k ∧ psum (rA n c xs) k ≤ 1036800000000 := by
  have h1 := psum_bound (f := rA n c xs) (B := 43200000000) (n := xs.length) (fun k _ => by
    have h1 := uA_bd (d := (divN n).getD k 0) h.n2 c0 hc
    exact mul_bd (A := 216000000) (B := 200) (by omega) (h.get k)) k hk
  have h2 := h.len_le
  omega
/-- The document's sum, as far as the first k divisors go. -/
def rordQ (n : Nat) (xs : List Int) (c k : Nat) : Rat := Rat.divInt (psum (rA n c xs) k) (n : Int)
theorem rordQ_zero (n : Nat) (xs : List Int) (c : Nat) : rordQ n xs c 0 = 0 := by unfold rordQ psum; exact Rat.zero_divInt _
theorem rordQ_succ {n : Nat} (xs : List Int) (c k : Nat) : rordQ n xs c (k + 1) = rordQ n xs c k + Rat.divInt ((uA n c ((divN n).getD k 0) : Nat) : Int) (n : Int) * ((xs.getD k 0 : Int) : Rat) := by
  unfold rordQ
  rw [psum, rA, Int.mul_comm, divInt_lin, Rat.mul_comm]
theorem lq_over1 {a : Int} {n : Nat} (hn : 1 ≤ n) (hn2 : n ≤ 600) (ha : -9223372036854775808 ≤ a ∧ a ≤ 9223372036854775808) : lq (Rat.divInt a (n : Int)) ≤ 3 := by
  obtain ⟨h1, h2⟩ := lq_divInt (n := a) (d := (n : Int)) (by omega)
  have h3 : len a ≤ 2 := len_pow_lt (e := 2) (by omega)
  have h4 : len (n : Int) ≤ 1 := len_pow_lt (e := 1) (by omega)
  unfold lq
  omega
theorem lq_rord {n : Nat} {xs : List Int} (h : EtaOk n xs) {c : Nat} (c0 : 1 ≤ c) (hc : c ≤ 600) {k : Nat} (hk : k ≤ xs.length) : lq (rordQ n xs c k) ≤ 3 := by
  have := rS_bd h c0 hc hk
  exact lq_over1 h.n1 h.n2 (by omega)
theorem rord_last {n : Nat} {xs : List Int} (h : EtaOk n xs) {c : Nat} (c0 : 1 ≤ c) (hc : n % c = 0) :
    rordQ n xs c xs.length * Rat.divInt (n : Int) ((24 * Nat.gcd c (n / c) * c : Nat) : Int) = ordQ n xs c xs.length := by
  have hn := h.n1
  have hpos : 0 < Nat.gcd c (n / c) := Nat.gcd_pos_of_pos_left _ c0
  have p1 : 0 < 24 * Nat.gcd c (n / c) * c := Nat.mul_pos (Nat.mul_pos (by omega) hpos) c0
  have h1 := Nat.div_mul_cancel (hc_dvd hc)
  unfold rordQ ordQ
  have e1 : psum (oA n c xs) xs.length = ((n / (Nat.gcd c (n / c) * c) : Nat) : Int) * psum (rA n c xs) xs.length := by
    rw [← psum_mul]
    refine psum_congr (fun k _ => ?_)
    rw [oA, rA, wA_uA, Int.natCast_mul, Int.mul_assoc]
  rw [e1, Rat.divInt_mul_divInt, Rat.divInt_eq_divInt_iff (Int.mul_ne_zero (by omega) (by omega)) (by omega)]
  generalize psum (rA n c xs) xs.length = S
  generalize Nat.gcd c (n / c) = g at *
  generalize hu : n / (g * c) = u at *
  have e2 : ((24 * n : Nat) : Int) = 24 * (n : Int) := by omega
  have e3 : ((24 * g * c : Nat) : Int) = 24 * ((g * c : Nat) : Int) := by rw [Nat.mul_assoc]; omega
  have e4 : (n : Int) = (u : Int) * ((g * c : Nat) : Int) := by rw [← Int.natCast_mul, h1]
  rw [e2, e3]
  generalize ((g * c : Nat) : Int) = m at *
  generalize (u : Int) = U at *
  generalize (n : Int) = N at *
  subst e4
  simp only [Int.mul_assoc, Int.mul_left_comm, Int.mul_comm]
/-! Signs, ceilings. -/
theorem divInt_sign {a d : Int} (hd : 0 < d) : (Rat.divInt a d).num.sign = a.sign := by
  have hp := divInt_parts (n := a) (d := d) (by omega)
  rw [if_neg (by omega)] at hp
  rw [hp.1]
  have hG : 0 < ((Int.gcd a d : Nat) : Int) := by
    have : Int.gcd a d ≠ 0 := fun e => by have := (Int.gcd_eq_zero_iff.1 e).2; omega
    omega
  have hdv : ((Int.gcd a d : Nat) : Int) ∣ a := Int.gcd_dvd_left ..
  obtain ⟨q, hq⟩ := hdv
  generalize ((Int.gcd a d : Nat) : Int) = g at *
  subst hq
  rw [Int.mul_ediv_cancel_left _ (by omega), Int.sign_mul, Int.sign_eq_one_of_pos hG, Int.one_mul]
theorem divInt_floor {a d : Int} (hd : 0 < d) : (Rat.divInt a d).num / ((Rat.divInt a d).den : Int) = a / d := by
  have hp := divInt_parts (n := a) (d := d) (by omega)
  rw [if_neg (by omega)] at hp
  rw [hp.1, hp.2]
  have hG : 0 < ((Int.gcd a d : Nat) : Int) := by
    have : Int.gcd a d ≠ 0 := fun e => by have := (Int.gcd_eq_zero_iff.1 e).2; omega
    omega
  have hdv : ((Int.gcd a d : Nat) : Int) ∣ a := Int.gcd_dvd_left ..
  have hdw : ((Int.gcd a d : Nat) : Int) ∣ d := Int.gcd_dvd_right ..
  have e0 : (d.natAbs : Int) = d := by omega
  obtain ⟨q, hq⟩ := hdv
  obtain ⟨r, hr⟩ := hdw
  rw [e0]
  generalize ((Int.gcd a d : Nat) : Int) = g at *
  subst hq
  rw [hr, Int.mul_ediv_cancel_left _ (by omega), Int.mul_ediv_cancel_left _ (by omega), Int.mul_ediv_mul_of_pos _ _ hG]
/-- The width of the cusps. -/
def wid (n c : Nat) : Nat := n / Nat.gcd (c * c) n
theorem wid_pos {n c : Nat} (hn : 1 ≤ n) : 1 ≤ wid n c := by
  have hg : 0 < Nat.gcd (c * c) n := Nat.gcd_pos_of_pos_right _ hn
  exact Nat.div_pos (Nat.le_of_dvd hn (Nat.gcd_dvd_right ..)) hg
theorem wid_le (n c : Nat) : wid n c ≤ n := Nat.div_le_self _ _
/-- The power of Delta that a cusp asks for. -/
def ceilD (n : Nat) (xs : List Int) (c : Nat) : Int := -(psum (oA n c xs) xs.length / ((24 * n * wid n c : Nat) : Int))
theorem ceilD_eq {n : Nat} {xs : List Int} (hn : 1 ≤ n) (c : Nat) :
    -(((-(-(ordQ n xs c xs.length) / (((wid n c : Nat) : Int) : Rat))) : Rat).num / (((-(-(ordQ n xs c xs.length) / (((wid n c : Nat) : Int) : Rat))) : Rat).den : Int)) = ceilD n xs c := by
  have hw := wid_pos (c := c) hn
  have e : -(-(ordQ n xs c xs.length) / (((wid n c : Nat) : Int) : Rat)) = Rat.divInt (psum (oA n c xs) xs.length) ((24 * n * wid n c : Nat) : Int) := by
    unfold ordQ
    generalize wid n c = w at *
    rw [Rat.neg_divInt, Rat.div_def, Rat.inv_def, Rat.num_intCast, Rat.den_intCast, Rat.divInt_mul_divInt, Rat.neg_divInt, Int.natCast_mul]
    simp
  have hp : 0 < 24 * n * wid n c := Nat.mul_pos (by omega) hw
  rw [e, divInt_floor (by omega)]
  rfl
theorem ceilD_bd {n : Nat} {xs : List Int} (h : EtaOk n xs) {c : Nat} (c0 : 1 ≤ c) (hc : c ≤ 600) : -622080000000000 ≤ ceilD n xs c ∧ ceilD n xs c ≤ 622080000000000 := by
  have hb := oS_bd h c0 hc (Nat.le_refl _)
  have hp : 0 < 24 * n * wid n c := Nat.mul_pos (by have := h.n1; omega) (wid_pos h.n1)
  unfold ceilD
  generalize 24 * n * wid n c = D at *
  generalize psum (oA n c xs) xs.length = A at *
  have h1 := Int.natAbs_ediv_le_natAbs A (D : Int)
  omega
/-- The order after the multiplication by the m-th power of Delta. -/
def tryQ (n : Nat) (xs : List Int) (c m : Nat) : Rat := ordQ n xs c xs.length + (((m * wid n c : Nat) : Int) : Rat)
theorem tryQ_eq {n : Nat} {xs : List Int} (hn : 1 ≤ n) (c m : Nat) : tryQ n xs c m = Rat.divInt (psum (oA n c xs) xs.length + (m : Int) * ((24 * n * wid n c : Nat) : Int)) ((24 * n : Nat) : Int) := by
  unfold tryQ ordQ
  have e : (((m * wid n c : Nat) : Int) : Rat) = Rat.divInt (((24 * n : Nat) : Int) * ((m * wid n c : Nat) : Int)) (((24 * n : Nat) : Int) * 1) := by
    rw [divInt_scale (by omega)]; have := Rat.num_divInt_den ((((m * wid n c : Nat) : Int)) : Rat); rw [Rat.num_intCast, Rat.den_intCast] at this; exact this.symm
  rw [e, Int.mul_one, Rat.divInt_add_divInt _ _ (by omega) (by omega)]
  rw [← Int.add_mul, Int.mul_comm _ ((24 * n : Nat) : Int), divInt_scale (by omega)]
  congr 2
  rw [← Int.natCast_mul, ← Int.natCast_mul]
  congr 1
  simp only [Nat.mul_left_comm, Nat.mul_comm, Nat.mul_assoc]
theorem tryQ_neg {n : Nat} {xs : List Int} (hn : 1 ≤ n) (c m : Nat) : (tryQ n xs c m).num.sign < 0 ↔ (m : Int) < ceilD n xs c := by
  have hp : 0 < 24 * n * wid n c := Nat.mul_pos (by omega) (wid_pos hn)
  rw [tryQ_eq hn, divInt_sign (by omega)]
  unfold ceilD
  generalize 24 * n * wid n c = D at *
  generalize psum (oA n c xs) xs.length = A at *
  have h1 : A / (D : Int) < -(m : Int) ↔ A < -(m : Int) * (D : Int) := Int.ediv_lt_iff_lt_mul (by omega)
  rw [Int.neg_mul] at h1
  generalize (m : Int) * (D : Int) = t at *
  rw [Int.sign_neg_iff]
  omega
/-- The greatest of the powers that the first k divisors ask for, 0 at least. -/
def poleN (n : Nat) (xs : List Int) : Nat → Nat
  | 0 => 0
  | k + 1 => max (poleN n xs k) (ceilD n xs ((divN n).getD k 0)).toNat
theorem poleN_bd {n : Nat} {xs : List Int} (h : EtaOk n xs) : ∀ k, k ≤ xs.length → poleN n xs k ≤ 622080000000000
  | 0, _ => by unfold poleN; omega
  | k + 1, hk => by
    have h1 := poleN_bd h k (by omega)
    obtain ⟨d, _, d1, d2, _, d4⟩ := divL_get (n := n) (k := k) (h.len ▸ (by omega : k < xs.length))
    have h2 := ceilD_bd h (c := (divN n).getD k 0) (by omega) (by have := h.n2; omega)
    unfold poleN
    omega
/-- Whether the signs of the first orders are at least so. -/
def sgnO (n : Nat) (xs : List Int) (k : Nat) : Int := (psum (oA n ((divN n).getD k 0) xs) xs.length).sign
theorem ord_sign {n : Nat} {xs : List Int} (hn : 1 ≤ n) (k : Nat) : (ordQ n xs ((divN n).getD k 0) xs.length).num.sign = sgnO n xs k := by
  unfold ordQ sgnO
  exact divInt_sign (by omega)
def leastS (n : Nat) (xs : List Int) : Nat → Int
  | 0 => 1
  | k + 1 => if sgnO n xs k < leastS n xs k then sgnO n xs k else leastS n xs k
theorem sgn_bd (n : Nat) (xs : List Int) (k : Nat) : -1 ≤ sgnO n xs k ∧ sgnO n xs k ≤ 1 := by
  unfold sgnO
  generalize psum (oA n ((divN n).getD k 0) xs) xs.length = a
  rcases Int.lt_trichotomy a 0 with h | h | h
  · rw [Int.sign_eq_neg_one_of_neg h]; omega
  · subst h; simp
  · rw [Int.sign_eq_one_of_pos h]; omega
theorem leastS_bd (n : Nat) (xs : List Int) : ∀ k, -1 ≤ leastS n xs k ∧ leastS n xs k ≤ 1
  | 0 => by unfold leastS; omega
  | k + 1 => by
    have h1 := leastS_bd n xs k
    have h2 := sgn_bd n xs k
    unfold leastS
    split <;> omega
theorem leastS_le (n : Nat) (xs : List Int) : ∀ {i k}, i < k → leastS n xs k ≤ sgnO n xs i
  | i, 0, h => by omega
  | i, k + 1, h => by
    unfold leastS
    rcases Nat.lt_or_ge i k with h2 | h2
    · have := leastS_le n xs h2
      split <;> omega
    · obtain rfl : i = k := by omega
      split <;> omega
theorem leastS_ge {n : Nat} {xs : List Int} {s : Int} (hs : s ≤ 1) : ∀ {k}, (∀ i, i < k → s ≤ sgnO n xs i) → s ≤ leastS n xs k
  | 0, h => by unfold leastS; omega
  | k + 1, h => by
    have h1 := leastS_ge (k := k) hs (fun i hi => h i (by omega))
    have h2 := h k (by omega)
    unfold leastS
    split <;> omega
end Go.Num

namespace Go.Num
theorem lq_div (a b : Rat) (hb : b ≠ 0) : lq (a / b) ≤ lq a + lq b := by
  rw [div_divInt]
  have hn : b.num ≠ 0 := fun e => hb (by rw [← Rat.num_divInt_den b, e, Rat.zero_divInt])
  obtain ⟨h1, h2⟩ := lq_divInt (n := a.num * (b.den : Int)) (Int.mul_ne_zero (den_ne a) hn)
  have h4 := len_mul a.num (b.den : Int)
  have h6 := len_mul (a.den : Int) b.num
  unfold lq
  omega
theorem lq_sub (a b : Rat) : lq (a - b) ≤ lq a + lq b + lq a + lq b + 1 := by
  rw [Rat.sub_eq_add_neg]
  have := lq_add a (-b)
  rw [lq_neg] at this
  exact this
end Go.Num
namespace Go.Proofs.YtbajpjjbaffnnaaGreat
open Go Go.Lg Go.Num
set_option maxRecDepth 100000
set_option maxHeartbeats 4000000
attribute [local irreducible] Go.Lg.lrun Go.Lg.lwp Go.Lg.exThen Go.Lg.exBlk Go.Lg.keep Go.Lg.goodPost
theorem small_good (z : Int) (hz : -4611686018427387904 ≤ z ∧ z ≤ 4611686018427387904) : PureGood Tryz.prog 91 [encI z] (.tup [i64 z, bl true]) := by
  have hl : (digs z.natAbs).length ≤ 2 := len_pow_lt (a := z) (e := 2) (by omega)
  have h1 := trimmed_digs z.natAbs (by omega)
  have h2 := word_digs hl
  obtain ⟨n, hn⟩ : ∃ n : Nat, z.natAbs = n := ⟨_, rfl⟩
  rw [hn] at hl
  by_cases hneg : z < 0
  · obtain rfl : z = -(n : Int) := by omega
    have hd : decide (-(n : Int) < 0) = true := by simpa using hneg
    simp only [encI, hd, hn] at h1 h2 ⊢
    generalize digs n = ds at *
    simp only [dg, bl, i64, u64] at h1 h2 ⊢
    refine good_of_lwp mix Tryz.func91 rfl (by decide) (nt := 31) rfl (rs := [.tmp 2, .tmp 3]) rfl (Nat.le_of_ble_eq_true rfl) ?_
    (repeat (first|apply zO (by decide +kernel)|apply zP (by decide +kernel)|apply zA|apply zB|apply zF|apply zG|apply zH|apply zI|apply zJ|apply zK|apply zL (by decide)|apply zM|apply zN (by decide)|apply zD|apply zC|apply zE|((first|apply l_go rfl|apply c_dec); (case hs => (simp (disch := first|omega|exact kD rfl|exact kX rfl) only [smZ, tyA, simprocAttr, bl, u32, u64, i64]; exact rfl)); first|refine c_bt ?_|refine c_bf ?_|show lrun _ _ _ _ _ _ _ _ _)|(apply l_call rfl (by decide) rfl; (case hc => (simp (disch := first|omega|exact kD rfl|exact kX rfl) only [smZ, tyA, simprocAttr, bl, u32, u64, i64]; exact rfl)); (case hg => assumption))))
    ((first | apply g_ret | apply g_end); case hres => (simp only [resL, rOs, rO, Option.map_some]; simp (disch := first|omega|exact kD rfl|exact kX rfl) only [smZ, tyA, simprocAttr, bl, u32, u64, i64]; exact rfl))
    simp (disch := first|omega|exact kD rfl|exact kX rfl) only [smZ, tyA, simprocAttr, bl, u32, u64, i64]
    rw [show IntKind.i64.wrap (IntKind.u64.wrap (0 - (n : Int))) = -(n : Int) by rw [wrap_u64_mod, IntKind.wrap_i64]; omega]
  · obtain rfl : z = (n : Int) := by omega
    have hd : decide ((n : Int) < 0) = false := by simpa using hneg
    simp only [encI, hd, hn] at h1 h2 ⊢
    generalize digs n = ds at *
    simp only [dg, bl, i64, u64] at h1 h2 ⊢
    refine good_of_lwp mix Tryz.func91 rfl (by decide) (nt := 31) rfl (rs := [.tmp 2, .tmp 3]) rfl (Nat.le_of_ble_eq_true rfl) ?_
    (repeat (first|apply zO (by decide +kernel)|apply zP (by decide +kernel)|apply zA|apply zB|apply zF|apply zG|apply zH|apply zI|apply zJ|apply zK|apply zL (by decide)|apply zM|apply zN (by decide)|apply zD|apply zC|apply zE|((first|apply l_go rfl|apply c_dec); (case hs => (simp (disch := first|omega|exact kD rfl|exact kX rfl) only [smZ, tyA, simprocAttr, bl, u32, u64, i64]; exact rfl)); first|refine c_bt ?_|refine c_bf ?_|show lrun _ _ _ _ _ _ _ _ _)|(apply l_call rfl (by decide) rfl; (case hc => (simp (disch := first|omega|exact kD rfl|exact kX rfl) only [smZ, tyA, simprocAttr, bl, u32, u64, i64]; exact rfl)); (case hg => assumption))))
    ((first | apply g_ret | apply g_end); case hres => (simp only [resL, rOs, rO, Option.map_some]; simp (disch := first|omega|exact kD rfl|exact kX rfl) only [smZ, tyA, simprocAttr, bl, u32, u64, i64]; exact rfl))
    simp (disch := first|omega|exact kD rfl|exact kX rfl) only [smZ, tyA, simprocAttr, bl, u32, u64, i64]
attribute [local irreducible] sg mg
theorem lq_i64 {z : Int} (h : -9223372036854775808 ≤ z ∧ z ≤ 9223372036854775808) : lq (z : Rat) ≤ 3 := by
  have h3 : len z ≤ 2 := len_pow_lt (e := 2) (by omega)
  rw [lq_int]
  omega
theorem floor_good (q : Rat) (h : lq q ≤ 68719476736) : PureGood Tryz.prog 155 [encQ q] (encI (q.num / (q.den : Int))) := by
  have h1 := qnorm_good q h
  have h2 := divmod_good q.num (q.den : Int) (by have := q.den_nz; omega) (by unfold lq at h; omega) (by unfold lq at h; omega)
  generalize q.num / (q.den : Int) = a at *
  generalize q.num % (q.den : Int) = b at *
  simp only [encQ_sm, encI_sm, i64] at *
  refine good_of_lwp mix Tryz.func155 rfl (by decide) (nt := 18) rfl (rs := [.cell 2 44]) rfl (Nat.le_of_ble_eq_true rfl) ?_
  (repeat (first|apply zO (by decide +kernel)|apply zP (by decide +kernel)|apply zA|apply zB|apply zF|apply zG|apply zH|apply zI|apply zJ|apply zK|apply zL (by decide)|apply zM|apply zN (by decide)|apply zD|apply zC|apply zE|((first|apply l_go rfl|apply c_dec); (case hs => (simp (disch := first|omega|exact kD rfl|exact kX rfl) only [smZ, tyA, simprocAttr, bl, i64, smT]; exact rfl)); first|refine c_bt ?_|refine c_bf ?_|show lrun _ _ _ _ _ _ _ _ _)|(apply l_call rfl (by decide) rfl; (case hc => (simp (disch := first|omega|exact kD rfl|exact kX rfl) only [smZ, tyA, simprocAttr, bl, i64, smT]; exact rfl)); (case hg => assumption))))
  ((first | apply g_ret | apply g_end); case hres => (simp only [resL, rOs, rO, Option.map_some]; simp (disch := first|omega|exact kD rfl|exact kX rfl) only [smZ, tyA, simprocAttr, bl, i64, smT]; exact rfl))
  simp (disch := first|omega|exact kD rfl|exact kX rfl) only [smZ, tyA, simprocAttr, bl, i64, smT]
theorem ceil_good (q : Rat) (h : lq q ≤ 1000) : PureGood Tryz.prog 92 [encQ q] (encI (-((-q).num / ((-q).den : Int)))) := by
  have h1 := qneg_good q (by omega)
  have hl : lq (-q) = lq q := by unfold lq len; simp
  have h2 := floor_good (-q) (by omega)
  have hb : len ((-q).num / ((-q).den : Int)) ≤ 1000 := by
    have e1 := Int.natAbs_ediv_le_natAbs (-q).num ((-q).den : Int)
    have e2 : len (-q).num ≤ 1000 := by unfold lq at hl h; omega
    exact Nat.le_trans (len_le_of e1) e2
  have h3 := neg_good ((-q).num / ((-q).den : Int)) (by omega)
  generalize (-q).num / ((-q).den : Int) = a at *
  simp only [encQ_sm, encI_sm] at *
  refine good_of_lwp mix Tryz.func92 rfl (by decide) (nt := 7) rfl (rs := [.cell 2 44]) rfl (Nat.le_of_ble_eq_true rfl) ?_
  (repeat (first|apply zO (by decide +kernel)|apply zP (by decide +kernel)|apply zA|apply zB|apply zF|apply zG|apply zH|apply zI|apply zJ|apply zK|apply zL (by decide)|apply zM|apply zN (by decide)|apply zD|apply zC|apply zE|((first|apply l_go rfl|apply c_dec); (case hs => (simp (disch := first|omega|exact kD rfl|exact kX rfl) only [smZ, tyA, simprocAttr, bl, i64, smT]; exact rfl)); first|refine c_bt ?_|refine c_bf ?_|show lrun _ _ _ _ _ _ _ _ _)|(apply l_call rfl (by decide) rfl; (case hc => (simp (disch := first|omega|exact kD rfl|exact kX rfl) only [smZ, tyA, simprocAttr, bl, i64, smT]; exact rfl)); (case hg => assumption))))
  ((first | apply g_ret | apply g_end); case hres => (simp only [resL, rOs, rO, Option.map_some]; simp (disch := first|omega|exact kD rfl|exact kX rfl) only [smZ, tyA, simprocAttr, bl, i64, smT]; exact rfl))
  simp (disch := first|omega|exact kD rfl|exact kX rfl) only [smZ, tyA, simprocAttr, bl, i64, smT]
theorem rqsign_good (q : Rat) (h : lq q ≤ 68719476736) : PureGood Tryz.prog 94 [encQ q] (i64 q.num.sign) := by
  have h1 := rsign_good q.num (by unfold lq at h; omega)
  have h2 := rsign_good (q.den : Int) (by unfold lq at h; omega)
  rw [Int.sign_eq_one_of_pos (by have := q.den_nz; omega)] at h2
  have hs : -1 ≤ q.num.sign ∧ q.num.sign ≤ 1 := by
    rcases Int.sign_trichotomy q.num with e | e | e <;> rw [e] <;> omega
  generalize q.num.sign = s at *
  simp only [encQ_sm, encI_sm, i64] at *
  refine good_of_lwp mix Tryz.func94 rfl (by decide) (nt := 10) rfl (rs := [.tmp 2]) rfl (Nat.le_of_ble_eq_true rfl) ?_
  (repeat (first|apply zO (by decide +kernel)|apply zP (by decide +kernel)|apply zA|apply zB|apply zF|apply zG|apply zH|apply zI|apply zJ|apply zK|apply zL (by decide)|apply zM|apply zN (by decide)|apply zD|apply zC|apply zE|((first|apply l_go rfl|apply c_dec); (case hs => (simp (disch := first|omega|exact kD rfl|exact kX rfl) only [smZ, tyA, simprocAttr, bl, i64, smT]; exact rfl)); first|refine c_bt ?_|refine c_bf ?_|show lrun _ _ _ _ _ _ _ _ _)|(apply l_call rfl (by decide) rfl; (case hc => (simp (disch := first|omega|exact kD rfl|exact kX rfl) only [smZ, tyA, simprocAttr, bl, i64, smT]; exact rfl)); (case hg => assumption))))
  ((first | apply g_ret | apply g_end); case hres => (simp only [resL, rOs, rO, Option.map_some]; simp (disch := first|omega|exact kD rfl|exact kX rfl) only [smZ, tyA, simprocAttr, bl, i64, smT]; exact rfl))
  simp (disch := first|omega|exact kD rfl|exact kX rfl) only [smZ, tyA, simprocAttr, bl, i64, smT]
  simp only [Int.mul_one]
theorem rqsame_good (p q : Rat) (hp : lq p ≤ 1099511627776) (hq : lq q ≤ 1099511627776) : PureGood Tryz.prog 20 [encQ p, encQ q] (bl (decide (p = q))) := by
  unfold lq at hp hq
  have h1 := rsame_good p.num q.num (by omega) (by omega)
  have h2 := rsame_good p.den q.den (by omega) (by omega)
  have he : p = q ↔ p.num = q.num ∧ (p.den : Int) = q.den := ⟨fun e => by subst e; exact ⟨rfl, rfl⟩, fun e => Rat.ext e.1 (by omega)⟩
  simp only [encI_sm, encQ_sm, he, bl] at *
  clear he
  generalize (p.den : Int) = dp at *
  generalize (q.den : Int) = dq at *
  generalize p.num = np at *
  generalize q.num = nq at *
  by_cases h3 : np = nq
  · have h3' : decide (np = nq) = true := by simpa using h3
    rw [h3'] at h1
    simp only [h3, true_and] at *
    refine good_of_lwp mix Tryz.func20 rfl (by decide) (nt := 17) rfl (rs := [.tmp 4]) rfl (Nat.le_of_ble_eq_true rfl) ?_
    (repeat (first|apply zO (by decide +kernel)|apply zP (by decide +kernel)|apply zA|apply zB|apply zF|apply zG|apply zH|apply zI|apply zJ|apply zK|apply zL (by decide)|apply zM|apply zN (by decide)|apply zD|apply zC|apply zE|((first|apply l_go rfl|apply c_dec); (case hs => (simp (disch := first|omega|exact kD rfl|exact kX rfl) only [smZ, tyA, simprocAttr, bl, i64, smT]; exact rfl)); first|refine c_bt ?_|refine c_bf ?_|show lrun _ _ _ _ _ _ _ _ _)|(apply l_call rfl (by decide) rfl; (case hc => (simp (disch := first|omega|exact kD rfl|exact kX rfl) only [smZ, tyA, simprocAttr, bl, i64, smT]; exact rfl)); (case hg => assumption))))
    ((first | apply g_ret | apply g_end); case hres => (simp only [resL, rOs, rO, Option.map_some]; simp (disch := first|omega|exact kD rfl|exact kX rfl) only [smZ, tyA, simprocAttr, bl, i64, smT]; exact rfl))
    simp (disch := first|omega|exact kD rfl|exact kX rfl) only [smZ, tyA, simprocAttr, bl, i64, smT]
  · have h3' : decide (np = nq) = false := by simpa using h3
    rw [h3'] at h1
    simp only [h3, false_and, decide_false] at *
    refine good_of_lwp mix Tryz.func20 rfl (by decide) (nt := 17) rfl (rs := [.tmp 4]) rfl (Nat.le_of_ble_eq_true rfl) ?_
    (repeat (first|apply zO (by decide +kernel)|apply zP (by decide +kernel)|apply zA|apply zB|apply zF|apply zG|apply zH|apply zI|apply zJ|apply zK|apply zL (by decide)|apply zM|apply zN (by decide)|apply zD|apply zC|apply zE|((first|apply l_go rfl|apply c_dec); (case hs => (simp (disch := first|omega|exact kD rfl|exact kX rfl) only [smZ, tyA, simprocAttr, bl, i64, smT]; exact rfl)); first|refine c_bt ?_|refine c_bf ?_|show lrun _ _ _ _ _ _ _ _ _)|(apply l_call rfl (by decide) rfl; (case hc => (simp (disch := first|omega|exact kD rfl|exact kX rfl) only [smZ, tyA, simprocAttr, bl, i64, smT]; exact rfl)); (case hg => assumption))))
    refine l_cskip rfl (by decide) rfl ?_
    (repeat (first|apply zO (by decide +kernel)|apply zP (by decide +kernel)|apply zA|apply zB|apply zF|apply zG|apply zH|apply zI|apply zJ|apply zK|apply zL (by decide)|apply zM|apply zN (by decide)|apply zD|apply zC|apply zE|((first|apply l_go rfl|apply c_dec); (case hs => (simp (disch := first|omega|exact kD rfl|exact kX rfl) only [smZ, tyA, simprocAttr, bl, i64, smT]; exact rfl)); first|refine c_bt ?_|refine c_bf ?_|show lrun _ _ _ _ _ _ _ _ _)|(apply l_call rfl (by decide) rfl; (case hc => (simp (disch := first|omega|exact kD rfl|exact kX rfl) only [smZ, tyA, simprocAttr, bl, i64, smT]; exact rfl)); (case hg => assumption))))
    ((first | apply g_ret | apply g_end); case hres => (simp only [resL, rOs, rO, Option.map_some]; simp (disch := first|omega|exact kD rfl|exact kX rfl) only [smZ, tyA, simprocAttr, bl, i64, smT]; exact rfl))
    simp (disch := first|omega|exact kD rfl|exact kX rfl) only [smZ, tyA, simprocAttr, bl, i64, smT]
theorem frac_good (n d : Int) (hn : -4294967296 ≤ n ∧ n ≤ 4294967296) (hd : 1 ≤ d ∧ d ≤ 4294967296) : PureGood Tryz.prog 32 [i64 n, i64 d] (encQ (Rat.divInt n d)) := by
  have hp := divInt_parts (n := n) (d := d) (by omega)
  rw [if_neg (by omega)] at hp
  have hg0 : Int.gcd n d ≠ 0 := fun e => by have := (Int.gcd_eq_zero_iff.1 e).2; omega
  have hgn : ((Int.gcd n d : Nat) : Int) ∣ n := Int.gcd_dvd_left ..
  have hG : Int.gcd n d = Nat.gcd n.natAbs d.natAbs := rfl
  have hdn : (d.natAbs : Int) = d := by omega
  rw [encQ_sm, hp.1, hp.2, hdn]
  clear hp
  have hq1 := Int.natAbs_ediv_le_natAbs n ((Int.gcd n d : Nat) : Int)
  have hq2 := Int.natAbs_ediv_le_natAbs d ((Int.gcd n d : Nat) : Int)
  have z1 := baseZ_good (n / ((Int.gcd n d : Nat) : Int)) (by omega)
  have z2 := baseZ_good (d / ((Int.gcd n d : Nat) : Int)) (by omega)
  have ht : n.tdiv ((Int.gcd n d : Nat) : Int) = n / ((Int.gcd n d : Nat) : Int) := Int.tdiv_eq_ediv_of_dvd hgn
  rw [hG] at hgn hq1 hq2 z1 z2 ht ⊢
  rw [hG] at hg0
  obtain ⟨m, hm⟩ : ∃ m : Nat, d = m := ⟨d.toNat, by omega⟩
  subst hm
  rw [Int.natAbs_natCast] at hq2 z1 z2 ht hg0 ⊢
  have hmx : (if 0 - n > n then 0 - n else n) = (n.natAbs : Int) := by split <;> omega
  rw [Int.natAbs_natCast] at hgn hq1 hG
  generalize hgg : Nat.gcd n.natAbs m = g at *
  simp only [encI_sm, i64] at *
  refine good_of_lwp mix Tryz.func32 rfl (by decide) (nt := 33) rfl (rs := [.cell 4 46]) rfl (Nat.le_of_ble_eq_true rfl) ?_
  (repeat (first|apply zO (by decide +kernel)|apply zP (by decide +kernel)|((fail_if_success refine is_bl ?_); apply zA)|apply zB|apply zF|apply zG|apply zH|apply zI|apply zJ|apply zK|apply zL (by decide)|apply zM|apply zN (by decide)|apply zD|apply zC|apply zE|((first|apply l_go rfl|apply c_dec); (case hs => (simp (disch := first|omega|exact kD rfl|exact kX rfl) only [smZ, tyA, simprocAttr, bl, i64, smS, hmx]; exact rfl)); first|refine c_bt ?_|refine c_bf ?_|show lrun _ _ _ _ _ _ _ _ _)))
  apply w_seq
  apply w_block
  refine w_loop (α := {p : Nat × Nat // Nat.gcd p.1 p.2 = g ∧ p.1 ≤ 4294967296 ∧ p.2 ≤ 4294967296}) (fun p => st 33 (lk [(0, i64 n), (1, i64 m), (4, .ptr 0 0), (5, i64 p.1.1), (6, i64 p.1.2)]) (lkH [(0, ⟨46, [bl false, .lit (.slice none 0 0), bl false, .lit (.slice none 0 0)], false⟩)]) 1) (fun p => p.1.2) ⟨(n.natAbs, m), hgg, by simp only; omega, by simp only; omega⟩ ?_ ?_
  · (refine Sub.heapL [0] rfl (by decide) ?_ (by simp only [List.forall_mem_cons, List.not_mem_nil, false_imp_iff, implies_true, and_true]; decide) ?_ ?_; all_goals (first | (simp only [plainC, smF, dg, renL, renLs, simprocAttr, bl, i64, smS]; done) | (simp only [smF, dg, renL, renLs, simprocAttr, bl, i64, smS]; (repeat' apply And.intro); all_goals rfl) | (simp only [smF, dg, renL, renLs, simprocAttr, bl, i64, smS]) | skip))
  · rintro ⟨⟨x, y⟩, hg, hx, hy⟩
    simp only at hg hx hy
    simp only [st]
    by_cases hy0 : y = 0
    · subst hy0
      rw [Nat.gcd_zero_right] at hg
      subst hg
      have hx0 : ¬ (x : Int) = 0 := by omega
      (repeat (first|apply zO (by decide +kernel)|apply zP (by decide +kernel)|apply zA|apply zB|apply zF|apply zG|apply zH|apply zI|apply zJ|apply zK|apply zL (by decide)|apply zM|apply zN (by decide)|apply zD|apply zC|apply zE|((first|apply l_go rfl|apply c_dec); (case hs => (simp (disch := first|omega|exact kD rfl|exact kX rfl) only [smZ, tyA, simprocAttr, bl, i64, smS, ht]; exact rfl)); first|refine c_bt ?_|refine c_bf ?_|show lrun _ _ _ _ _ _ _ _ _)|(apply l_call rfl (by decide) rfl; (case hc => (simp (disch := first|omega|exact kD rfl|exact kX rfl) only [smZ, tyA, simprocAttr, bl, i64, smS, ht]; exact rfl)); (case hg => assumption))))
      ((first | apply g_ret | apply g_end); case hres => (simp only [resL, rOs, rO, Option.map_some]; simp (disch := first|omega|exact kD rfl|exact kX rfl) only [smZ, tyA, simprocAttr, bl, i64, smS, ht]; exact rfl))
      simp (disch := first|omega|exact kD rfl|exact kX rfl) only [smZ, tyA, simprocAttr, bl, i64, smS, ht]
    · have hmod : x % y < y := Nat.mod_lt _ (by omega)
      have hy1 : ¬ (y : Int) = 0 := by omega
      (repeat (first|apply zO (by decide +kernel)|apply zP (by decide +kernel)|apply zA|apply zB|apply zF|apply zG|apply zH|apply zI|apply zJ|apply zK|apply zL (by decide)|apply zM|apply zN (by decide)|apply zD|apply zC|apply zE|((first|apply l_go rfl|apply c_dec); (case hs => (simp (disch := first|omega|exact kD rfl|exact kX rfl) only [smZ, tyA, simprocAttr, bl, i64, smS]; exact rfl)); first|refine c_bt ?_|refine c_bf ?_|show lrun _ _ _ _ _ _ _ _ _)|(apply l_call rfl (by decide) rfl; (case hc => (simp (disch := first|omega|exact kD rfl|exact kX rfl) only [smZ, tyA, simprocAttr, bl, i64, smS]; exact rfl)); (case hg => assumption))))
      refine ⟨⟨(y, x % y), ?_, hy, by simp only; omega⟩, ?_, hmod⟩
      · simp only
        rw [← hg, Nat.gcd_comm x y, Nat.gcd_rec y x, Nat.gcd_comm]
      · (refine Sub.heapL [0] rfl (by decide) ?_ (by simp only [List.forall_mem_cons, List.not_mem_nil, false_imp_iff, implies_true, and_true]; decide) ?_ ?_; all_goals (first | (simp only [plainC, smF, dg, renL, renLs, simprocAttr, bl, i64, smS]; done) | (simp only [smF, dg, renL, renLs, simprocAttr, bl, i64, smS]; (repeat' apply And.intro); all_goals rfl) | (simp only [smF, dg, renL, renLs, simprocAttr, bl, i64, smS]) | skip))
/-- A zero value counts as 0 in a sum. -/
theorem qadd_none (q : Rat) (h : lq q ≤ 34359738368) : PureGood Tryz.prog 107 [.agg [sg 0, mg 0, sg 0, mg 0], encQ q] (encQ q) := by
  have h1 := isign_good 0 (by unfold len; simp [digs_zero])
  have h2 := qnorm_good q (by omega)
  have e0 : (0 : Int).sign = 0 := rfl
  rw [e0] at h1
  simp only [encQ_sm, encI_sm, i64] at *
  refine good_of_lwp mix Tryz.func107 rfl (by decide) (nt := 54) rfl (rs := [.cell 4 46]) rfl (Nat.le_of_ble_eq_true rfl) ?_
  (repeat (first|apply zO (by decide +kernel)|apply zP (by decide +kernel)|apply zA|apply zB|apply zF|apply zG|apply zH|apply zI|apply zJ|apply zK|apply zL (by decide)|apply zM|apply zN (by decide)|apply zD|apply zC|apply zE|((first|apply l_go rfl|apply c_dec); (case hs => (simp (disch := first|omega|exact kD rfl|exact kX rfl) only [smZ, tyA, simprocAttr, bl, i64, smT]; exact rfl)); first|refine c_bt ?_|refine c_bf ?_|show lrun _ _ _ _ _ _ _ _ _)|(apply l_call rfl (by decide) rfl; (case hc => (simp (disch := first|omega|exact kD rfl|exact kX rfl) only [smZ, tyA, simprocAttr, bl, i64, smT]; exact rfl)); (case hg => assumption))))
  ((first | apply g_ret | apply g_end); case hres => (simp only [resL, rOs, rO, Option.map_some]; simp (disch := first|omega|exact kD rfl|exact kX rfl) only [smZ, tyA, simprocAttr, bl, i64, smT]; exact rfl))
  simp (disch := first|omega|exact kD rfl|exact kX rfl) only [smZ, tyA, simprocAttr, bl, i64, smT]
theorem sameRats_self (f : List Rat) (hf : ∀ c ∈ f, lq c ≤ 100000) (hl : f.length ≤ 1000000000) : PureGood Tryz.prog 70 [encF f, encF f] (.lit (.bool true)) := by
  rw [encF_qc]
  refine good_of_lwp mix Tryz.func70 rfl (by decide) (nt := 27) rfl (rs := [.tmp 4]) rfl (Nat.le_of_ble_eq_true rfl) ?_
  (repeat (first|apply zO (by decide +kernel)|apply zP (by decide +kernel)|apply zA|apply zB|apply zF|apply zG|apply zH|apply zI|apply zJ|apply zK|apply zL (by decide)|apply zM|apply zN (by decide)|apply zD|apply zC|apply zE|((first|apply l_go rfl|apply c_dec); (case hs => (simp (disch := first|omega|exact kD rfl|exact kX rfl) only [smZ, tyA, simprocAttr, bl, i64, smT]; exact rfl)); first|refine c_bt ?_|refine c_bf ?_|show lrun _ _ _ _ _ _ _ _ _)|(apply l_call rfl (by decide) rfl; (case hc => (simp (disch := first|omega|exact kD rfl|exact kX rfl) only [smZ, tyA, simprocAttr, bl, i64, smT]; exact rfl)); (case hg => assumption))))
  refine w_loop (α := {k : Nat // k ≤ f.length}) (fun k => st 27 (lk [(0, .sl f.length (qc f)), (1, .sl f.length (qc f)), (4, bl false), (5, i64 k.1)]) (lkH []) 0) (fun k => f.length - k.1) ⟨0, by omega⟩ ?_ ?_
  · (refine Sub.plain ?_; simp only [smF, dg, renL, renLs, simprocAttr, bl, i64, smT])
  · rintro ⟨k, hk⟩
    simp only [st]
    by_cases h : k < f.length
    · have hm : lq (f.getD k 0) ≤ 100000 := by
        have : f.getD k 0 = f[k] := by simp [h]
        rw [this]
        exact hf _ (List.getElem_mem _)
      have hs := sameRat_good (f.getD k 0) (f.getD k 0) (by omega) (by omega)
      rw [dec_t rfl, bl] at hs
      generalize hc : f.getD k 0 = c at *
      rw [encQ_sm] at hs
      (repeat (first|apply zO (by decide +kernel)|apply zP (by decide +kernel)|apply zA|apply zB|apply zF|apply zG|apply zH|apply zI|apply zJ|apply zK|apply zL (by decide)|apply zM|apply zN (by decide)|apply zD|apply zC|apply zE|((first|apply l_go rfl|apply c_dec); (case hs => (simp (disch := first|omega|exact kD rfl|exact kX rfl) only [smZ, tyA, simprocAttr, bl, i64, smT, hc]; exact rfl)); first|refine c_bt ?_|refine c_bf ?_|show lrun _ _ _ _ _ _ _ _ _)|(apply l_call rfl (by decide) rfl; (case hc => (simp (disch := first|omega|exact kD rfl|exact kX rfl) only [smZ, tyA, simprocAttr, bl, i64, smT, hc]; exact rfl)); (case hg => assumption))))
      refine ⟨⟨k + 1, by omega⟩, ?_, by simp only; omega⟩
      (refine Sub.plain ?_; simp only [smF, dg, renL, renLs, simprocAttr, bl, i64, smT])
    · obtain rfl : k = f.length := by omega
      (repeat (first|apply zO (by decide +kernel)|apply zP (by decide +kernel)|apply zA|apply zB|apply zF|apply zG|apply zH|apply zI|apply zJ|apply zK|apply zL (by decide)|apply zM|apply zN (by decide)|apply zD|apply zC|apply zE|((first|apply l_go rfl|apply c_dec); (case hs => (simp (disch := first|omega|exact kD rfl|exact kX rfl) only [smZ, tyA, simprocAttr, bl, i64, smT]; exact rfl)); first|refine c_bt ?_|refine c_bf ?_|show lrun _ _ _ _ _ _ _ _ _)|(apply l_call rfl (by decide) rfl; (case hc => (simp (disch := first|omega|exact kD rfl|exact kX rfl) only [smZ, tyA, simprocAttr, bl, i64, smT]; exact rfl)); (case hg => assumption))))
      ((first | apply g_ret | apply g_end); case hres => (simp only [resL, rOs, rO, Option.map_some]; simp (disch := first|omega|exact kD rfl|exact kX rfl) only [smZ, tyA, simprocAttr, bl, i64, smT]; exact rfl))
      simp (disch := first|omega|exact kD rfl|exact kX rfl) only [smZ, tyA, simprocAttr, bl, i64, smT]
theorem sameRatP_good (a b c d : Int) (ha : len a ≤ 1099511627776) (hb : len b ≤ 1099511627776) (hc : len c ≤ 1099511627776) (hd : len d ≤ 1099511627776) :
    PureGood Tryz.prog 40 [.agg [sg a, mg a, sg b, mg b], .agg [sg c, mg c, sg d, mg d]] (bl (decide (a = c ∧ b = d))) := by
  have h1 := sameInt_good a c ha hc
  have h2 := sameInt_good b d hb hd
  simp only [encI_sm, bl] at *
  by_cases h3 : a = c
  · have h3' : decide (a = c) = true := by simpa using h3
    rw [h3'] at h1
    simp only [h3, true_and] at *
    refine good_of_lwp mix Tryz.func40 rfl (by decide) (nt := 17) rfl (rs := [.tmp 4]) rfl (Nat.le_of_ble_eq_true rfl) ?_
    (repeat (first|apply zO (by decide +kernel)|apply zP (by decide +kernel)|apply zA|apply zB|apply zF|apply zG|apply zH|apply zI|apply zJ|apply zK|apply zL (by decide)|apply zM|apply zN (by decide)|apply zD|apply zC|apply zE|((first|apply l_go rfl|apply c_dec); (case hs => (simp (disch := first|omega|exact kD rfl|exact kX rfl) only [smZ, tyA, simprocAttr, bl, i64, smT]; exact rfl)); first|refine c_bt ?_|refine c_bf ?_|show lrun _ _ _ _ _ _ _ _ _)|(apply l_call rfl (by decide) rfl; (case hc => (simp (disch := first|omega|exact kD rfl|exact kX rfl) only [smZ, tyA, simprocAttr, bl, i64, smT]; exact rfl)); (case hg => assumption))))
    ((first | apply g_ret | apply g_end); case hres => (simp only [resL, rOs, rO, Option.map_some]; simp (disch := first|omega|exact kD rfl|exact kX rfl) only [smZ, tyA, simprocAttr, bl, i64, smT]; exact rfl))
    simp (disch := first|omega|exact kD rfl|exact kX rfl) only [smZ, tyA, simprocAttr, bl, i64, smT]
  · have h3' : decide (a = c) = false := by simpa using h3
    rw [h3'] at h1
    simp only [h3, false_and, decide_false] at *
    refine good_of_lwp mix Tryz.func40 rfl (by decide) (nt := 17) rfl (rs := [.tmp 4]) rfl (Nat.le_of_ble_eq_true rfl) ?_
    (repeat (first|apply zO (by decide +kernel)|apply zP (by decide +kernel)|apply zA|apply zB|apply zF|apply zG|apply zH|apply zI|apply zJ|apply zK|apply zL (by decide)|apply zM|apply zN (by decide)|apply zD|apply zC|apply zE|((first|apply l_go rfl|apply c_dec); (case hs => (simp (disch := first|omega|exact kD rfl|exact kX rfl) only [smZ, tyA, simprocAttr, bl, i64, smT]; exact rfl)); first|refine c_bt ?_|refine c_bf ?_|show lrun _ _ _ _ _ _ _ _ _)|(apply l_call rfl (by decide) rfl; (case hc => (simp (disch := first|omega|exact kD rfl|exact kX rfl) only [smZ, tyA, simprocAttr, bl, i64, smT]; exact rfl)); (case hg => assumption))))
    refine l_cskip rfl (by decide) rfl ?_
    (repeat (first|apply zO (by decide +kernel)|apply zP (by decide +kernel)|apply zA|apply zB|apply zF|apply zG|apply zH|apply zI|apply zJ|apply zK|apply zL (by decide)|apply zM|apply zN (by decide)|apply zD|apply zC|apply zE|((first|apply l_go rfl|apply c_dec); (case hs => (simp (disch := first|omega|exact kD rfl|exact kX rfl) only [smZ, tyA, simprocAttr, bl, i64, smT]; exact rfl)); first|refine c_bt ?_|refine c_bf ?_|show lrun _ _ _ _ _ _ _ _ _)|(apply l_call rfl (by decide) rfl; (case hc => (simp (disch := first|omega|exact kD rfl|exact kX rfl) only [smZ, tyA, simprocAttr, bl, i64, smT]; exact rfl)); (case hg => assumption))))
    ((first | apply g_ret | apply g_end); case hres => (simp only [resL, rOs, rO, Option.map_some]; simp (disch := first|omega|exact kD rfl|exact kX rfl) only [smZ, tyA, simprocAttr, bl, i64, smT]; exact rfl))
    simp (disch := first|omega|exact kD rfl|exact kX rfl) only [smZ, tyA, simprocAttr, bl, i64, smT]
end Go.Proofs.YtbajpjjbaffnnaaGreat
