/- Contracts of functions of the program, and what proves them (texts: D1n D1). -/
import Derived.Test.YtmblfadpimfagaaGreatDoorZAO
set_option linter.all false
namespace Go.Num
theorem lq_div (a b : Rat) (hb : b ≠ 0) : lq (a / b) ≤ lq a + lq b := by
  rw [div_divInt]
  have hn : b.num ≠ 0 := fun e => hb (by rw [← Rat.num_divInt_den b, e, Rat.zero_divInt])
  obtain ⟨h1, h2⟩ := lq_divInt (n := a.num * (b.den : Int)) (Int.mul_ne_zero (den_ne a) hn)
  have h4 := len_mul a.num (b.den : Int)
  have h6 := len_mul (a.den : Int) b.num
  unfold lq
  omega
theorem lq_sub (a b : Rat) : lq (a - b) ≤ lq a + lq b + lq a + lq b + 1 := by
  rw [Rat.sub_eq_add_neg]
  have := lq_add a (-b)
  rw [lq_neg] at this
  exact this
end Go.Num
namespace Go.Proofs.YtmblfadpimfagaaGreatDoor
open Go Go.Lg Go.Num
set_option maxRecDepth 100000
set_option maxHeartbeats 4000000
attribute [local irreducible] Go.Lg.lrun Go.Lg.lwp Go.Lg.exThen Go.Lg.exBlk Go.Lg.keep Go.Lg.goodPost sg mg bq
theorem num_in {m : Int} (h0 : 0 ≤ m) (h : m ≤ 60) : PureGood Tryz.prog 11 [i64 m] (.tup [encQ (bq m.toNat), i64 0]) := by
  have h1 := number_good m (by omega)
  rwa [encB, bqN, bqD, if_pos (by omega), if_pos (by omega), if_pos (by omega), ← encQ_sm] at h1
theorem lq_small {m : Int} (h0 : 0 ≤ m) (h : m ≤ 100000) : lq (m : Rat) ≤ 2 := by
  rw [lq_int]
  have := len_pow_lt (a := m) (e := 1) (by omega)
  omega
end Go.Proofs.YtmblfadpimfagaaGreatDoor

namespace Go.Proofs.YtmblfadpimfagaaGreatDoor
open Go Go.Lg Go.Num
set_option maxRecDepth 100000
set_option maxHeartbeats 4000000
/-- The difference that Kummer's congruence speaks of. -/
def kumZ (a b : Nat) : Rat := bq (2 + 2 * a) / ((2 + 2 * (a : Int) : Int) : Rat) - bq (2 + 2 * b) / ((2 + 2 * (b : Int) : Int) : Rat)
def kumB (q : Int) (a b : Nat) : Bool := decide ((2 + 2 * (a : Int)) % (q - 1) = 0) || decide ((2 + 2 * (a : Int) - (2 + 2 * (b : Int))).tmod (q - 1) ≠ 0) || decide ((kumZ a b).num % q = 0 ∧ ((kumZ a b).den : Int) % q ≠ 0)
theorem kum_all : ([5, 7, 11, 13, 17, 19, 23].all fun (q : Int) => (List.range 30).all fun a => (List.range 30).all fun b => kumB q a b) = true := by decide +kernel
attribute [local irreducible] Go.Lg.lrun Go.Lg.lwp Go.Lg.exThen Go.Lg.exBlk Go.Lg.keep Go.Lg.goodPost sg mg bq
/-- The contracts that Kummer's statement calls on, at two indices. -/
def KumFacts (a b : Nat) : Prop :=
  PureGood Tryz.prog 11 [i64 (2 + 2 * (a : Int))] (.tup [encQ (bq (2 + 2 * a)), i64 0]) ∧ PureGood Tryz.prog 11 [i64 (2 + 2 * (b : Int))] (.tup [encQ (bq (2 + 2 * b)), i64 0]) ∧
  PureGood Tryz.prog 15 [i64 (2 + 2 * (a : Int))] (encQ ((2 + 2 * (a : Int) : Int) : Rat)) ∧ PureGood Tryz.prog 15 [i64 (2 + 2 * (b : Int))] (encQ ((2 + 2 * (b : Int) : Int) : Rat)) ∧
  PureGood Tryz.prog 14 [encQ (bq (2 + 2 * a)), encQ ((2 + 2 * (a : Int) : Int) : Rat)] (.tup [encQ (bq (2 + 2 * a) / ((2 + 2 * (a : Int) : Int) : Rat)), i64 0]) ∧
  PureGood Tryz.prog 14 [encQ (bq (2 + 2 * b)), encQ ((2 + 2 * (b : Int) : Int) : Rat)] (.tup [encQ (bq (2 + 2 * b) / ((2 + 2 * (b : Int) : Int) : Rat)), i64 0]) ∧
  PureGood Tryz.prog 17 [encQ (bq (2 + 2 * a) / ((2 + 2 * (a : Int) : Int) : Rat)), encQ (bq (2 + 2 * b) / ((2 + 2 * (b : Int) : Int) : Rat))] (encQ (kumZ a b)) ∧
  PureGood Tryz.prog 16 [encQ (kumZ a b)] (encQ (kumZ a b)) ∧
  ∀ q m : Int, m = q - 1 → q ∈ [5, 7, 11, 13, 17, 19, 23] → 5 ≤ q → q ≤ 23 → PureGood Tryz.prog 19 [i64 q] (encI q) ∧ PureGood Tryz.prog 18 [encI (kumZ a b).num, encI q] (.tup [encI ((kumZ a b).num / q), encI ((kumZ a b).num % q), i64 0]) ∧ PureGood Tryz.prog 18 [encI ((kumZ a b).den : Int), encI q] (.tup [encI (((kumZ a b).den : Int) / q), encI (((kumZ a b).den : Int) % q), i64 0]) ∧       ((2 + 2 * (a : Int)) % m = 0 ∨ (2 + 2 * (a : Int) - (2 + 2 * (b : Int))).tmod m ≠ 0 ∨ (PureGood Tryz.prog 20 [encI ((kumZ a b).num % q)] (i64 0) ∧ PureGood Tryz.prog 20 [encI (((kumZ a b).den : Int) % q)] (i64 1)))
theorem kumPack (a b : Nat) (ha' : a < 30) (hb' : b < 30) : KumFacts a b := by
  have hkum : ∀ q ∈ [5, 7, 11, 13, 17, 19, 23], kumB q a b = true := fun q hq => List.all_eq_true.1 (List.all_eq_true.1 (List.all_eq_true.1 kum_all q hq) a (List.mem_range.2 ha')) b (List.mem_range.2 hb')
  have n1 := num_in (m := 2 + 2 * (a : Int)) (by omega) (by omega)
  have n2 := num_in (m := 2 + 2 * (b : Int)) (by omega) (by omega)
  rw [show (2 + 2 * (a : Int)).toNat = 2 + 2 * a by omega] at n1
  rw [show (2 + 2 * (b : Int)).toNat = 2 + 2 * b by omega] at n2
  have q1 := baseQ_good (2 + 2 * (a : Int)) (by omega)
  have q2 := baseQ_good (2 + 2 * (b : Int)) (by omega)
  have la := lq_small (m := 2 + 2 * (a : Int)) (by omega) (by omega)
  have lb := lq_small (m := 2 + 2 * (b : Int)) (by omega) (by omega)
  have na : ((2 + 2 * (a : Int) : Int) : Rat) ≠ 0 := by
    intro e
    have : (2 + 2 * (a : Int) : Int) = 0 := by exact_mod_cast e
    omega
  have nb : ((2 + 2 * (b : Int) : Int) : Rat) ≠ 0 := by
    intro e
    have : (2 + 2 * (b : Int) : Int) = 0 := by exact_mod_cast e
    omega
  have l1 := lq_bq (2 + 2 * a)
  have l2 := lq_bq (2 + 2 * b)
  have o1 := quo_good (bq (2 + 2 * a)) ((2 + 2 * (a : Int) : Int) : Rat) na (by omega) (by omega)
  have o2 := quo_good (bq (2 + 2 * b)) ((2 + 2 * (b : Int) : Int) : Rat) nb (by omega) (by omega)
  have l3 := lq_div (bq (2 + 2 * a)) _ na
  have l4 := lq_div (bq (2 + 2 * b)) _ nb
  have l5 := lq_sub (bq (2 + 2 * a) / ((2 + 2 * (a : Int) : Int) : Rat)) (bq (2 + 2 * b) / ((2 + 2 * (b : Int) : Int) : Rat))
  have s1 := qsub_good (bq (2 + 2 * a) / ((2 + 2 * (a : Int) : Int) : Rat)) (bq (2 + 2 * b) / ((2 + 2 * (b : Int) : Int) : Rat)) (by omega) (by omega)
  rw [show bq (2 + 2 * a) / ((2 + 2 * (a : Int) : Int) : Rat) - bq (2 + 2 * b) / ((2 + 2 * (b : Int) : Int) : Rat) = kumZ a b from rfl] at s1 l5
  have hlz : lq (kumZ a b) ≤ 200 := by omega
  have s2 := qnorm_good (kumZ a b) (by omega)
  have lz : len (kumZ a b).num ≤ 200 ∧ len ((kumZ a b).den : Int) ≤ 200 := by unfold lq at hlz; omega
  clear l1 l2 l3 l4 l5 la lb na nb hlz
  refine ⟨n1, n2, q1, q2, o1, o2, s1, s2, ?_⟩
  have step : ∀ q m : Int, m = q - 1 → q ∈ [5, 7, 11, 13, 17, 19, 23] → 5 ≤ q → q ≤ 23 → PureGood Tryz.prog 19 [i64 q] (encI q) ∧ PureGood Tryz.prog 18 [encI (kumZ a b).num, encI q] (.tup [encI ((kumZ a b).num / q), encI ((kumZ a b).num % q), i64 0]) ∧ PureGood Tryz.prog 18 [encI ((kumZ a b).den : Int), encI q] (.tup [encI (((kumZ a b).den : Int) / q), encI (((kumZ a b).den : Int) % q), i64 0]) ∧
      ((2 + 2 * (a : Int)) % m = 0 ∨ (2 + 2 * (a : Int) - (2 + 2 * (b : Int))).tmod m ≠ 0 ∨ (PureGood Tryz.prog 20 [encI ((kumZ a b).num % q)] (i64 0) ∧ PureGood Tryz.prog 20 [encI (((kumZ a b).den : Int) % q)] (i64 1))) := by
    intro q m hm hq q1 q2
    subst hm
    have lq1 : len q ≤ 1 := len_pow_lt (e := 1) (by omega)
    refine ⟨baseZ_good q (by omega), divmod_good _ q (by omega) (by omega) (by omega), divmod_good _ q (by omega) (by omega) (by omega), ?_⟩
    have := hkum q hq
    unfold kumB at this
    rw [Bool.or_eq_true, Bool.or_eq_true, decide_eq_true_eq, decide_eq_true_eq, decide_eq_true_eq] at this
    rcases this with (h | h) | ⟨h3, h4⟩
    · exact .inl h
    · exact .inr (.inl h)
    · refine .inr (.inr ?_)
      have e1 := isign_good ((kumZ a b).num % q) (by rw [h3]; decide +kernel)
      have e2 := isign_good (((kumZ a b).den : Int) % q) (by have := len_pow_lt (a := ((kumZ a b).den : Int) % q) (e := 1) (by have := Int.emod_lt_of_pos ((kumZ a b).den : Int) (show 0 < q by omega); have := Int.emod_nonneg ((kumZ a b).den : Int) (show q ≠ 0 by omega); omega); omega)
      rw [show ((kumZ a b).num % q).sign = 0 by rw [h3]; rfl] at e1
      rw [Int.sign_eq_one_of_pos (by have := Int.emod_nonneg ((kumZ a b).den : Int) (show q ≠ 0 by omega); omega)] at e2
      exact ⟨e1, e2⟩
  exact step
theorem kum5 {p k l : Int} {a b : Nat} (hp : 0 ≤ p ∧ p ≤ 255) (hk : 0 ≤ k ∧ k ≤ 255) (hl : 0 ≤ l ∧ l ≤ 255) (ha : k % 30 = a) (hb : l % 30 = b) (hi : p % 7 = 0) (hF : KumFacts a b) : PureGood Tryz.prog 4 [.lit (.int .u8 p), .lit (.int .u8 k), .lit (.int .u8 l)] (.lit (.bool true)) := by
  have h0 := awake_good
  obtain ⟨n1, n2, q1, q2, o1, o2, s1, s2, step⟩ := hF
  obtain ⟨z, d1, d2, h⟩ := step 5 4 (by decide) (by simp) (by decide) (by decide)
  clear step
  simp only [encI_sm, encQ_sm, i64] at *
  generalize bq (2 + 2 * a) / ((2 + 2 * (a : Int) : Int) : Rat) = c1 at *
  generalize bq (2 + 2 * b) / ((2 + 2 * (b : Int) : Int) : Rat) = c2 at *
  generalize bq (2 + 2 * a) = b1 at *
  generalize bq (2 + 2 * b) = b2 at *
  generalize kumZ a b = zz at *
  by_cases t1 : (2 + 2 * (a : Int)) % 4 = 0
  · refine good_of_lwp mix Tryz.func4 rfl (by decide) (nt := 131) rfl (rs := [.tmp 6]) rfl (Nat.le_of_ble_eq_true rfl) ?_
    (repeat (first|apply zO (by decide +kernel)|apply zP (by decide +kernel)|apply zA|apply zB|apply zF|apply zG|apply zH|apply zI|apply zJ|apply zK|apply zL (by decide)|apply zM|apply zN (by decide)|apply zD|apply zC|apply zE|((first|apply l_go rfl|apply c_dec); (case hs => (simp (disch := first|omega|exact kD rfl|exact kX rfl) only [smZ, tyA, simprocAttr, bl, i64, smS, ha, hb, hi]; exact rfl)); first|refine c_bt ?_|refine c_bf ?_|show lrun _ _ _ _ _ _ _ _ _)|(apply l_call rfl (by decide) rfl; (case hc => (simp (disch := first|omega|exact kD rfl|exact kX rfl) only [smZ, tyA, simprocAttr, bl, i64, smS, ha, hb, hi]; exact rfl)); (case hg => assumption))))
    ((first | apply g_ret | apply g_end); case hres => (simp only [resL, rOs, rO, Option.map_some]; simp (disch := first|omega|exact kD rfl|exact kX rfl) only [smZ, tyA, simprocAttr, bl, i64, smS, ha, hb, hi]; exact rfl))
    simp (disch := first|omega|exact kD rfl|exact kX rfl) only [smZ, tyA, simprocAttr, bl, i64, smS, ha, hb, hi]
  by_cases t2 : (2 + 2 * (a : Int) - (2 + 2 * (b : Int))).tmod 4 = 0
  · obtain ⟨g1, g2⟩ := (h.resolve_left t1).resolve_left (fun e => e t2)
    clear h
    refine good_of_lwp mix Tryz.func4 rfl (by decide) (nt := 131) rfl (rs := [.tmp 6]) rfl (Nat.le_of_ble_eq_true rfl) ?_
    (repeat (first|apply zO (by decide +kernel)|apply zP (by decide +kernel)|apply zA|apply zB|apply zF|apply zG|apply zH|apply zI|apply zJ|apply zK|apply zL (by decide)|apply zM|apply zN (by decide)|apply zD|apply zC|apply zE|((first|apply l_go rfl|apply c_dec); (case hs => (simp (disch := first|omega|exact kD rfl|exact kX rfl) only [smZ, tyA, simprocAttr, bl, i64, smS, ha, hb, hi]; exact rfl)); first|refine c_bt ?_|refine c_bf ?_|show lrun _ _ _ _ _ _ _ _ _)|(apply l_call rfl (by decide) rfl; (case hc => (simp (disch := first|omega|exact kD rfl|exact kX rfl) only [smZ, tyA, simprocAttr, bl, i64, smS, ha, hb, hi]; exact rfl)); (case hg => assumption))))
    ((first | apply g_ret | apply g_end); case hres => (simp only [resL, rOs, rO, Option.map_some]; simp (disch := first|omega|exact kD rfl|exact kX rfl) only [smZ, tyA, simprocAttr, bl, i64, smS, ha, hb, hi]; exact rfl))
    simp (disch := first|omega|exact kD rfl|exact kX rfl) only [smZ, tyA, simprocAttr, bl, i64, smS, ha, hb, hi]
  · refine good_of_lwp mix Tryz.func4 rfl (by decide) (nt := 131) rfl (rs := [.tmp 6]) rfl (Nat.le_of_ble_eq_true rfl) ?_
    (repeat (first|apply zO (by decide +kernel)|apply zP (by decide +kernel)|apply zA|apply zB|apply zF|apply zG|apply zH|apply zI|apply zJ|apply zK|apply zL (by decide)|apply zM|apply zN (by decide)|apply zD|apply zC|apply zE|((first|apply l_go rfl|apply c_dec); (case hs => (simp (disch := first|omega|exact kD rfl|exact kX rfl) only [smZ, tyA, simprocAttr, bl, i64, smS, ha, hb, hi]; exact rfl)); first|refine c_bt ?_|refine c_bf ?_|show lrun _ _ _ _ _ _ _ _ _)|(apply l_call rfl (by decide) rfl; (case hc => (simp (disch := first|omega|exact kD rfl|exact kX rfl) only [smZ, tyA, simprocAttr, bl, i64, smS, ha, hb, hi]; exact rfl)); (case hg => assumption))))
    ((first | apply g_ret | apply g_end); case hres => (simp only [resL, rOs, rO, Option.map_some]; simp (disch := first|omega|exact kD rfl|exact kX rfl) only [smZ, tyA, simprocAttr, bl, i64, smS, ha, hb, hi]; exact rfl))
    simp (disch := first|omega|exact kD rfl|exact kX rfl) only [smZ, tyA, simprocAttr, bl, i64, smS, ha, hb, hi]
theorem kum7 {p k l : Int} {a b : Nat} (hp : 0 ≤ p ∧ p ≤ 255) (hk : 0 ≤ k ∧ k ≤ 255) (hl : 0 ≤ l ∧ l ≤ 255) (ha : k % 30 = a) (hb : l % 30 = b) (hi : p % 7 = 1) (hF : KumFacts a b) : PureGood Tryz.prog 4 [.lit (.int .u8 p), .lit (.int .u8 k), .lit (.int .u8 l)] (.lit (.bool true)) := by
  have h0 := awake_good
  obtain ⟨n1, n2, q1, q2, o1, o2, s1, s2, step⟩ := hF
  obtain ⟨z, d1, d2, h⟩ := step 7 6 (by decide) (by simp) (by decide) (by decide)
  clear step
  simp only [encI_sm, encQ_sm, i64] at *
  generalize bq (2 + 2 * a) / ((2 + 2 * (a : Int) : Int) : Rat) = c1 at *
  generalize bq (2 + 2 * b) / ((2 + 2 * (b : Int) : Int) : Rat) = c2 at *
  generalize bq (2 + 2 * a) = b1 at *
  generalize bq (2 + 2 * b) = b2 at *
  generalize kumZ a b = zz at *
  by_cases t1 : (2 + 2 * (a : Int)) % 6 = 0
  · refine good_of_lwp mix Tryz.func4 rfl (by decide) (nt := 131) rfl (rs := [.tmp 6]) rfl (Nat.le_of_ble_eq_true rfl) ?_
    (repeat (first|apply zO (by decide +kernel)|apply zP (by decide +kernel)|apply zA|apply zB|apply zF|apply zG|apply zH|apply zI|apply zJ|apply zK|apply zL (by decide)|apply zM|apply zN (by decide)|apply zD|apply zC|apply zE|((first|apply l_go rfl|apply c_dec); (case hs => (simp (disch := first|omega|exact kD rfl|exact kX rfl) only [smZ, tyA, simprocAttr, bl, i64, smS, ha, hb, hi]; exact rfl)); first|refine c_bt ?_|refine c_bf ?_|show lrun _ _ _ _ _ _ _ _ _)|(apply l_call rfl (by decide) rfl; (case hc => (simp (disch := first|omega|exact kD rfl|exact kX rfl) only [smZ, tyA, simprocAttr, bl, i64, smS, ha, hb, hi]; exact rfl)); (case hg => assumption))))
    ((first | apply g_ret | apply g_end); case hres => (simp only [resL, rOs, rO, Option.map_some]; simp (disch := first|omega|exact kD rfl|exact kX rfl) only [smZ, tyA, simprocAttr, bl, i64, smS, ha, hb, hi]; exact rfl))
    simp (disch := first|omega|exact kD rfl|exact kX rfl) only [smZ, tyA, simprocAttr, bl, i64, smS, ha, hb, hi]
  by_cases t2 : (2 + 2 * (a : Int) - (2 + 2 * (b : Int))).tmod 6 = 0
  · obtain ⟨g1, g2⟩ := (h.resolve_left t1).resolve_left (fun e => e t2)
    clear h
    refine good_of_lwp mix Tryz.func4 rfl (by decide) (nt := 131) rfl (rs := [.tmp 6]) rfl (Nat.le_of_ble_eq_true rfl) ?_
    (repeat (first|apply zO (by decide +kernel)|apply zP (by decide +kernel)|apply zA|apply zB|apply zF|apply zG|apply zH|apply zI|apply zJ|apply zK|apply zL (by decide)|apply zM|apply zN (by decide)|apply zD|apply zC|apply zE|((first|apply l_go rfl|apply c_dec); (case hs => (simp (disch := first|omega|exact kD rfl|exact kX rfl) only [smZ, tyA, simprocAttr, bl, i64, smS, ha, hb, hi]; exact rfl)); first|refine c_bt ?_|refine c_bf ?_|show lrun _ _ _ _ _ _ _ _ _)|(apply l_call rfl (by decide) rfl; (case hc => (simp (disch := first|omega|exact kD rfl|exact kX rfl) only [smZ, tyA, simprocAttr, bl, i64, smS, ha, hb, hi]; exact rfl)); (case hg => assumption))))
    ((first | apply g_ret | apply g_end); case hres => (simp only [resL, rOs, rO, Option.map_some]; simp (disch := first|omega|exact kD rfl|exact kX rfl) only [smZ, tyA, simprocAttr, bl, i64, smS, ha, hb, hi]; exact rfl))
    simp (disch := first|omega|exact kD rfl|exact kX rfl) only [smZ, tyA, simprocAttr, bl, i64, smS, ha, hb, hi]
  · refine good_of_lwp mix Tryz.func4 rfl (by decide) (nt := 131) rfl (rs := [.tmp 6]) rfl (Nat.le_of_ble_eq_true rfl) ?_
    (repeat (first|apply zO (by decide +kernel)|apply zP (by decide +kernel)|apply zA|apply zB|apply zF|apply zG|apply zH|apply zI|apply zJ|apply zK|apply zL (by decide)|apply zM|apply zN (by decide)|apply zD|apply zC|apply zE|((first|apply l_go rfl|apply c_dec); (case hs => (simp (disch := first|omega|exact kD rfl|exact kX rfl) only [smZ, tyA, simprocAttr, bl, i64, smS, ha, hb, hi]; exact rfl)); first|refine c_bt ?_|refine c_bf ?_|show lrun _ _ _ _ _ _ _ _ _)|(apply l_call rfl (by decide) rfl; (case hc => (simp (disch := first|omega|exact kD rfl|exact kX rfl) only [smZ, tyA, simprocAttr, bl, i64, smS, ha, hb, hi]; exact rfl)); (case hg => assumption))))
    ((first | apply g_ret | apply g_end); case hres => (simp only [resL, rOs, rO, Option.map_some]; simp (disch := first|omega|exact kD rfl|exact kX rfl) only [smZ, tyA, simprocAttr, bl, i64, smS, ha, hb, hi]; exact rfl))
    simp (disch := first|omega|exact kD rfl|exact kX rfl) only [smZ, tyA, simprocAttr, bl, i64, smS, ha, hb, hi]
theorem kum11 {p k l : Int} {a b : Nat} (hp : 0 ≤ p ∧ p ≤ 255) (hk : 0 ≤ k ∧ k ≤ 255) (hl : 0 ≤ l ∧ l ≤ 255) (ha : k % 30 = a) (hb : l % 30 = b) (hi : p % 7 = 2) (hF : KumFacts a b) : PureGood Tryz.prog 4 [.lit (.int .u8 p), .lit (.int .u8 k), .lit (.int .u8 l)] (.lit (.bool true)) := by
  have h0 := awake_good
  obtain ⟨n1, n2, q1, q2, o1, o2, s1, s2, step⟩ := hF
  obtain ⟨z, d1, d2, h⟩ := step 11 10 (by decide) (by simp) (by decide) (by decide)
  clear step
  simp only [encI_sm, encQ_sm, i64] at *
  generalize bq (2 + 2 * a) / ((2 + 2 * (a : Int) : Int) : Rat) = c1 at *
  generalize bq (2 + 2 * b) / ((2 + 2 * (b : Int) : Int) : Rat) = c2 at *
  generalize bq (2 + 2 * a) = b1 at *
  generalize bq (2 + 2 * b) = b2 at *
  generalize kumZ a b = zz at *
  by_cases t1 : (2 + 2 * (a : Int)) % 10 = 0
  · refine good_of_lwp mix Tryz.func4 rfl (by decide) (nt := 131) rfl (rs := [.tmp 6]) rfl (Nat.le_of_ble_eq_true rfl) ?_
    (repeat (first|apply zO (by decide +kernel)|apply zP (by decide +kernel)|apply zA|apply zB|apply zF|apply zG|apply zH|apply zI|apply zJ|apply zK|apply zL (by decide)|apply zM|apply zN (by decide)|apply zD|apply zC|apply zE|((first|apply l_go rfl|apply c_dec); (case hs => (simp (disch := first|omega|exact kD rfl|exact kX rfl) only [smZ, tyA, simprocAttr, bl, i64, smS, ha, hb, hi]; exact rfl)); first|refine c_bt ?_|refine c_bf ?_|show lrun _ _ _ _ _ _ _ _ _)|(apply l_call rfl (by decide) rfl; (case hc => (simp (disch := first|omega|exact kD rfl|exact kX rfl) only [smZ, tyA, simprocAttr, bl, i64, smS, ha, hb, hi]; exact rfl)); (case hg => assumption))))
    ((first | apply g_ret | apply g_end); case hres => (simp only [resL, rOs, rO, Option.map_some]; simp (disch := first|omega|exact kD rfl|exact kX rfl) only [smZ, tyA, simprocAttr, bl, i64, smS, ha, hb, hi]; exact rfl))
    simp (disch := first|omega|exact kD rfl|exact kX rfl) only [smZ, tyA, simprocAttr, bl, i64, smS, ha, hb, hi]
  by_cases t2 : (2 + 2 * (a : Int) - (2 + 2 * (b : Int))).tmod 10 = 0
  · obtain ⟨g1, g2⟩ := (h.resolve_left t1).resolve_left (fun e => e t2)
    clear h
    refine good_of_lwp mix Tryz.func4 rfl (by decide) (nt := 131) rfl (rs := [.tmp 6]) rfl (Nat.le_of_ble_eq_true rfl) ?_
    (repeat (first|apply zO (by decide +kernel)|apply zP (by decide +kernel)|apply zA|apply zB|apply zF|apply zG|apply zH|apply zI|apply zJ|apply zK|apply zL (by decide)|apply zM|apply zN (by decide)|apply zD|apply zC|apply zE|((first|apply l_go rfl|apply c_dec); (case hs => (simp (disch := first|omega|exact kD rfl|exact kX rfl) only [smZ, tyA, simprocAttr, bl, i64, smS, ha, hb, hi]; exact rfl)); first|refine c_bt ?_|refine c_bf ?_|show lrun _ _ _ _ _ _ _ _ _)|(apply l_call rfl (by decide) rfl; (case hc => (simp (disch := first|omega|exact kD rfl|exact kX rfl) only [smZ, tyA, simprocAttr, bl, i64, smS, ha, hb, hi]; exact rfl)); (case hg => assumption))))
    ((first | apply g_ret | apply g_end); case hres => (simp only [resL, rOs, rO, Option.map_some]; simp (disch := first|omega|exact kD rfl|exact kX rfl) only [smZ, tyA, simprocAttr, bl, i64, smS, ha, hb, hi]; exact rfl))
    simp (disch := first|omega|exact kD rfl|exact kX rfl) only [smZ, tyA, simprocAttr, bl, i64, smS, ha, hb, hi]
  · refine good_of_lwp mix Tryz.func4 rfl (by decide) (nt := 131) rfl (rs := [.tmp 6]) rfl (Nat.le_of_ble_eq_true rfl) ?_
    (repeat (first|apply zO (by decide +kernel)|apply zP (by decide +kernel)|apply zA|apply zB|apply zF|apply zG|apply zH|apply zI|apply zJ|apply zK|apply zL (by decide)|apply zM|apply zN (by decide)|apply zD|apply zC|apply zE|((first|apply l_go rfl|apply c_dec); (case hs => (simp (disch := first|omega|exact kD rfl|exact kX rfl) only [smZ, tyA, simprocAttr, bl, i64, smS, ha, hb, hi]; exact rfl)); first|refine c_bt ?_|refine c_bf ?_|show lrun _ _ _ _ _ _ _ _ _)|(apply l_call rfl (by decide) rfl; (case hc => (simp (disch := first|omega|exact kD rfl|exact kX rfl) only [smZ, tyA, simprocAttr, bl, i64, smS, ha, hb, hi]; exact rfl)); (case hg => assumption))))
    ((first | apply g_ret | apply g_end); case hres => (simp only [resL, rOs, rO, Option.map_some]; simp (disch := first|omega|exact kD rfl|exact kX rfl) only [smZ, tyA, simprocAttr, bl, i64, smS, ha, hb, hi]; exact rfl))
    simp (disch := first|omega|exact kD rfl|exact kX rfl) only [smZ, tyA, simprocAttr, bl, i64, smS, ha, hb, hi]
theorem kum13 {p k l : Int} {a b : Nat} (hp : 0 ≤ p ∧ p ≤ 255) (hk : 0 ≤ k ∧ k ≤ 255) (hl : 0 ≤ l ∧ l ≤ 255) (ha : k % 30 = a) (hb : l % 30 = b) (hi : p % 7 = 3) (hF : KumFacts a b) : PureGood Tryz.prog 4 [.lit (.int .u8 p), .lit (.int .u8 k), .lit (.int .u8 l)] (.lit (.bool true)) := by
  have h0 := awake_good
  obtain ⟨n1, n2, q1, q2, o1, o2, s1, s2, step⟩ := hF
  obtain ⟨z, d1, d2, h⟩ := step 13 12 (by decide) (by simp) (by decide) (by decide)
  clear step
  simp only [encI_sm, encQ_sm, i64] at *
  generalize bq (2 + 2 * a) / ((2 + 2 * (a : Int) : Int) : Rat) = c1 at *
  generalize bq (2 + 2 * b) / ((2 + 2 * (b : Int) : Int) : Rat) = c2 at *
  generalize bq (2 + 2 * a) = b1 at *
  generalize bq (2 + 2 * b) = b2 at *
  generalize kumZ a b = zz at *
  by_cases t1 : (2 + 2 * (a : Int)) % 12 = 0
  · refine good_of_lwp mix Tryz.func4 rfl (by decide) (nt := 131) rfl (rs := [.tmp 6]) rfl (Nat.le_of_ble_eq_true rfl) ?_
    (repeat (first|apply zO (by decide +kernel)|apply zP (by decide +kernel)|apply zA|apply zB|apply zF|apply zG|apply zH|apply zI|apply zJ|apply zK|apply zL (by decide)|apply zM|apply zN (by decide)|apply zD|apply zC|apply zE|((first|apply l_go rfl|apply c_dec); (case hs => (simp (disch := first|omega|exact kD rfl|exact kX rfl) only [smZ, tyA, simprocAttr, bl, i64, smS, ha, hb, hi]; exact rfl)); first|refine c_bt ?_|refine c_bf ?_|show lrun _ _ _ _ _ _ _ _ _)|(apply l_call rfl (by decide) rfl; (case hc => (simp (disch := first|omega|exact kD rfl|exact kX rfl) only [smZ, tyA, simprocAttr, bl, i64, smS, ha, hb, hi]; exact rfl)); (case hg => assumption))))
    ((first | apply g_ret | apply g_end); case hres => (simp only [resL, rOs, rO, Option.map_some]; simp (disch := first|omega|exact kD rfl|exact kX rfl) only [smZ, tyA, simprocAttr, bl, i64, smS, ha, hb, hi]; exact rfl))
    simp (disch := first|omega|exact kD rfl|exact kX rfl) only [smZ, tyA, simprocAttr, bl, i64, smS, ha, hb, hi]
  by_cases t2 : (2 + 2 * (a : Int) - (2 + 2 * (b : Int))).tmod 12 = 0
  · obtain ⟨g1, g2⟩ := (h.resolve_left t1).resolve_left (fun e => e t2)
    clear h
    refine good_of_lwp mix Tryz.func4 rfl (by decide) (nt := 131) rfl (rs := [.tmp 6]) rfl (Nat.le_of_ble_eq_true rfl) ?_
    (repeat (first|apply zO (by decide +kernel)|apply zP (by decide +kernel)|apply zA|apply zB|apply zF|apply zG|apply zH|apply zI|apply zJ|apply zK|apply zL (by decide)|apply zM|apply zN (by decide)|apply zD|apply zC|apply zE|((first|apply l_go rfl|apply c_dec); (case hs => (simp (disch := first|omega|exact kD rfl|exact kX rfl) only [smZ, tyA, simprocAttr, bl, i64, smS, ha, hb, hi]; exact rfl)); first|refine c_bt ?_|refine c_bf ?_|show lrun _ _ _ _ _ _ _ _ _)|(apply l_call rfl (by decide) rfl; (case hc => (simp (disch := first|omega|exact kD rfl|exact kX rfl) only [smZ, tyA, simprocAttr, bl, i64, smS, ha, hb, hi]; exact rfl)); (case hg => assumption))))
    ((first | apply g_ret | apply g_end); case hres => (simp only [resL, rOs, rO, Option.map_some]; simp (disch := first|omega|exact kD rfl|exact kX rfl) only [smZ, tyA, simprocAttr, bl, i64, smS, ha, hb, hi]; exact rfl))
    simp (disch := first|omega|exact kD rfl|exact kX rfl) only [smZ, tyA, simprocAttr, bl, i64, smS, ha, hb, hi]
  · refine good_of_lwp mix Tryz.func4 rfl (by decide) (nt := 131) rfl (rs := [.tmp 6]) rfl (Nat.le_of_ble_eq_true rfl) ?_
    (repeat (first|apply zO (by decide +kernel)|apply zP (by decide +kernel)|apply zA|apply zB|apply zF|apply zG|apply zH|apply zI|apply zJ|apply zK|apply zL (by decide)|apply zM|apply zN (by decide)|apply zD|apply zC|apply zE|((first|apply l_go rfl|apply c_dec); (case hs => (simp (disch := first|omega|exact kD rfl|exact kX rfl) only [smZ, tyA, simprocAttr, bl, i64, smS, ha, hb, hi]; exact rfl)); first|refine c_bt ?_|refine c_bf ?_|show lrun _ _ _ _ _ _ _ _ _)|(apply l_call rfl (by decide) rfl; (case hc => (simp (disch := first|omega|exact kD rfl|exact kX rfl) only [smZ, tyA, simprocAttr, bl, i64, smS, ha, hb, hi]; exact rfl)); (case hg => assumption))))
    ((first | apply g_ret | apply g_end); case hres => (simp only [resL, rOs, rO, Option.map_some]; simp (disch := first|omega|exact kD rfl|exact kX rfl) only [smZ, tyA, simprocAttr, bl, i64, smS, ha, hb, hi]; exact rfl))
    simp (disch := first|omega|exact kD rfl|exact kX rfl) only [smZ, tyA, simprocAttr, bl, i64, smS, ha, hb, hi]
theorem kum17 {p k l : Int} {a b : Nat} (hp : 0 ≤ p ∧ p ≤ 255) (hk : 0 ≤ k ∧ k ≤ 255) (hl : 0 ≤ l ∧ l ≤ 255) (ha : k % 30 = a) (hb : l % 30 = b) (hi : p % 7 = 4) (hF : KumFacts a b) : PureGood Tryz.prog 4 [.lit (.int .u8 p), .lit (.int .u8 k), .lit (.int .u8 l)] (.lit (.bool true)) := by
  have h0 := awake_good
  obtain ⟨n1, n2, q1, q2, o1, o2, s1, s2, step⟩ := hF
  obtain ⟨z, d1, d2, h⟩ := step 17 16 (by decide) (by simp) (by decide) (by decide)
  clear step
  simp only [encI_sm, encQ_sm, i64] at *
  generalize bq (2 + 2 * a) / ((2 + 2 * (a : Int) : Int) : Rat) = c1 at *
  generalize bq (2 + 2 * b) / ((2 + 2 * (b : Int) : Int) : Rat) = c2 at *
  generalize bq (2 + 2 * a) = b1 at *
  generalize bq (2 + 2 * b) = b2 at *
  generalize kumZ a b = zz at *
  by_cases t1 : (2 + 2 * (a : Int)) % 16 = 0
  · refine good_of_lwp mix Tryz.func4 rfl (by decide) (nt := 131) rfl (rs := [.tmp 6]) rfl (Nat.le_of_ble_eq_true rfl) ?_
    (repeat (first|apply zO (by decide +kernel)|apply zP (by decide +kernel)|apply zA|apply zB|apply zF|apply zG|apply zH|apply zI|apply zJ|apply zK|apply zL (by decide)|apply zM|apply zN (by decide)|apply zD|apply zC|apply zE|((first|apply l_go rfl|apply c_dec); (case hs => (simp (disch := first|omega|exact kD rfl|exact kX rfl) only [smZ, tyA, simprocAttr, bl, i64, smS, ha, hb, hi]; exact rfl)); first|refine c_bt ?_|refine c_bf ?_|show lrun _ _ _ _ _ _ _ _ _)|(apply l_call rfl (by decide) rfl; (case hc => (simp (disch := first|omega|exact kD rfl|exact kX rfl) only [smZ, tyA, simprocAttr, bl, i64, smS, ha, hb, hi]; exact rfl)); (case hg => assumption))))
    ((first | apply g_ret | apply g_end); case hres => (simp only [resL, rOs, rO, Option.map_some]; simp (disch := first|omega|exact kD rfl|exact kX rfl) only [smZ, tyA, simprocAttr, bl, i64, smS, ha, hb, hi]; exact rfl))
    simp (disch := first|omega|exact kD rfl|exact kX rfl) only [smZ, tyA, simprocAttr, bl, i64, smS, ha, hb, hi]
  by_cases t2 : (2 + 2 * (a : Int) - (2 + 2 * (b : Int))).tmod 16 = 0
  · obtain ⟨g1, g2⟩ := (h.resolve_left t1).resolve_left (fun e => e t2)
    clear h
    refine good_of_lwp mix Tryz.func4 rfl (by decide) (nt := 131) rfl (rs := [.tmp 6]) rfl (Nat.le_of_ble_eq_true rfl) ?_
    (repeat (first|apply zO (by decide +kernel)|apply zP (by decide +kernel)|apply zA|apply zB|apply zF|apply zG|apply zH|apply zI|apply zJ|apply zK|apply zL (by decide)|apply zM|apply zN (by decide)|apply zD|apply zC|apply zE|((first|apply l_go rfl|apply c_dec); (case hs => (simp (disch := first|omega|exact kD rfl|exact kX rfl) only [smZ, tyA, simprocAttr, bl, i64, smS, ha, hb, hi]; exact rfl)); first|refine c_bt ?_|refine c_bf ?_|show lrun _ _ _ _ _ _ _ _ _)|(apply l_call rfl (by decide) rfl; (case hc => (simp (disch := first|omega|exact kD rfl|exact kX rfl) only [smZ, tyA, simprocAttr, bl, i64, smS, ha, hb, hi]; exact rfl)); (case hg => assumption))))
    ((first | apply g_ret | apply g_end); case hres => (simp only [resL, rOs, rO, Option.map_some]; simp (disch := first|omega|exact kD rfl|exact kX rfl) only [smZ, tyA, simprocAttr, bl, i64, smS, ha, hb, hi]; exact rfl))
    simp (disch := first|omega|exact kD rfl|exact kX rfl) only [smZ, tyA, simprocAttr, bl, i64, smS, ha, hb, hi]
  · refine good_of_lwp mix Tryz.func4 rfl (by decide) (nt := 131) rfl (rs := [.tmp 6]) rfl (Nat.le_of_ble_eq_true rfl) ?_
    (repeat (first|apply zO (by decide +kernel)|apply zP (by decide +kernel)|apply zA|apply zB|apply zF|apply zG|apply zH|apply zI|apply zJ|apply zK|apply zL (by decide)|apply zM|apply zN (by decide)|apply zD|apply zC|apply zE|((first|apply l_go rfl|apply c_dec); (case hs => (simp (disch := first|omega|exact kD rfl|exact kX rfl) only [smZ, tyA, simprocAttr, bl, i64, smS, ha, hb, hi]; exact rfl)); first|refine c_bt ?_|refine c_bf ?_|show lrun _ _ _ _ _ _ _ _ _)|(apply l_call rfl (by decide) rfl; (case hc => (simp (disch := first|omega|exact kD rfl|exact kX rfl) only [smZ, tyA, simprocAttr, bl, i64, smS, ha, hb, hi]; exact rfl)); (case hg => assumption))))
    ((first | apply g_ret | apply g_end); case hres => (simp only [resL, rOs, rO, Option.map_some]; simp (disch := first|omega|exact kD rfl|exact kX rfl) only [smZ, tyA, simprocAttr, bl, i64, smS, ha, hb, hi]; exact rfl))
    simp (disch := first|omega|exact kD rfl|exact kX rfl) only [smZ, tyA, simprocAttr, bl, i64, smS, ha, hb, hi]
theorem kum19 {p k l : Int} {a b : Nat} (hp : 0 ≤ p ∧ p ≤ 255) (hk : 0 ≤ k ∧ k ≤ 255) (hl : 0 ≤ l ∧ l ≤ 255) (ha : k % 30 = a) (hb : l % 30 = b) (hi : p % 7 = 5) (hF : KumFacts a b) : PureGood Tryz.prog 4 [.lit (.int .u8 p), .lit (.int .u8 k), .lit (.int .u8 l)] (.lit (.bool true)) := by
  have h0 := awake_good
  obtain ⟨n1, n2, q1, q2, o1, o2, s1, s2, step⟩ := hF
  obtain ⟨z, d1, d2, h⟩ := step 19 18 (by decide) (by simp) (by decide) (by decide)
  clear step
  simp only [encI_sm, encQ_sm, i64] at *
  generalize bq (2 + 2 * a) / ((2 + 2 * (a : Int) : Int) : Rat) = c1 at *
  generalize bq (2 + 2 * b) / ((2 + 2 * (b : Int) : Int) : Rat) = c2 at *
  generalize bq (2 + 2 * a) = b1 at *
  generalize bq (2 + 2 * b) = b2 at *
  generalize kumZ a b = zz at *
  by_cases t1 : (2 + 2 * (a : Int)) % 18 = 0
  · refine good_of_lwp mix Tryz.func4 rfl (by decide) (nt := 131) rfl (rs := [.tmp 6]) rfl (Nat.le_of_ble_eq_true rfl) ?_
    (repeat (first|apply zO (by decide +kernel)|apply zP (by decide +kernel)|apply zA|apply zB|apply zF|apply zG|apply zH|apply zI|apply zJ|apply zK|apply zL (by decide)|apply zM|apply zN (by decide)|apply zD|apply zC|apply zE|((first|apply l_go rfl|apply c_dec); (case hs => (simp (disch := first|omega|exact kD rfl|exact kX rfl) only [smZ, tyA, simprocAttr, bl, i64, smS, ha, hb, hi]; exact rfl)); first|refine c_bt ?_|refine c_bf ?_|show lrun _ _ _ _ _ _ _ _ _)|(apply l_call rfl (by decide) rfl; (case hc => (simp (disch := first|omega|exact kD rfl|exact kX rfl) only [smZ, tyA, simprocAttr, bl, i64, smS, ha, hb, hi]; exact rfl)); (case hg => assumption))))
    ((first | apply g_ret | apply g_end); case hres => (simp only [resL, rOs, rO, Option.map_some]; simp (disch := first|omega|exact kD rfl|exact kX rfl) only [smZ, tyA, simprocAttr, bl, i64, smS, ha, hb, hi]; exact rfl))
    simp (disch := first|omega|exact kD rfl|exact kX rfl) only [smZ, tyA, simprocAttr, bl, i64, smS, ha, hb, hi]
  by_cases t2 : (2 + 2 * (a : Int) - (2 + 2 * (b : Int))).tmod 18 = 0
  · obtain ⟨g1, g2⟩ := (h.resolve_left t1).resolve_left (fun e => e t2)
    clear h
    refine good_of_lwp mix Tryz.func4 rfl (by decide) (nt := 131) rfl (rs := [.tmp 6]) rfl (Nat.le_of_ble_eq_true rfl) ?_
    (repeat (first|apply zO (by decide +kernel)|apply zP (by decide +kernel)|apply zA|apply zB|apply zF|apply zG|apply zH|apply zI|apply zJ|apply zK|apply zL (by decide)|apply zM|apply zN (by decide)|apply zD|apply zC|apply zE|((first|apply l_go rfl|apply c_dec); (case hs => (simp (disch := first|omega|exact kD rfl|exact kX rfl) only [smZ, tyA, simprocAttr, bl, i64, smS, ha, hb, hi]; exact rfl)); first|refine c_bt ?_|refine c_bf ?_|show lrun _ _ _ _ _ _ _ _ _)|(apply l_call rfl (by decide) rfl; (case hc => (simp (disch := first|omega|exact kD rfl|exact kX rfl) only [smZ, tyA, simprocAttr, bl, i64, smS, ha, hb, hi]; exact rfl)); (case hg => assumption))))
    ((first | apply g_ret | apply g_end); case hres => (simp only [resL, rOs, rO, Option.map_some]; simp (disch := first|omega|exact kD rfl|exact kX rfl) only [smZ, tyA, simprocAttr, bl, i64, smS, ha, hb, hi]; exact rfl))
    simp (disch := first|omega|exact kD rfl|exact kX rfl) only [smZ, tyA, simprocAttr, bl, i64, smS, ha, hb, hi]
  · refine good_of_lwp mix Tryz.func4 rfl (by decide) (nt := 131) rfl (rs := [.tmp 6]) rfl (Nat.le_of_ble_eq_true rfl) ?_
    (repeat (first|apply zO (by decide +kernel)|apply zP (by decide +kernel)|apply zA|apply zB|apply zF|apply zG|apply zH|apply zI|apply zJ|apply zK|apply zL (by decide)|apply zM|apply zN (by decide)|apply zD|apply zC|apply zE|((first|apply l_go rfl|apply c_dec); (case hs => (simp (disch := first|omega|exact kD rfl|exact kX rfl) only [smZ, tyA, simprocAttr, bl, i64, smS, ha, hb, hi]; exact rfl)); first|refine c_bt ?_|refine c_bf ?_|show lrun _ _ _ _ _ _ _ _ _)|(apply l_call rfl (by decide) rfl; (case hc => (simp (disch := first|omega|exact kD rfl|exact kX rfl) only [smZ, tyA, simprocAttr, bl, i64, smS, ha, hb, hi]; exact rfl)); (case hg => assumption))))
    ((first | apply g_ret | apply g_end); case hres => (simp only [resL, rOs, rO, Option.map_some]; simp (disch := first|omega|exact kD rfl|exact kX rfl) only [smZ, tyA, simprocAttr, bl, i64, smS, ha, hb, hi]; exact rfl))
    simp (disch := first|omega|exact kD rfl|exact kX rfl) only [smZ, tyA, simprocAttr, bl, i64, smS, ha, hb, hi]
theorem kum23 {p k l : Int} {a b : Nat} (hp : 0 ≤ p ∧ p ≤ 255) (hk : 0 ≤ k ∧ k ≤ 255) (hl : 0 ≤ l ∧ l ≤ 255) (ha : k % 30 = a) (hb : l % 30 = b) (hi : p % 7 = 6) (hF : KumFacts a b) : PureGood Tryz.prog 4 [.lit (.int .u8 p), .lit (.int .u8 k), .lit (.int .u8 l)] (.lit (.bool true)) := by
  have h0 := awake_good
  obtain ⟨n1, n2, q1, q2, o1, o2, s1, s2, step⟩ := hF
  obtain ⟨z, d1, d2, h⟩ := step 23 22 (by decide) (by simp) (by decide) (by decide)
  clear step
  simp only [encI_sm, encQ_sm, i64] at *
  generalize bq (2 + 2 * a) / ((2 + 2 * (a : Int) : Int) : Rat) = c1 at *
  generalize bq (2 + 2 * b) / ((2 + 2 * (b : Int) : Int) : Rat) = c2 at *
  generalize bq (2 + 2 * a) = b1 at *
  generalize bq (2 + 2 * b) = b2 at *
  generalize kumZ a b = zz at *
  by_cases t1 : (2 + 2 * (a : Int)) % 22 = 0
  · refine good_of_lwp mix Tryz.func4 rfl (by decide) (nt := 131) rfl (rs := [.tmp 6]) rfl (Nat.le_of_ble_eq_true rfl) ?_
    (repeat (first|apply zO (by decide +kernel)|apply zP (by decide +kernel)|apply zA|apply zB|apply zF|apply zG|apply zH|apply zI|apply zJ|apply zK|apply zL (by decide)|apply zM|apply zN (by decide)|apply zD|apply zC|apply zE|((first|apply l_go rfl|apply c_dec); (case hs => (simp (disch := first|omega|exact kD rfl|exact kX rfl) only [smZ, tyA, simprocAttr, bl, i64, smS, ha, hb, hi]; exact rfl)); first|refine c_bt ?_|refine c_bf ?_|show lrun _ _ _ _ _ _ _ _ _)|(apply l_call rfl (by decide) rfl; (case hc => (simp (disch := first|omega|exact kD rfl|exact kX rfl) only [smZ, tyA, simprocAttr, bl, i64, smS, ha, hb, hi]; exact rfl)); (case hg => assumption))))
    ((first | apply g_ret | apply g_end); case hres => (simp only [resL, rOs, rO, Option.map_some]; simp (disch := first|omega|exact kD rfl|exact kX rfl) only [smZ, tyA, simprocAttr, bl, i64, smS, ha, hb, hi]; exact rfl))
    simp (disch := first|omega|exact kD rfl|exact kX rfl) only [smZ, tyA, simprocAttr, bl, i64, smS, ha, hb, hi]
  by_cases t2 : (2 + 2 * (a : Int) - (2 + 2 * (b : Int))).tmod 22 = 0
  · obtain ⟨g1, g2⟩ := (h.resolve_left t1).resolve_left (fun e => e t2)
    clear h
    refine good_of_lwp mix Tryz.func4 rfl (by decide) (nt := 131) rfl (rs := [.tmp 6]) rfl (Nat.le_of_ble_eq_true rfl) ?_
    (repeat (first|apply zO (by decide +kernel)|apply zP (by decide +kernel)|apply zA|apply zB|apply zF|apply zG|apply zH|apply zI|apply zJ|apply zK|apply zL (by decide)|apply zM|apply zN (by decide)|apply zD|apply zC|apply zE|((first|apply l_go rfl|apply c_dec); (case hs => (simp (disch := first|omega|exact kD rfl|exact kX rfl) only [smZ, tyA, simprocAttr, bl, i64, smS, ha, hb, hi]; exact rfl)); first|refine c_bt ?_|refine c_bf ?_|show lrun _ _ _ _ _ _ _ _ _)|(apply l_call rfl (by decide) rfl; (case hc => (simp (disch := first|omega|exact kD rfl|exact kX rfl) only [smZ, tyA, simprocAttr, bl, i64, smS, ha, hb, hi]; exact rfl)); (case hg => assumption))))
    ((first | apply g_ret | apply g_end); case hres => (simp only [resL, rOs, rO, Option.map_some]; simp (disch := first|omega|exact kD rfl|exact kX rfl) only [smZ, tyA, simprocAttr, bl, i64, smS, ha, hb, hi]; exact rfl))
    simp (disch := first|omega|exact kD rfl|exact kX rfl) only [smZ, tyA, simprocAttr, bl, i64, smS, ha, hb, hi]
  · refine good_of_lwp mix Tryz.func4 rfl (by decide) (nt := 131) rfl (rs := [.tmp 6]) rfl (Nat.le_of_ble_eq_true rfl) ?_
    (repeat (first|apply zO (by decide +kernel)|apply zP (by decide +kernel)|apply zA|apply zB|apply zF|apply zG|apply zH|apply zI|apply zJ|apply zK|apply zL (by decide)|apply zM|apply zN (by decide)|apply zD|apply zC|apply zE|((first|apply l_go rfl|apply c_dec); (case hs => (simp (disch := first|omega|exact kD rfl|exact kX rfl) only [smZ, tyA, simprocAttr, bl, i64, smS, ha, hb, hi]; exact rfl)); first|refine c_bt ?_|refine c_bf ?_|show lrun _ _ _ _ _ _ _ _ _)|(apply l_call rfl (by decide) rfl; (case hc => (simp (disch := first|omega|exact kD rfl|exact kX rfl) only [smZ, tyA, simprocAttr, bl, i64, smS, ha, hb, hi]; exact rfl)); (case hg => assumption))))
    ((first | apply g_ret | apply g_end); case hres => (simp only [resL, rOs, rO, Option.map_some]; simp (disch := first|omega|exact kD rfl|exact kX rfl) only [smZ, tyA, simprocAttr, bl, i64, smS, ha, hb, hi]; exact rfl))
    simp (disch := first|omega|exact kD rfl|exact kX rfl) only [smZ, tyA, simprocAttr, bl, i64, smS, ha, hb, hi]
theorem lawKummer_good (p k l : Int) (hp : 0 ≤ p ∧ p ≤ 255) (hk : 0 ≤ k ∧ k ≤ 255) (hl : 0 ≤ l ∧ l ≤ 255) : PureGood Tryz.prog 4 [.lit (.int .u8 p), .lit (.int .u8 k), .lit (.int .u8 l)] (.lit (.bool true)) := by
  obtain ⟨a, ha⟩ : ∃ a : Nat, k % 30 = a := ⟨(k % 30).toNat, by omega⟩
  obtain ⟨b, hb⟩ : ∃ b : Nat, l % 30 = b := ⟨(l % 30).toNat, by omega⟩
  have hF := kumPack a b (by omega) (by omega)
  have h7 : p % 7 = 0 ∨ p % 7 = 1 ∨ p % 7 = 2 ∨ p % 7 = 3 ∨ p % 7 = 4 ∨ p % 7 = 5 ∨ p % 7 = 6 := by omega
  rcases h7 with hi | hi | hi | hi | hi | hi | hi
  · exact kum5 hp hk hl ha hb hi hF
  · exact kum7 hp hk hl ha hb hi hF
  · exact kum11 hp hk hl ha hb hi hF
  · exact kum13 hp hk hl ha hb hi hF
  · exact kum17 hp hk hl ha hb hi hF
  · exact kum19 hp hk hl ha hb hi hF
  · exact kum23 hp hk hl ha hb hi hF
end Go.Proofs.YtmblfadpimfagaaGreatDoor
