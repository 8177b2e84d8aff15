/- Contracts of functions of the program, and what proves them (texts: D2 D1n D3). -/
import Derived.Test.YtmblfadpimfagaaGreatDoorZAO
set_option linter.all false
namespace Go.Proofs.YtmblfadpimfagaaGreatDoor
open Go Go.Lg Go.Num
set_option maxRecDepth 100000
set_option maxHeartbeats 4000000
attribute [local irreducible] Go.Lg.lrun Go.Lg.lwp Go.Lg.exThen Go.Lg.exBlk Go.Lg.keep Go.Lg.goodPost sg mg bq
theorem frac_good (n d : Int) (hn : -4294967296 ≤ n ∧ n ≤ 4294967296) (hd : 1 ≤ d ∧ d ≤ 4294967296) : PureGood Tryz.prog 26 [i64 n, i64 d] (encQ (Rat.divInt n d)) := by
  have hp := divInt_parts (n := n) (d := d) (by omega)
  rw [if_neg (by omega)] at hp
  have hg0 : Int.gcd n d ≠ 0 := fun e => by have := (Int.gcd_eq_zero_iff.1 e).2; omega
  have hgn : ((Int.gcd n d : Nat) : Int) ∣ n := Int.gcd_dvd_left ..
  have hG : Int.gcd n d = Nat.gcd n.natAbs d.natAbs := rfl
  have hdn : (d.natAbs : Int) = d := by omega
  rw [encQ_sm, hp.1, hp.2, hdn]
  clear hp
  have hq1 := Int.natAbs_ediv_le_natAbs n ((Int.gcd n d : Nat) : Int)
  have hq2 := Int.natAbs_ediv_le_natAbs d ((Int.gcd n d : Nat) : Int)
  have z1 := baseZ_good (n / ((Int.gcd n d : Nat) : Int)) (by omega)
  have z2 := baseZ_good (d / ((Int.gcd n d : Nat) : Int)) (by omega)
  have ht : n.tdiv ((Int.gcd n d : Nat) : Int) = n / ((Int.gcd n d : Nat) : Int) := Int.tdiv_eq_ediv_of_dvd hgn
  rw [hG] at hgn hq1 hq2 z1 z2 ht ⊢
  rw [hG] at hg0
  obtain ⟨m, hm⟩ : ∃ m : Nat, d = m := ⟨d.toNat, by omega⟩
  subst hm
  rw [Int.natAbs_natCast] at hq2 z1 z2 ht hg0 ⊢
  have hmx : (if 0 - n > n then 0 - n else n) = (n.natAbs : Int) := by split <;> omega
  rw [Int.natAbs_natCast] at hgn hq1 hG
  generalize hgg : Nat.gcd n.natAbs m = g at *
  simp only [encI_sm, i64] at *
  refine good_of_lwp mix Tryz.func26 rfl (by decide) (nt := 33) rfl (rs := [.cell 4 27]) rfl (Nat.le_of_ble_eq_true rfl) ?_
  (repeat (first|apply zO (by decide +kernel)|apply zP (by decide +kernel)|((fail_if_success refine is_bl ?_); apply zA)|apply zB|apply zF|apply zG|apply zH|apply zI|apply zJ|apply zK|apply zL (by decide)|apply zM|apply zN (by decide)|apply zD|apply zC|apply zE|((first|apply l_go rfl|apply c_dec); (case hs => (simp (disch := first|omega|exact kD rfl|exact kX rfl) only [smZ, tyA, simprocAttr, bl, i64, smS, hmx]; exact rfl)); first|refine c_bt ?_|refine c_bf ?_|show lrun _ _ _ _ _ _ _ _ _)))
  apply w_seq
  apply w_block
  refine w_loop (α := {p : Nat × Nat // Nat.gcd p.1 p.2 = g ∧ p.1 ≤ 4294967296 ∧ p.2 ≤ 4294967296}) (fun p => st 33 (lk [(0, i64 n), (1, i64 m), (4, .ptr 0 0), (5, i64 p.1.1), (6, i64 p.1.2)]) (lkH [(0, ⟨27, [bl false, .lit (.slice none 0 0), bl false, .lit (.slice none 0 0)], false⟩)]) 1) (fun p => p.1.2) ⟨(n.natAbs, m), hgg, by simp only; omega, by simp only; omega⟩ ?_ ?_
  · (refine Sub.heapL [0] rfl (by decide) ?_ (by simp only [List.forall_mem_cons, List.not_mem_nil, false_imp_iff, implies_true, and_true]; decide) ?_ ?_; all_goals (first | (simp only [plainC, smF, dg, renL, renLs, simprocAttr, bl, i64, smS]; done) | (simp only [smF, dg, renL, renLs, simprocAttr, bl, i64, smS]) | skip))
  · rintro ⟨⟨x, y⟩, hg, hx, hy⟩
    simp only at hg hx hy
    simp only [st]
    by_cases hy0 : y = 0
    · subst hy0
      rw [Nat.gcd_zero_right] at hg
      subst hg
      have hx0 : ¬ (x : Int) = 0 := by omega
      (repeat (first|apply zO (by decide +kernel)|apply zP (by decide +kernel)|apply zA|apply zB|apply zF|apply zG|apply zH|apply zI|apply zJ|apply zK|apply zL (by decide)|apply zM|apply zN (by decide)|apply zD|apply zC|apply zE|((first|apply l_go rfl|apply c_dec); (case hs => (simp (disch := first|omega|exact kD rfl|exact kX rfl) only [smZ, tyA, simprocAttr, bl, i64, smS, ht]; exact rfl)); first|refine c_bt ?_|refine c_bf ?_|show lrun _ _ _ _ _ _ _ _ _)|(apply l_call rfl (by decide) rfl; (case hc => (simp (disch := first|omega|exact kD rfl|exact kX rfl) only [smZ, tyA, simprocAttr, bl, i64, smS, ht]; exact rfl)); (case hg => assumption))))
      ((first | apply g_ret | apply g_end); case hres => (simp only [resL, rOs, rO, Option.map_some]; simp (disch := first|omega|exact kD rfl|exact kX rfl) only [smZ, tyA, simprocAttr, bl, i64, smS, ht]; exact rfl))
      simp (disch := first|omega|exact kD rfl|exact kX rfl) only [smZ, tyA, simprocAttr, bl, i64, smS, ht]
    · have hmod : x % y < y := Nat.mod_lt _ (by omega)
      have hy1 : ¬ (y : Int) = 0 := by omega
      (repeat (first|apply zO (by decide +kernel)|apply zP (by decide +kernel)|apply zA|apply zB|apply zF|apply zG|apply zH|apply zI|apply zJ|apply zK|apply zL (by decide)|apply zM|apply zN (by decide)|apply zD|apply zC|apply zE|((first|apply l_go rfl|apply c_dec); (case hs => (simp (disch := first|omega|exact kD rfl|exact kX rfl) only [smZ, tyA, simprocAttr, bl, i64, smS]; exact rfl)); first|refine c_bt ?_|refine c_bf ?_|show lrun _ _ _ _ _ _ _ _ _)|(apply l_call rfl (by decide) rfl; (case hc => (simp (disch := first|omega|exact kD rfl|exact kX rfl) only [smZ, tyA, simprocAttr, bl, i64, smS]; exact rfl)); (case hg => assumption))))
      refine ⟨⟨(y, x % y), ?_, hy, by simp only; omega⟩, ?_, hmod⟩
      · simp only
        rw [← hg, Nat.gcd_comm x y, Nat.gcd_rec y x, Nat.gcd_comm]
      · (refine Sub.heapL [0] rfl (by decide) ?_ (by simp only [List.forall_mem_cons, List.not_mem_nil, false_imp_iff, implies_true, and_true]; decide) ?_ ?_; all_goals (first | (simp only [plainC, smF, dg, renL, renLs, simprocAttr, bl, i64, smS]; done) | (simp only [smF, dg, renL, renLs, simprocAttr, bl, i64, smS]) | skip))
end Go.Proofs.YtmblfadpimfagaaGreatDoor

namespace Go.Num
theorem lq_div (a b : Rat) (hb : b ≠ 0) : lq (a / b) ≤ lq a + lq b := by
  rw [div_divInt]
  have hn : b.num ≠ 0 := fun e => hb (by rw [← Rat.num_divInt_den b, e, Rat.zero_divInt])
  obtain ⟨h1, h2⟩ := lq_divInt (n := a.num * (b.den : Int)) (Int.mul_ne_zero (den_ne a) hn)
  have h4 := len_mul a.num (b.den : Int)
  have h6 := len_mul (a.den : Int) b.num
  unfold lq
  omega
theorem lq_sub (a b : Rat) : lq (a - b) ≤ lq a + lq b + lq a + lq b + 1 := by
  rw [Rat.sub_eq_add_neg]
  have := lq_add a (-b)
  rw [lq_neg] at this
  exact this
end Go.Num
namespace Go.Proofs.YtmblfadpimfagaaGreatDoor
open Go Go.Lg Go.Num
set_option maxRecDepth 100000
set_option maxHeartbeats 4000000
attribute [local irreducible] Go.Lg.lrun Go.Lg.lwp Go.Lg.exThen Go.Lg.exBlk Go.Lg.keep Go.Lg.goodPost sg mg bq
theorem num_in {m : Int} (h0 : 0 ≤ m) (h : m ≤ 60) : PureGood Tryz.prog 11 [i64 m] (.tup [encQ (bq m.toNat), i64 0]) := by
  have h1 := number_good m (by omega)
  rwa [encB, bqN, bqD, if_pos (by omega), if_pos (by omega), if_pos (by omega), ← encQ_sm] at h1
theorem lq_small {m : Int} (h0 : 0 ≤ m) (h : m ≤ 100000) : lq (m : Rat) ≤ 2 := by
  rw [lq_int]
  have := len_pow_lt (a := m) (e := 1) (by omega)
  omega
end Go.Proofs.YtmblfadpimfagaaGreatDoor

namespace Go.Proofs.YtmblfadpimfagaaGreatDoor
open Go Go.Lg Go.Num
set_option maxRecDepth 100000
set_option maxHeartbeats 4000000
/-- Primes, by trial. -/
def prB (p : Nat) : Bool := (List.range p).all fun d => Nat.ble d 1 || !(Nat.beq (p % d) 0)
noncomputable def prEv (p : Nat) : Bool := match ev 36 [i64 (p : Int)] with
  | some (.tup [.lit (.bool b), .lit (.int .i64 (.ofNat 0))]) => b == prB p
  | _ => false
theorem prEv_all : ((List.range 60).all fun j => prEv (j + 2)) = true := by kernel_rfl
theorem prime_good {p : Nat} (h0 : 2 ≤ p) (h : p ≤ 61) : PureGood Tryz.prog 36 [i64 p] (.tup [bl (prB p), i64 0]) := by
  have := List.all_eq_true.1 prEv_all (p - 2) (List.mem_range.2 (by omega))
  rw [show p - 2 + 2 = p by omega] at this
  unfold prEv at this
  split at this
  · rename_i b he
    rw [← (beq_iff_eq.1 this : b = prB p)]
    exact ev_good he
  · cases this
/-- The run of Staudt's statement: the fraction is small all along, and whole at the end. -/
def stC : Nat → Nat → Nat → Rat → Bool
  | 0, _, _, s => tiny s && decide (s.den = 1)
  | k + 1, n, p, s => tiny s && bif prB p && Nat.beq (n % (p - 1)) 0 then fQ (s + Rat.divInt 1 p) fun r => stC k n (p + 1) r else stC k n (p + 1) s
theorem stC_all : ((List.range 30).all fun h => stC (2 * h + 2) (2 * h + 2) 2 (bq (2 * h + 2))) = true := by decide +kernel
theorem stC_step {k n p : Nat} {s : Rat} (h : stC (k + 1) n p s = true) : tiny s = true ∧ if prB p = true ∧ n % (p - 1) = 0 then stC k n (p + 1) (s + Rat.divInt 1 p) = true else stC k n (p + 1) s = true := by
  rw [stC, Bool.and_eq_true] at h
  refine ⟨h.1, ?_⟩
  have h2 := h.2
  cases hb : prB p with
  | true =>
    cases hc : Nat.beq (n % (p - 1)) 0 with
    | true =>
      rw [if_pos ⟨rfl, Nat.eq_of_beq_eq_true hc⟩]
      rw [hb, hc, Bool.and_self, cond_true, fQ_eq] at h2
      exact h2
    | false =>
      rw [if_neg (fun e => by have := Nat.ne_of_beq_eq_false hc; exact this e.2)]
      rw [hb, hc, Bool.and_false, cond_false] at h2
      exact h2
  | false =>
    rw [if_neg (fun e => by cases e.1)]
    rw [hb, Bool.false_and, cond_false] at h2
    exact h2
attribute [local irreducible] Go.Lg.lrun Go.Lg.lwp Go.Lg.exThen Go.Lg.exBlk Go.Lg.keep Go.Lg.goodPost sg mg bq stC
theorem lawStaudt_good (n : Int) (h : -9223372036854775808 ≤ n ∧ n ≤ 9223372036854775807) : PureGood Tryz.prog 9 [i64 n] (.lit (.bool true)) := by
  have h0 := awake_good
  have h1 := number_good n h
  by_cases hr : 0 ≤ n ∧ n ≤ 60
  · rw [encB, bqN, bqD, if_pos hr, if_pos hr, if_pos hr, ← encQ_sm] at h1
    by_cases ht : n < 2
    · simp only [encQ_sm, i64] at *
      refine good_of_lwp mix Tryz.func9 rfl (by decide) (nt := 59) rfl (rs := [.tmp 2]) rfl (Nat.le_of_ble_eq_true rfl) ?_
      (repeat (first|apply zO (by decide +kernel)|apply zP (by decide +kernel)|apply zA|apply zB|apply zF|apply zG|apply zH|apply zI|apply zJ|apply zK|apply zL (by decide)|apply zM|apply zN (by decide)|apply zD|apply zC|apply zE|((first|apply l_go rfl|apply c_dec); (case hs => (simp (disch := first|omega|exact kD rfl|exact kX rfl) only [smZ, tyA, simprocAttr, bl, i64, smS]; exact rfl)); first|refine c_bt ?_|refine c_bf ?_|show lrun _ _ _ _ _ _ _ _ _)|(apply l_call rfl (by decide) rfl; (case hc => (simp (disch := first|omega|exact kD rfl|exact kX rfl) only [smZ, tyA, simprocAttr, bl, i64, smS]; exact rfl)); (case hg => assumption))))
      ((first | apply g_ret | apply g_end); case hres => (simp only [resL, rOs, rO, Option.map_some]; simp (disch := first|omega|exact kD rfl|exact kX rfl) only [smZ, tyA, simprocAttr, bl, i64, smS]; exact rfl))
      simp (disch := first|omega|exact kD rfl|exact kX rfl) only [smZ, tyA, simprocAttr, bl, i64, smS]
    · by_cases hodd : n % 2 = 1
      · simp only [encQ_sm, i64] at *
        refine good_of_lwp mix Tryz.func9 rfl (by decide) (nt := 59) rfl (rs := [.tmp 2]) rfl (Nat.le_of_ble_eq_true rfl) ?_
        (repeat (first|apply zO (by decide +kernel)|apply zP (by decide +kernel)|apply zA|apply zB|apply zF|apply zG|apply zH|apply zI|apply zJ|apply zK|apply zL (by decide)|apply zM|apply zN (by decide)|apply zD|apply zC|apply zE|((first|apply l_go rfl|apply c_dec); (case hs => (simp (disch := first|omega|exact kD rfl|exact kX rfl) only [smZ, tyA, simprocAttr, bl, i64, smS]; exact rfl)); first|refine c_bt ?_|refine c_bf ?_|show lrun _ _ _ _ _ _ _ _ _)|(apply l_call rfl (by decide) rfl; (case hc => (simp (disch := first|omega|exact kD rfl|exact kX rfl) only [smZ, tyA, simprocAttr, bl, i64, smS]; exact rfl)); (case hg => assumption))))
        ((first | apply g_ret | apply g_end); case hres => (simp only [resL, rOs, rO, Option.map_some]; simp (disch := first|omega|exact kD rfl|exact kX rfl) only [smZ, tyA, simprocAttr, bl, i64, smS]; exact rfl))
        simp (disch := first|omega|exact kD rfl|exact kX rfl) only [smZ, tyA, simprocAttr, bl, i64, smS]
      · obtain ⟨m, hm⟩ : ∃ m : Nat, n = ((2 * m + 2 : Nat) : Int) := ⟨(n.toNat - 2) / 2, by omega⟩
        subst hm
        have hm30 : m < 30 := by omega
        have hc := List.all_eq_true.1 stC_all m (List.mem_range.2 hm30)
        rw [Int.toNat_natCast] at h1
        generalize hN : 2 * m + 2 = N at *
        have hev : (N : Int) % 2 = 0 := by omega
        generalize bq N = B at *
        simp only [encQ_sm, i64] at *
        refine good_of_lwp mix Tryz.func9 rfl (by decide) (nt := 59) rfl (rs := [.tmp 2]) rfl (Nat.le_of_ble_eq_true rfl) ?_
        (repeat (first|apply zO (by decide +kernel)|apply zP (by decide +kernel)|apply zA|apply zB|apply zF|apply zG|apply zH|apply zI|apply zJ|apply zK|apply zL (by decide)|apply zM|apply zN (by decide)|apply zD|apply zC|apply zE|((first|apply l_go rfl|apply c_dec); (case hs => (simp (disch := first|omega|exact kD rfl|exact kX rfl) only [smZ, tyA, simprocAttr, bl, i64, smS]; exact rfl)); first|refine c_bt ?_|refine c_bf ?_|show lrun _ _ _ _ _ _ _ _ _)|(apply l_call rfl (by decide) rfl; (case hc => (simp (disch := first|omega|exact kD rfl|exact kX rfl) only [smZ, tyA, simprocAttr, bl, i64, smS]; exact rfl)); (case hg => assumption))))
        refine w_loop (α := {x : Nat × Nat × Rat // 2 ≤ x.2.1 ∧ x.1 + x.2.1 = N + 2 ∧ stC x.1 N x.2.1 x.2.2 = true}) (fun x => st 59 (lk [(0, i64 N), (2, bl false), (3, .ptr 0 0), (5, i64 x.1.2.1)]) (lkH [(0, ⟨27, [sg (x.1.2.2).num, mg (x.1.2.2).num, sg ((x.1.2.2).den : Int), mg ((x.1.2.2).den : Int)], false⟩)]) 1) (fun x => x.1.1) ⟨(N, 2, B), Nat.le_refl _, rfl, hc⟩ ?_ ?_
        · (refine Sub.heapL [8] rfl (by decide) ?_ (by simp only [List.forall_mem_cons, List.not_mem_nil, false_imp_iff, implies_true, and_true]; decide) ?_ ?_; all_goals (first | (simp only [plainC, smF, dg, renL, renLs, simprocAttr, bl, i64, smS]; done) | (simp only [smF, dg, renL, renLs, simprocAttr, bl, i64, smS]) | skip))
        · rintro ⟨⟨k, p, s⟩, hp2, hkp, hs⟩
          simp only at hp2 hkp hs
          simp only [st]
          rcases k with _ | k
          · rw [show stC 0 N p s = (tiny s && decide (s.den = 1)) by unfold stC; rfl, Bool.and_eq_true, decide_eq_true_eq] at hs
            have hls := tiny_lq hs.1
            have hi := integer_good s (by omega)
            rw [if_pos hs.2, show decide (s.den = 1) = true by simpa using hs.2] at hi
            simp only [encQ_sm, encI_sm, bl] at hi
            (repeat (first|apply zO (by decide +kernel)|apply zP (by decide +kernel)|apply zA|apply zB|apply zF|apply zG|apply zH|apply zI|apply zJ|apply zK|apply zL (by decide)|apply zM|apply zN (by decide)|apply zD|apply zC|apply zE|((first|apply l_go rfl|apply c_dec); (case hs => (simp (disch := first|omega|exact kD rfl|exact kX rfl) only [smZ, tyA, simprocAttr, bl, i64, smS]; exact rfl)); first|refine c_bt ?_|refine c_bf ?_|show lrun _ _ _ _ _ _ _ _ _)|(apply l_call rfl (by decide) rfl; (case hc => (simp (disch := first|omega|exact kD rfl|exact kX rfl) only [smZ, tyA, simprocAttr, bl, i64, smS]; exact rfl)); (case hg => assumption))))
            ((first | apply g_ret | apply g_end); case hres => (simp only [resL, rOs, rO, Option.map_some]; simp (disch := first|omega|exact kD rfl|exact kX rfl) only [smZ, tyA, simprocAttr, bl, i64, smS]; exact rfl))
            simp (disch := first|omega|exact kD rfl|exact kX rfl) only [smZ, tyA, simprocAttr, bl, i64, smS]
          · obtain ⟨hs1, hs2⟩ := stC_step hs
            have hls := tiny_lq hs1
            have hpr := prime_good hp2 (by omega)
            have hmod : (N : Int) % ((p : Int) - 1) = ((N % (p - 1) : Nat) : Int) := by
              rw [show (p : Int) - 1 = ((p - 1 : Nat) : Int) by omega]
              rfl
            cases hb : prB p with
            | true =>
              rw [hb] at hpr hs2
              by_cases hz : N % (p - 1) = 0
              · rw [if_pos ⟨rfl, hz⟩] at hs2
                have hfr := frac_good 1 p (by omega) (by omega)
                have hlf := lq_divInt (n := 1) (d := (p : Int)) (by omega)
                have hl1 : len 1 ≤ 1 := by decide +kernel
                have hl2 : len (p : Int) ≤ 1 := len_pow_lt (e := 1) (by omega)
                have had := qadd_good s (Rat.divInt 1 p) (by omega) (by unfold lq; omega)
                rw [hz] at hmod
                generalize s + Rat.divInt 1 p = s' at *
                generalize Rat.divInt 1 p = f at *
                simp only [encQ_sm, i64, bl] at *
                (repeat (first|apply zO (by decide +kernel)|apply zP (by decide +kernel)|apply zA|apply zB|apply zF|apply zG|apply zH|apply zI|apply zJ|apply zK|apply zL (by decide)|apply zM|apply zN (by decide)|apply zD|apply zC|apply zE|((first|apply l_go rfl|apply c_dec); (case hs => (simp (disch := first|omega|exact kD rfl|exact kX rfl) only [smZ, tyA, simprocAttr, bl, i64, smS, hmod]; exact rfl)); first|refine c_bt ?_|refine c_bf ?_|show lrun _ _ _ _ _ _ _ _ _)|(apply l_call rfl (by decide) rfl; (case hc => (simp (disch := first|omega|exact kD rfl|exact kX rfl) only [smZ, tyA, simprocAttr, bl, i64, smS, hmod]; exact rfl)); (case hg => assumption))))
                refine ⟨⟨(k, p + 1, s'), by simp only; omega, by simp only; omega, hs2⟩, ?_, Nat.lt_succ_self k⟩
                (refine Sub.heapL [0] rfl (by decide) ?_ (by simp only [List.forall_mem_cons, List.not_mem_nil, false_imp_iff, implies_true, and_true]; decide) ?_ ?_; all_goals (first | (simp only [plainC, smF, dg, renL, renLs, simprocAttr, bl, i64, smS]; done) | (simp only [smF, dg, renL, renLs, simprocAttr, bl, i64, smS]) | skip))
              · rw [if_neg (fun e => hz e.2)] at hs2
                have hz' : ¬ ((N % (p - 1) : Nat) : Int) = 0 := by omega
                generalize N % (p - 1) = u at *
                simp only [i64, bl] at *
                (repeat (first|apply zO (by decide +kernel)|apply zP (by decide +kernel)|apply zA|apply zB|apply zF|apply zG|apply zH|apply zI|apply zJ|apply zK|apply zL (by decide)|apply zM|apply zN (by decide)|apply zD|apply zC|apply zE|((first|apply l_go rfl|apply c_dec); (case hs => (simp (disch := first|omega|exact kD rfl|exact kX rfl) only [smZ, tyA, simprocAttr, bl, i64, smS, hmod]; exact rfl)); first|refine c_bt ?_|refine c_bf ?_|show lrun _ _ _ _ _ _ _ _ _)|(apply l_call rfl (by decide) rfl; (case hc => (simp (disch := first|omega|exact kD rfl|exact kX rfl) only [smZ, tyA, simprocAttr, bl, i64, smS, hmod]; exact rfl)); (case hg => assumption))))
                refine ⟨⟨(k, p + 1, s), by simp only; omega, by simp only; omega, hs2⟩, ?_, Nat.lt_succ_self k⟩
                (refine Sub.heapL [0] rfl (by decide) ?_ (by simp only [List.forall_mem_cons, List.not_mem_nil, false_imp_iff, implies_true, and_true]; decide) ?_ ?_; all_goals (first | (simp only [plainC, smF, dg, renL, renLs, simprocAttr, bl, i64, smS]; done) | (simp only [smF, dg, renL, renLs, simprocAttr, bl, i64, smS]) | skip))
            | false =>
              rw [hb] at hpr hs2
              rw [if_neg (fun e => by cases e.1)] at hs2
              simp only [i64, bl] at *
              (repeat (first|apply zO (by decide +kernel)|apply zP (by decide +kernel)|apply zA|apply zB|apply zF|apply zG|apply zH|apply zI|apply zJ|apply zK|apply zL (by decide)|apply zM|apply zN (by decide)|apply zD|apply zC|apply zE|((first|apply l_go rfl|apply c_dec); (case hs => (simp (disch := first|omega|exact kD rfl|exact kX rfl) only [smZ, tyA, simprocAttr, bl, i64, smS]; exact rfl)); first|refine c_bt ?_|refine c_bf ?_|show lrun _ _ _ _ _ _ _ _ _)|(apply l_call rfl (by decide) rfl; (case hc => (simp (disch := first|omega|exact kD rfl|exact kX rfl) only [smZ, tyA, simprocAttr, bl, i64, smS]; exact rfl)); (case hg => assumption))))
              refine ⟨⟨(k, p + 1, s), by simp only; omega, by simp only; omega, hs2⟩, ?_, Nat.lt_succ_self k⟩
              (refine Sub.heapL [0] rfl (by decide) ?_ (by simp only [List.forall_mem_cons, List.not_mem_nil, false_imp_iff, implies_true, and_true]; decide) ?_ ?_; all_goals (first | (simp only [plainC, smF, dg, renL, renLs, simprocAttr, bl, i64, smS]; done) | (simp only [smF, dg, renL, renLs, simprocAttr, bl, i64, smS]) | skip))
  · rw [encB, bqN, bqD, if_neg hr, if_neg hr, if_neg hr] at h1
    simp only [i64] at *
    refine good_of_lwp mix Tryz.func9 rfl (by decide) (nt := 59) rfl (rs := [.tmp 2]) rfl (Nat.le_of_ble_eq_true rfl) ?_
    (repeat (first|apply zO (by decide +kernel)|apply zP (by decide +kernel)|apply zA|apply zB|apply zF|apply zG|apply zH|apply zI|apply zJ|apply zK|apply zL (by decide)|apply zM|apply zN (by decide)|apply zD|apply zC|apply zE|((first|apply l_go rfl|apply c_dec); (case hs => (simp (disch := first|omega|exact kD rfl|exact kX rfl) only [smZ, tyA, simprocAttr, bl, i64, smS]; exact rfl)); first|refine c_bt ?_|refine c_bf ?_|show lrun _ _ _ _ _ _ _ _ _)|(apply l_call rfl (by decide) rfl; (case hc => (simp (disch := first|omega|exact kD rfl|exact kX rfl) only [smZ, tyA, simprocAttr, bl, i64, smS]; exact rfl)); (case hg => assumption))))
    ((first | apply g_ret | apply g_end); case hres => (simp only [resL, rOs, rO, Option.map_some]; simp (disch := first|omega|exact kD rfl|exact kX rfl) only [smZ, tyA, simprocAttr, bl, i64, smS]; exact rfl))
    simp (disch := first|omega|exact kD rfl|exact kX rfl) only [smZ, tyA, simprocAttr, bl, i64, smS]
end Go.Proofs.YtmblfadpimfagaaGreatDoor
