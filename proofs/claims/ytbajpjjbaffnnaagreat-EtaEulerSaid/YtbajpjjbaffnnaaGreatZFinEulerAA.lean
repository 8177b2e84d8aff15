/- Contracts of functions of the program, and what proves them (texts: XE). -/
import Derived.Test.YtbajpjjbaffnnaaGreatZBD
import Derived.Test.YtbajpjjbaffnnaaGreatZBR
import Derived.Test.YtbajpjjbaffnnaaGreatZBV
import Derived.Test.YtbajpjjbaffnnaaGreatZBY
set_option linter.all false
namespace Go.Proofs.YtbajpjjbaffnnaaGreat
open Go Go.Lg Go.Num
set_option maxRecDepth 100000
set_option maxHeartbeats 8000000
attribute [local irreducible] Go.Lg.lrun Go.Lg.lwp Go.Lg.exThen Go.Lg.exBlk Go.Lg.keep Go.Lg.goodPost sg mg sS qs sv svM spM oc mC dc psum etaM etaK etaC
theorem ecA : ec xsA = [.lit (.int .i64 0), .lit (.int .i64 0), .lit (.int .i64 0), .lit (.int .i64 0), .lit (.int .i64 0), .lit (.int .i64 0), .lit (.int .i64 0), .lit (.int .i64 1)] := rfl
theorem ecB : ec xsB = [.lit (.int .i64 0), .lit (.int .i64 0), .lit (.int .i64 0), .lit (.int .i64 3)] := rfl
attribute [local irreducible] ec
/-- The coefficient of q^k of a series from f on. -/
def cf (f : Nat) (l : List Rat) (k : Nat) : Rat := if k < f then 0 else l.getD (k - f) 0
structure SerOk (prec : Nat) (g : Nat → Int) (f : Nat) (l : List Rat) : Prop where
  le : f + l.length = prec
  cf : ∀ k, k < prec → cf f l k = ((g k : Int) : Rat)
theorem eulA (prec : Nat) (hp : prec ≤ 500) : ∃ (f : Nat) (l : List Rat), SerOk prec (xF 61) f l ∧ PureGood Tryz.prog 15 [.agg [i64 24, .sl 8 (ec xsA)], i64 prec] (.tup [.agg [i64 f, .sl l.length (qc l)], i64 0]) := by
  skip
  have g0 := check_good 24 xsA (by omega) (by decide)
  rw [errA] at g0
  by_cases h : prec ≤ 1
  · refine ⟨prec, [], ⟨by simp, fun k hk => ?_⟩, ?_⟩
    · unfold cf
      rw [if_pos hk]
      obtain rfl : k = 0 := by omega
      rw [xF_0]
      rfl
    · have g1 := sums_good okA
      rw [lowA, show ((24 : Nat) : Int) = 24 from rfl] at g1
      generalize psum (exS xsA) (xsA).length = s0 at *
      generalize psum (exH 24 xsA) (xsA).length = s2 at *
      have hq : qc ([] : List Rat) = [] := rfl
      have hl : ([] : List Rat).length = 0 := rfl
      rw [hq, hl]
      simp only [i64] at *
      refine good_of_lwp mix Tryz.func15 rfl (by decide) (nt := 106) rfl (rs := [.cell 4 31, .tmp 5]) rfl (Nat.le_of_ble_eq_true rfl) ?_
      (repeat (first|apply zO (by decide +kernel)|apply zP (by decide +kernel)|apply zA|apply zB|apply zF|apply zG|apply zH|apply zI|apply zJ|apply zK|apply zL (by decide)|apply zM|apply zN (by decide)|apply zD|apply zC|apply zE|((first|apply l_go rfl|apply c_dec); (case hs => (simp (disch := first|omega|exact kD rfl|exact kX rfl) only [smZ, tyA, simprocAttr, bl, i64, smT, smE]; exact rfl)); first|refine c_bt ?_|refine c_bf ?_|show lrun _ _ _ _ _ _ _ _ _)|(apply l_call rfl (by decide) rfl; (case hc => (simp (disch := first|omega|exact kD rfl|exact kX rfl) only [smZ, tyA, simprocAttr, bl, i64, smT, smE]; exact rfl)); (case hg => assumption))))
      ((first | apply g_ret | apply g_end); case hres => (simp only [resL, rOs, rO, Option.map_some]; simp (disch := first|omega|exact kD rfl|exact kX rfl) only [smZ, tyA, simprocAttr, bl, i64, smT, smE]; exact rfl))
      simp (disch := first|omega|exact kD rfl|exact kX rfl) only [smZ, tyA, simprocAttr, bl, i64, smT, smE]
  · obtain ⟨N, hN⟩ : ∃ N : Nat, prec = N + 2 := ⟨prec - 2, by omega⟩
    subst hN
    have P := prodA (N := N) (by omega)
    have ge := expand_in okA g0 ((N + 2 : Nat) : Int) (by omega) 1 (by unfold lowS; rw [lowA]; rfl) (by omega) N (by omega) P
    refine ⟨1, aP (fun q => ((xF 61 (q + 1) : Int) : Rat)) (N + 1), ⟨by rw [aP_len]; omega, fun k hk => ?_⟩, ?_⟩
    · unfold cf
      by_cases h0 : k < 1
      · obtain rfl : k = 0 := by omega
        rw [if_pos (by omega), xF_0]
        rfl
      · rw [if_neg h0, aP_get (by omega), show k - 1 + 1 = k by omega]
    · rw [aP_len]
      exact ge
theorem eulB (prec : Nat) (hp : prec ≤ 500) : ∃ (f : Nat) (l : List Rat), SerOk prec (yF 61) f l ∧ PureGood Tryz.prog 15 [.agg [i64 8, .sl 4 (ec xsB)], i64 prec] (.tup [.agg [i64 f, .sl l.length (qc l)], i64 0]) := by
  skip
  have g0 := check_good 8 xsB (by omega) (by decide)
  rw [errB] at g0
  by_cases h : prec ≤ 1
  · refine ⟨prec, [], ⟨by simp, fun k hk => ?_⟩, ?_⟩
    · unfold cf
      rw [if_pos hk]
      obtain rfl : k = 0 := by omega
      rw [yF_0]
      rfl
    · have g1 := sums_good okB
      rw [lowB, show ((8 : Nat) : Int) = 8 from rfl] at g1
      generalize psum (exS xsB) (xsB).length = s0 at *
      generalize psum (exH 8 xsB) (xsB).length = s2 at *
      have hq : qc ([] : List Rat) = [] := rfl
      have hl : ([] : List Rat).length = 0 := rfl
      rw [hq, hl]
      simp only [i64] at *
      refine good_of_lwp mix Tryz.func15 rfl (by decide) (nt := 106) rfl (rs := [.cell 4 31, .tmp 5]) rfl (Nat.le_of_ble_eq_true rfl) ?_
      (repeat (first|apply zO (by decide +kernel)|apply zP (by decide +kernel)|apply zA|apply zB|apply zF|apply zG|apply zH|apply zI|apply zJ|apply zK|apply zL (by decide)|apply zM|apply zN (by decide)|apply zD|apply zC|apply zE|((first|apply l_go rfl|apply c_dec); (case hs => (simp (disch := first|omega|exact kD rfl|exact kX rfl) only [smZ, tyA, simprocAttr, bl, i64, smT, smE]; exact rfl)); first|refine c_bt ?_|refine c_bf ?_|show lrun _ _ _ _ _ _ _ _ _)|(apply l_call rfl (by decide) rfl; (case hc => (simp (disch := first|omega|exact kD rfl|exact kX rfl) only [smZ, tyA, simprocAttr, bl, i64, smT, smE]; exact rfl)); (case hg => assumption))))
      ((first | apply g_ret | apply g_end); case hres => (simp only [resL, rOs, rO, Option.map_some]; simp (disch := first|omega|exact kD rfl|exact kX rfl) only [smZ, tyA, simprocAttr, bl, i64, smT, smE]; exact rfl))
      simp (disch := first|omega|exact kD rfl|exact kX rfl) only [smZ, tyA, simprocAttr, bl, i64, smT, smE]
  · obtain ⟨N, hN⟩ : ∃ N : Nat, prec = N + 2 := ⟨prec - 2, by omega⟩
    subst hN
    have P := prodB (N := N) (by omega)
    have ge := expand_in okB g0 ((N + 2 : Nat) : Int) (by omega) 1 (by unfold lowS; rw [lowB]; rfl) (by omega) N (by omega) P
    refine ⟨1, aP (fun q => ((yF 61 (q + 1) : Int) : Rat)) (N + 1), ⟨by rw [aP_len]; omega, fun k hk => ?_⟩, ?_⟩
    · unfold cf
      by_cases h0 : k < 1
      · obtain rfl : k = 0 := by omega
        rw [if_pos (by omega), yF_0]
        rfl
      · rw [if_neg h0, aP_get (by omega), show k - 1 + 1 = k by omega]
    · rw [aP_len]
      exact ge
theorem rPrec_good (f n : Nat) (cs : List LV) (hb : f ≤ 1000 ∧ n ≤ 1000) : PureGood Tryz.prog 18 [.agg [i64 f, .sl n cs]] (i64 (f + n : Nat)) := by
  have e : (f : Int) + (n : Int) = ((f + n : Nat) : Int) := by simp
  simp only [i64] at *
  refine good_of_lwp mix Tryz.func18 rfl (by decide) (nt := 9) rfl (rs := [.tmp 2]) rfl (Nat.le_of_ble_eq_true rfl) ?_
  (repeat (first|apply zO (by decide +kernel)|apply zP (by decide +kernel)|apply zA|apply zB|apply zF|apply zG|apply zH|apply zI|apply zJ|apply zK|apply zL (by decide)|apply zM|apply zN (by decide)|apply zD|apply zC|apply zE|((first|apply l_go rfl|apply c_dec); (case hs => (simp (disch := first|omega|exact kD rfl|exact kX rfl) only [smZ, tyA, simprocAttr, bl, i64, smT, smE, e]; exact rfl)); first|refine c_bt ?_|refine c_bf ?_|show lrun _ _ _ _ _ _ _ _ _)|(apply l_call rfl (by decide) rfl; (case hc => (simp (disch := first|omega|exact kD rfl|exact kX rfl) only [smZ, tyA, simprocAttr, bl, i64, smT, smE, e]; exact rfl)); (case hg => assumption))))
  ((first | apply g_ret | apply g_end); case hres => (simp only [resL, rOs, rO, Option.map_some]; simp (disch := first|omega|exact kD rfl|exact kX rfl) only [smZ, tyA, simprocAttr, bl, i64, smT, smE, e]; exact rfl))
  simp (disch := first|omega|exact kD rfl|exact kX rfl) only [smZ, tyA, simprocAttr, bl, i64, smT, smE, e]
theorem rCoef_good (f : Nat) (l : List Rat) (k : Nat) (hf : f ≤ 1000) (hk : k < f + l.length) (hl : l.length ≤ 1000) (hb : lq (cf f l k) ≤ 1000) : PureGood Tryz.prog 21 [.agg [i64 f, .sl l.length (qc l)], i64 k] (encQ (cf f l k)) := by
  unfold cf at hb ⊢
  by_cases h : k < f
  · rw [if_pos h]
    have q0 : PureGood Tryz.prog 22 [i64 0] (encQ 0) := baseQ_good 0 (by omega)
    simp only [encQ_sm, i64] at *
    refine good_of_lwp mix Tryz.func21 rfl (by decide) (nt := 29) rfl (rs := [.cell 4 46]) rfl (Nat.le_of_ble_eq_true rfl) ?_
    (repeat (first|apply zO (by decide +kernel)|apply zP (by decide +kernel)|apply zA|apply zB|apply zF|apply zG|apply zH|apply zI|apply zJ|apply zK|apply zL (by decide)|apply zM|apply zN (by decide)|apply zD|apply zC|apply zE|((first|apply l_go rfl|apply c_dec); (case hs => (simp (disch := first|omega|exact kD rfl|exact kX rfl) only [smZ, tyA, simprocAttr, bl, i64, smT, smE]; exact rfl)); first|refine c_bt ?_|refine c_bf ?_|show lrun _ _ _ _ _ _ _ _ _)|(apply l_call rfl (by decide) rfl; (case hc => (simp (disch := first|omega|exact kD rfl|exact kX rfl) only [smZ, tyA, simprocAttr, bl, i64, smT, smE]; exact rfl)); (case hg => assumption))))
    ((first | apply g_ret | apply g_end); case hres => (simp only [resL, rOs, rO, Option.map_some]; simp (disch := first|omega|exact kD rfl|exact kX rfl) only [smZ, tyA, simprocAttr, bl, i64, smT, smE]; exact rfl))
    simp (disch := first|omega|exact kD rfl|exact kX rfl) only [smZ, tyA, simprocAttr, bl, i64, smT, smE]
  · rw [if_neg h] at hb ⊢
    have r1 := rqnorm_good (l.getD (k - f) 0) (by omega)
    have e0 : ((k : Int) - (f : Int)).toNat = k - f := by omega
    generalize hq : l.getD (k - f) 0 = q at *
    simp only [encQ_sm, i64] at *
    refine good_of_lwp mix Tryz.func21 rfl (by decide) (nt := 29) rfl (rs := [.cell 4 46]) rfl (Nat.le_of_ble_eq_true rfl) ?_
    (repeat (first|apply zO (by decide +kernel)|apply zP (by decide +kernel)|apply zA|apply zB|apply zF|apply zG|apply zH|apply zI|apply zJ|apply zK|apply zL (by decide)|apply zM|apply zN (by decide)|apply zD|apply zC|apply zE|((first|apply l_go rfl|apply c_dec); (case hs => (simp (disch := first|omega|exact kD rfl|exact kX rfl) only [smZ, tyA, simprocAttr, bl, i64, smT, smE, e0, hq]; exact rfl)); first|refine c_bt ?_|refine c_bf ?_|show lrun _ _ _ _ _ _ _ _ _)|(apply l_call rfl (by decide) rfl; (case hc => (simp (disch := first|omega|exact kD rfl|exact kX rfl) only [smZ, tyA, simprocAttr, bl, i64, smT, smE, e0, hq]; exact rfl)); (case hg => assumption))))
    ((first | apply g_ret | apply g_end); case hres => (simp only [resL, rOs, rO, Option.map_some]; simp (disch := first|omega|exact kD rfl|exact kX rfl) only [smZ, tyA, simprocAttr, bl, i64, smT, smE, e0, hq]; exact rfl))
    simp (disch := first|omega|exact kD rfl|exact kX rfl) only [smZ, tyA, simprocAttr, bl, i64, smT, smE, e0, hq]
theorem lawEuler_good (ha : PureGood Tryz.prog 13 [] (.lit (.bool true))) (p : Int) (hp : -9223372036854775808 ≤ p ∧ p ≤ 9223372036854775807) : PureGood Tryz.prog 4 [i64 p] (.lit (.bool true)) := by
  by_cases h1 : p < 0
  · simp only [i64] at *
    refine good_of_lwp mix Tryz.func4 rfl (by decide) (nt := 129) rfl (rs := [.tmp 2]) rfl (Nat.le_of_ble_eq_true rfl) ?_
    (repeat (first|apply zO (by decide +kernel)|apply zP (by decide +kernel)|apply zA|apply zB|apply zF|apply zG|apply zH|apply zI|apply zJ|apply zK|apply zL (by decide)|apply zM|apply zN (by decide)|apply zD|apply zC|apply zE|((first|apply l_go rfl|apply c_dec); (case hs => (simp (disch := first|omega|exact kD rfl|exact kX rfl) only [smZ, tyA, simprocAttr, bl, i64, smT, smE]; exact rfl)); first|refine c_bt ?_|refine c_bf ?_|show lrun _ _ _ _ _ _ _ _ _)|(apply l_call rfl (by decide) rfl; (case hc => (simp (disch := first|omega|exact kD rfl|exact kX rfl) only [smZ, tyA, simprocAttr, bl, i64, smT, smE]; exact rfl)); (case hg => assumption))))
    ((first | apply g_ret | apply g_end); case hres => (simp only [resL, rOs, rO, Option.map_some]; simp (disch := first|omega|exact kD rfl|exact kX rfl) only [smZ, tyA, simprocAttr, bl, i64, smT, smE]; exact rfl))
    simp (disch := first|omega|exact kD rfl|exact kX rfl) only [smZ, tyA, simprocAttr, bl, i64, smT, smE]
  · by_cases h2 : 500 < p
    · simp only [i64] at *
      refine good_of_lwp mix Tryz.func4 rfl (by decide) (nt := 129) rfl (rs := [.tmp 2]) rfl (Nat.le_of_ble_eq_true rfl) ?_
      (repeat (first|apply zO (by decide +kernel)|apply zP (by decide +kernel)|apply zA|apply zB|apply zF|apply zG|apply zH|apply zI|apply zJ|apply zK|apply zL (by decide)|apply zM|apply zN (by decide)|apply zD|apply zC|apply zE|((first|apply l_go rfl|apply c_dec); (case hs => (simp (disch := first|omega|exact kD rfl|exact kX rfl) only [smZ, tyA, simprocAttr, bl, i64, smT, smE]; exact rfl)); first|refine c_bt ?_|refine c_bf ?_|show lrun _ _ _ _ _ _ _ _ _)|(apply l_call rfl (by decide) rfl; (case hc => (simp (disch := first|omega|exact kD rfl|exact kX rfl) only [smZ, tyA, simprocAttr, bl, i64, smT, smE]; exact rfl)); (case hg => assumption))))
      ((first | apply g_ret | apply g_end); case hres => (simp only [resL, rOs, rO, Option.map_some]; simp (disch := first|omega|exact kD rfl|exact kX rfl) only [smZ, tyA, simprocAttr, bl, i64, smT, smE]; exact rfl))
      simp (disch := first|omega|exact kD rfl|exact kX rfl) only [smZ, tyA, simprocAttr, bl, i64, smT, smE]
    · obtain ⟨prec, rfl⟩ : ∃ n : Nat, p = n := ⟨p.toNat, by omega⟩
      obtain ⟨f1, l1, S1, r1⟩ := eulA prec (by omega)
      obtain ⟨f2, l2, S2, r2⟩ := eulB prec (by omega)
      rw [ecA] at r1
      rw [ecB] at r2
      have le1 := S1.le
      have le2 := S2.le
      have p1 := rPrec_good f1 l1.length (qc l1) (by omega)
      have p2 := rPrec_good f2 l2.length (qc l2) (by omega)
      rw [le1] at p1
      rw [le2] at p2
      simp only [i64] at r1 r2 p1 p2 ⊢
      refine good_of_lwp mix Tryz.func4 rfl (by decide) (nt := 129) rfl (rs := [.tmp 2]) rfl (Nat.le_of_ble_eq_true rfl) ?_
      (repeat (first|apply zO (by decide +kernel)|apply zP (by decide +kernel)|apply zA|apply zB|apply zF|apply zG|apply zH|apply zI|apply zJ|apply zK|apply zL (by decide)|apply zM|apply zN (by decide)|apply zD|apply zC|apply zE|((first|apply l_go rfl|apply c_dec); (case hs => (simp (disch := first|omega|exact kD rfl|exact kX rfl) only [smZ, tyA, simprocAttr, bl, i64, smT, smE]; exact rfl)); first|refine c_bt ?_|refine c_bf ?_|show lrun _ _ _ _ _ _ _ _ _)|(apply l_call rfl (by decide) rfl; (case hc => (simp (disch := first|omega|exact kD rfl|exact kX rfl) only [smZ, tyA, simprocAttr, bl, i64, smT, smE]; exact rfl)); (case hg => assumption))))
      (apply l_run rfl; (case hrun => (simp (config := {maxSteps := 5000000}) (disch := first|omega|exact kD rfl|exact kX rfl) only [smZ, tyA, simprocAttr, bl, i64, smT, smE]; exact rfl)); show lrun _ _ _ _ _ _ _ _ _)
      (repeat (first|apply zO (by decide +kernel)|apply zP (by decide +kernel)|apply zA|apply zB|apply zF|apply zG|apply zH|apply zI|apply zJ|apply zK|apply zL (by decide)|apply zM|apply zN (by decide)|apply zD|apply zC|apply zE|((first|apply l_go rfl|apply c_dec); (case hs => (simp (disch := first|omega|exact kD rfl|exact kX rfl) only [smZ, tyA, simprocAttr, bl, i64, smT, smE]; exact rfl)); first|refine c_bt ?_|refine c_bf ?_|show lrun _ _ _ _ _ _ _ _ _)|(apply l_call rfl (by decide) rfl; (case hc => (simp (disch := first|omega|exact kD rfl|exact kX rfl) only [smZ, tyA, simprocAttr, bl, i64, smT, smE]; exact rfl)); (case hg => assumption))))
      refine w_loop (α := {t : Nat // t ≤ 61}) (fun t => st 129 (lk [(0, i64 prec), (3, .ptr 0 0), (5, .ptr 1 0), (7, .own 2 0 prec 1), (8, .own 3 0 prec 1), (9, i64 ((t.1 : Int) - 30))]) (lkH [(0, ⟨31, [i64 f1, .sl l1.length (qc l1)], false⟩), (1, ⟨31, [i64 f2, .sl l2.length (qc l2)], false⟩), (2, ⟨3, ec ((List.range prec).map (xF t.1)), false⟩), (3, ⟨3, ec ((List.range prec).map (yF t.1)), false⟩)]) 4) (fun t => 61 - t.1) ⟨0, by omega⟩ ?_ ?_
      · (refine Sub.heapL [14,24,46,48] rfl (by decide) ?_ (by simp only [List.forall_mem_cons, List.not_mem_nil, false_imp_iff, implies_true, and_true]; decide) ?_ ?_; all_goals (first | (simp only [plainC, smF, dg, renL, renLs, simprocAttr, bl, i64, smT, smE, freeze_ap]; done) | (simp only [smF, dg, renL, renLs, simprocAttr, bl, i64, smT, smE, freeze_ap]; (repeat' apply And.intro); all_goals rfl) | (simp only [smF, dg, renL, renLs, simprocAttr, bl, i64, smT, smE, freeze_ap]) | skip))
        have hx0 : (List.range prec).map (xF 0) = List.replicate prec 0 := by
          have : xF 0 = fun _ => 0 := rfl
          rw [this, List.map_const', List.length_range]
        have hy0 : (List.range prec).map (yF 0) = List.replicate prec 0 := by
          have : yF 0 = fun _ => 0 := rfl
          rw [this, List.map_const', List.length_range]
        rw [if_neg (by decide), ec_zeros, hx0, hy0]
        exact ⟨rfl, trivial, rfl, rfl⟩
      · rintro ⟨t, ht⟩
        simp only [st]
        have lx : ((List.range prec).map (xF t)).length = prec := by simp
        have ly : ((List.range prec).map (yF t)).length = prec := by simp
        by_cases ht1 : t < 61
        · have hxs := fun h => xF_set (t := t) (p := prec) h
          have hxk := fun h => xF_keep (t := t) (p := prec) h
          have hys := fun h0 h => yF_set (t := t) (p := prec) h0 h
          have hyk := fun h => yF_keep (t := t) (p := prec) h
          have m1 := bmod_good ((t : Int) - 30) 2 (by omega) (by omega)
          have hsg : 1 - 2 * (((t : Int) - 30) % 2) = sgT t := by
            unfold sgT
            split <;> omega
          have hA : (6 * ((t : Int) - 30) - 1) * (6 * ((t : Int) - 30) - 1) = ((sqA t : Nat) : Int) := by
            have e : (6 * (t : Int) - 181) = 6 * ((t : Int) - 30) - 1 := by omega
            rw [sqA, e]
            exact Int.natAbs_mul_self.symm
          have bA : sqA t ≤ 181 * 181 := Nat.mul_le_mul (by omega) (by omega)
          obtain ⟨q, hq, bq, hqB⟩ : ∃ q : Nat, (2 * ((t : Int) - 30) + 1) * (2 * ((t : Int) - 30) + 1) = (q : Int) ∧ q ≤ 14641 ∧ (30 ≤ t → q = sqB t) := by
            refine ⟨(2 * ((t : Int) - 30) + 1).natAbs * (2 * ((t : Int) - 30) + 1).natAbs, ?_, Nat.mul_le_mul (show _ ≤ 121 by omega) (show _ ≤ 121 by omega), fun h30 => ?_⟩
            · exact Int.natAbs_mul_self.symm
            · unfold sqB
              rw [show (2 * ((t : Int) - 30) + 1).natAbs = 2 * (t - 30) + 1 by omega]
          have bs : -1 ≤ sgT t ∧ sgT t ≤ 1 := by
            unfold sgT
            split <;> omega
          have hz : 30 ≤ t → ∃ v : Int, sgT t * (2 * ((t : Int) - 30) + 1) = v ∧ sgT t * ((2 * (t - 30) + 1 : Nat) : Int) = v ∧ -200 ≤ v ∧ v ≤ 200 := by
            intro h30
            refine ⟨sgT t * (2 * ((t : Int) - 30) + 1), rfl, ?_, ?_⟩
            · congr 1
              omega
            · unfold sgT
              split
              · rw [Int.one_mul]; omega
              · rw [Int.neg_mul, Int.one_mul]; omega
          have bm : 0 ≤ ((t : Int) - 30) % 2 ∧ ((t : Int) - 30) % 2 ≤ 1 := by omega
          generalize ((t : Int) - 30) % 2 = md at *
          generalize sgT t = sg' at *
          generalize sqA t = qa at *
          generalize sqB t = qb at *
          simp only [i64] at m1
          by_cases hA1 : qa < prec
          · have hx := hxs hA1
            by_cases h30 : 30 ≤ t
            · obtain rfl := hqB h30
              obtain ⟨v, hv1, hv2, hv3⟩ := hz h30
              by_cases hB1 : q < prec
              · have hy := hys h30 hB1
                rw [hv2] at hy
                (repeat (first|apply zO (by decide +kernel)|apply zP (by decide +kernel)|apply zA|apply zB|apply zF|apply zG|apply zH|apply zI|apply zJ|apply zK|apply zL (by decide)|apply zM|apply zN (by decide)|apply zD|apply zC|apply zE|((first|apply l_go rfl|apply c_dec); (case hs => (simp (disch := first|omega|exact kD rfl|exact kX rfl) only [smZ, tyA, simprocAttr, bl, i64, smT, smE, hsg, hA, hq, hv1]; exact rfl)); first|refine c_bt ?_|refine c_bf ?_|show lrun _ _ _ _ _ _ _ _ _)|(apply l_call rfl (by decide) rfl; (case hc => (simp (disch := first|omega|exact kD rfl|exact kX rfl) only [smZ, tyA, simprocAttr, bl, i64, smT, smE, hsg, hA, hq, hv1]; exact rfl)); (case hg => assumption))))
                refine ⟨⟨t + 1, by omega⟩, ?_, by simp only; omega⟩
                (refine Sub.heapL [0,1,2,3] rfl (by decide) ?_ (by simp only [List.forall_mem_cons, List.not_mem_nil, false_imp_iff, implies_true, and_true]; decide) ?_ ?_; all_goals (first | (simp only [plainC, smF, dg, renL, renLs, simprocAttr, bl, i64, smT, smE]; done) | (simp only [smF, dg, renL, renLs, simprocAttr, bl, i64, smT, smE]; (repeat' apply And.intro); all_goals rfl) | (simp only [smF, dg, renL, renLs, simprocAttr, bl, i64, smT, smE]) | skip))
                all_goals (first | (rw [hx, hy]; exact ⟨trivial, trivial, rfl, rfl⟩) | (rw [show (t : Int) + 1 - 30 = (t : Int) - 30 + 1 by omega]; exact ⟨trivial, trivial, trivial, trivial, trivial, rfl⟩))
              · have hy := hyk (fun e => hB1 e.2)
                (repeat (first|apply zO (by decide +kernel)|apply zP (by decide +kernel)|apply zA|apply zB|apply zF|apply zG|apply zH|apply zI|apply zJ|apply zK|apply zL (by decide)|apply zM|apply zN (by decide)|apply zD|apply zC|apply zE|((first|apply l_go rfl|apply c_dec); (case hs => (simp (disch := first|omega|exact kD rfl|exact kX rfl) only [smZ, tyA, simprocAttr, bl, i64, smT, smE, hsg, hA, hq, hv1]; exact rfl)); first|refine c_bt ?_|refine c_bf ?_|show lrun _ _ _ _ _ _ _ _ _)|(apply l_call rfl (by decide) rfl; (case hc => (simp (disch := first|omega|exact kD rfl|exact kX rfl) only [smZ, tyA, simprocAttr, bl, i64, smT, smE, hsg, hA, hq, hv1]; exact rfl)); (case hg => assumption))))
                refine ⟨⟨t + 1, by omega⟩, ?_, by simp only; omega⟩
                (refine Sub.heapL [0,1,2,3] rfl (by decide) ?_ (by simp only [List.forall_mem_cons, List.not_mem_nil, false_imp_iff, implies_true, and_true]; decide) ?_ ?_; all_goals (first | (simp only [plainC, smF, dg, renL, renLs, simprocAttr, bl, i64, smT, smE]; done) | (simp only [smF, dg, renL, renLs, simprocAttr, bl, i64, smT, smE]; (repeat' apply And.intro); all_goals rfl) | (simp only [smF, dg, renL, renLs, simprocAttr, bl, i64, smT, smE]) | skip))
                all_goals (first | (rw [hx, hy]; exact ⟨trivial, trivial, rfl, rfl⟩) | (rw [show (t : Int) + 1 - 30 = (t : Int) - 30 + 1 by omega]; exact ⟨trivial, trivial, trivial, trivial, trivial, rfl⟩))
            · have hy := hyk (fun e => h30 e.1)
              have hv1 : True := trivial
              (repeat (first|apply zO (by decide +kernel)|apply zP (by decide +kernel)|apply zA|apply zB|apply zF|apply zG|apply zH|apply zI|apply zJ|apply zK|apply zL (by decide)|apply zM|apply zN (by decide)|apply zD|apply zC|apply zE|((first|apply l_go rfl|apply c_dec); (case hs => (simp (disch := first|omega|exact kD rfl|exact kX rfl) only [smZ, tyA, simprocAttr, bl, i64, smT, smE, hsg, hA, hq, hv1]; exact rfl)); first|refine c_bt ?_|refine c_bf ?_|show lrun _ _ _ _ _ _ _ _ _)|(apply l_call rfl (by decide) rfl; (case hc => (simp (disch := first|omega|exact kD rfl|exact kX rfl) only [smZ, tyA, simprocAttr, bl, i64, smT, smE, hsg, hA, hq, hv1]; exact rfl)); (case hg => assumption))))
              refine ⟨⟨t + 1, by omega⟩, ?_, by simp only; omega⟩
              (refine Sub.heapL [0,1,2,3] rfl (by decide) ?_ (by simp only [List.forall_mem_cons, List.not_mem_nil, false_imp_iff, implies_true, and_true]; decide) ?_ ?_; all_goals (first | (simp only [plainC, smF, dg, renL, renLs, simprocAttr, bl, i64, smT, smE]; done) | (simp only [smF, dg, renL, renLs, simprocAttr, bl, i64, smT, smE]; (repeat' apply And.intro); all_goals rfl) | (simp only [smF, dg, renL, renLs, simprocAttr, bl, i64, smT, smE]) | skip))
              all_goals (first | (rw [hx, hy]; exact ⟨trivial, trivial, rfl, rfl⟩) | (rw [show (t : Int) + 1 - 30 = (t : Int) - 30 + 1 by omega]; exact ⟨trivial, trivial, trivial, trivial, trivial, rfl⟩))
          · have hx := hxk hA1
            by_cases h30 : 30 ≤ t
            · obtain rfl := hqB h30
              obtain ⟨v, hv1, hv2, hv3⟩ := hz h30
              by_cases hB1 : q < prec
              · have hy := hys h30 hB1
                rw [hv2] at hy
                (repeat (first|apply zO (by decide +kernel)|apply zP (by decide +kernel)|apply zA|apply zB|apply zF|apply zG|apply zH|apply zI|apply zJ|apply zK|apply zL (by decide)|apply zM|apply zN (by decide)|apply zD|apply zC|apply zE|((first|apply l_go rfl|apply c_dec); (case hs => (simp (disch := first|omega|exact kD rfl|exact kX rfl) only [smZ, tyA, simprocAttr, bl, i64, smT, smE, hsg, hA, hq, hv1]; exact rfl)); first|refine c_bt ?_|refine c_bf ?_|show lrun _ _ _ _ _ _ _ _ _)|(apply l_call rfl (by decide) rfl; (case hc => (simp (disch := first|omega|exact kD rfl|exact kX rfl) only [smZ, tyA, simprocAttr, bl, i64, smT, smE, hsg, hA, hq, hv1]; exact rfl)); (case hg => assumption))))
                refine ⟨⟨t + 1, by omega⟩, ?_, by simp only; omega⟩
                (refine Sub.heapL [0,1,2,3] rfl (by decide) ?_ (by simp only [List.forall_mem_cons, List.not_mem_nil, false_imp_iff, implies_true, and_true]; decide) ?_ ?_; all_goals (first | (simp only [plainC, smF, dg, renL, renLs, simprocAttr, bl, i64, smT, smE]; done) | (simp only [smF, dg, renL, renLs, simprocAttr, bl, i64, smT, smE]; (repeat' apply And.intro); all_goals rfl) | (simp only [smF, dg, renL, renLs, simprocAttr, bl, i64, smT, smE]) | skip))
                all_goals (first | (rw [hx, hy]; exact ⟨trivial, trivial, rfl, rfl⟩) | (rw [show (t : Int) + 1 - 30 = (t : Int) - 30 + 1 by omega]; exact ⟨trivial, trivial, trivial, trivial, trivial, rfl⟩))
              · have hy := hyk (fun e => hB1 e.2)
                (repeat (first|apply zO (by decide +kernel)|apply zP (by decide +kernel)|apply zA|apply zB|apply zF|apply zG|apply zH|apply zI|apply zJ|apply zK|apply zL (by decide)|apply zM|apply zN (by decide)|apply zD|apply zC|apply zE|((first|apply l_go rfl|apply c_dec); (case hs => (simp (disch := first|omega|exact kD rfl|exact kX rfl) only [smZ, tyA, simprocAttr, bl, i64, smT, smE, hsg, hA, hq, hv1]; exact rfl)); first|refine c_bt ?_|refine c_bf ?_|show lrun _ _ _ _ _ _ _ _ _)|(apply l_call rfl (by decide) rfl; (case hc => (simp (disch := first|omega|exact kD rfl|exact kX rfl) only [smZ, tyA, simprocAttr, bl, i64, smT, smE, hsg, hA, hq, hv1]; exact rfl)); (case hg => assumption))))
                refine ⟨⟨t + 1, by omega⟩, ?_, by simp only; omega⟩
                (refine Sub.heapL [0,1,2,3] rfl (by decide) ?_ (by simp only [List.forall_mem_cons, List.not_mem_nil, false_imp_iff, implies_true, and_true]; decide) ?_ ?_; all_goals (first | (simp only [plainC, smF, dg, renL, renLs, simprocAttr, bl, i64, smT, smE]; done) | (simp only [smF, dg, renL, renLs, simprocAttr, bl, i64, smT, smE]; (repeat' apply And.intro); all_goals rfl) | (simp only [smF, dg, renL, renLs, simprocAttr, bl, i64, smT, smE]) | skip))
                all_goals (first | (rw [hx, hy]; exact ⟨trivial, trivial, rfl, rfl⟩) | (rw [show (t : Int) + 1 - 30 = (t : Int) - 30 + 1 by omega]; exact ⟨trivial, trivial, trivial, trivial, trivial, rfl⟩))
            · have hy := hyk (fun e => h30 e.1)
              have hv1 : True := trivial
              (repeat (first|apply zO (by decide +kernel)|apply zP (by decide +kernel)|apply zA|apply zB|apply zF|apply zG|apply zH|apply zI|apply zJ|apply zK|apply zL (by decide)|apply zM|apply zN (by decide)|apply zD|apply zC|apply zE|((first|apply l_go rfl|apply c_dec); (case hs => (simp (disch := first|omega|exact kD rfl|exact kX rfl) only [smZ, tyA, simprocAttr, bl, i64, smT, smE, hsg, hA, hq, hv1]; exact rfl)); first|refine c_bt ?_|refine c_bf ?_|show lrun _ _ _ _ _ _ _ _ _)|(apply l_call rfl (by decide) rfl; (case hc => (simp (disch := first|omega|exact kD rfl|exact kX rfl) only [smZ, tyA, simprocAttr, bl, i64, smT, smE, hsg, hA, hq, hv1]; exact rfl)); (case hg => assumption))))
              refine ⟨⟨t + 1, by omega⟩, ?_, by simp only; omega⟩
              (refine Sub.heapL [0,1,2,3] rfl (by decide) ?_ (by simp only [List.forall_mem_cons, List.not_mem_nil, false_imp_iff, implies_true, and_true]; decide) ?_ ?_; all_goals (first | (simp only [plainC, smF, dg, renL, renLs, simprocAttr, bl, i64, smT, smE]; done) | (simp only [smF, dg, renL, renLs, simprocAttr, bl, i64, smT, smE]; (repeat' apply And.intro); all_goals rfl) | (simp only [smF, dg, renL, renLs, simprocAttr, bl, i64, smT, smE]) | skip))
              all_goals (first | (rw [hx, hy]; exact ⟨trivial, trivial, rfl, rfl⟩) | (rw [show (t : Int) + 1 - 30 = (t : Int) - 30 + 1 by omega]; exact ⟨trivial, trivial, trivial, trivial, trivial, rfl⟩))
        · obtain rfl : t = 61 := by omega
          (repeat (first|apply zO (by decide +kernel)|apply zP (by decide +kernel)|apply zA|apply zB|apply zF|apply zG|apply zH|apply zI|apply zJ|apply zK|apply zL (by decide)|apply zM|apply zN (by decide)|apply zD|apply zC|apply zE|((first|apply l_go rfl|apply c_dec); (case hs => (simp (disch := first|omega|exact kD rfl|exact kX rfl) only [smZ, tyA, simprocAttr, bl, i64, smT, smE]; exact rfl)); first|refine c_bt ?_|refine c_bf ?_|show lrun _ _ _ _ _ _ _ _ _)|(apply l_call rfl (by decide) rfl; (case hc => (simp (disch := first|omega|exact kD rfl|exact kX rfl) only [smZ, tyA, simprocAttr, bl, i64, smT, smE]; exact rfl)); (case hg => assumption))))
          refine w_loop (α := {k : Nat // k ≤ prec}) (fun k => st 129 (lk [(0, i64 prec), (3, .ptr 0 0), (5, .ptr 1 0), (7, .own 2 0 prec 1), (8, .own 3 0 prec 1), (13, i64 k.1)]) (lkH [(0, ⟨31, [i64 f1, .sl l1.length (qc l1)], false⟩), (1, ⟨31, [i64 f2, .sl l2.length (qc l2)], false⟩), (2, ⟨3, ec ((List.range prec).map (xF 61)), false⟩), (3, ⟨3, ec ((List.range prec).map (yF 61)), false⟩)]) 4) (fun k => prec - k.1) ⟨0, by omega⟩ ?_ ?_
          · (refine Sub.heapL [0,1,2,3] rfl (by decide) ?_ (by simp only [List.forall_mem_cons, List.not_mem_nil, false_imp_iff, implies_true, and_true]; decide) ?_ ?_; all_goals (first | (simp only [plainC, smF, dg, renL, renLs, simprocAttr, bl, i64, smT, smE]; done) | (simp only [smF, dg, renL, renLs, simprocAttr, bl, i64, smT, smE]; (repeat' apply And.intro); all_goals rfl) | (simp only [smF, dg, renL, renLs, simprocAttr, bl, i64, smT, smE]) | skip))
            all_goals (first | done | simp)
          · rintro ⟨k, hk⟩
            simp only [st]
            by_cases hkp : k < prec
            · have e1 : ((List.range prec).map (xF 61)).getD k 0 = xF 61 k := range_getD hkp
              have e2 : ((List.range prec).map (yF 61)).getD k 0 = yF 61 k := range_getD hkp
              have b1 := xF_bd k 61
              have b2 := yF_bd k 61 (by omega)
              have d1 := lq_i64 (z := xF 61 k) (by omega)
              have d2 := lq_i64 (z := yF 61 k) (by omega)
              have c1 := rCoef_good f1 l1 k (by omega) (by omega) (by omega) (by rw [S1.cf k hkp]; omega)
              have c2 := rCoef_good f2 l2 k (by omega) (by omega) (by omega) (by rw [S2.cf k hkp]; omega)
              rw [S1.cf k hkp] at c1
              rw [S2.cf k hkp] at c2
              have q1 := baseQ_good (xF 61 k) (by omega)
              have q2 := baseQ_good (yF 61 k) (by omega)
              have s1 := rqsame_good ((xF 61 k : Int) : Rat) ((xF 61 k : Int) : Rat) (by omega) (by omega)
              have s2 := rqsame_good ((yF 61 k : Int) : Rat) ((yF 61 k : Int) : Rat) (by omega) (by omega)
              rw [dec_t rfl] at s1 s2
              generalize xF 61 k = x at *
              generalize yF 61 k = y at *
              simp only [encQ_sm, i64, bl] at c1 c2 q1 q2 s1 s2
              (repeat (first|apply zO (by decide +kernel)|apply zP (by decide +kernel)|apply zA|apply zB|apply zF|apply zG|apply zH|apply zI|apply zJ|apply zK|apply zL (by decide)|apply zM|apply zN (by decide)|apply zD|apply zC|apply zE|((first|apply l_go rfl|apply c_dec); (case hs => (simp (disch := first|omega|exact kD rfl|exact kX rfl) only [smZ, tyA, simprocAttr, bl, i64, smT, smE, e1, e2]; exact rfl)); first|refine c_bt ?_|refine c_bf ?_|show lrun _ _ _ _ _ _ _ _ _)|(apply l_call rfl (by decide) rfl; (case hc => (simp (disch := first|omega|exact kD rfl|exact kX rfl) only [smZ, tyA, simprocAttr, bl, i64, smT, smE, e1, e2]; exact rfl)); (case hg => assumption))))
              refine ⟨⟨k + 1, by omega⟩, ?_, by simp only; omega⟩
              (refine Sub.heapL [0,1,2,3] rfl (by decide) ?_ (by simp only [List.forall_mem_cons, List.not_mem_nil, false_imp_iff, implies_true, and_true]; decide) ?_ ?_; all_goals (first | (simp only [plainC, smF, dg, renL, renLs, simprocAttr, bl, i64, smT, smE]; done) | (simp only [smF, dg, renL, renLs, simprocAttr, bl, i64, smT, smE]; (repeat' apply And.intro); all_goals rfl) | (simp only [smF, dg, renL, renLs, simprocAttr, bl, i64, smT, smE]) | skip))
              all_goals (first | done | simp)
            · obtain rfl : k = prec := by omega
              (repeat (first|apply zO (by decide +kernel)|apply zP (by decide +kernel)|apply zA|apply zB|apply zF|apply zG|apply zH|apply zI|apply zJ|apply zK|apply zL (by decide)|apply zM|apply zN (by decide)|apply zD|apply zC|apply zE|((first|apply l_go rfl|apply c_dec); (case hs => (simp (disch := first|omega|exact kD rfl|exact kX rfl) only [smZ, tyA, simprocAttr, bl, i64, smT, smE]; exact rfl)); first|refine c_bt ?_|refine c_bf ?_|show lrun _ _ _ _ _ _ _ _ _)|(apply l_call rfl (by decide) rfl; (case hc => (simp (disch := first|omega|exact kD rfl|exact kX rfl) only [smZ, tyA, simprocAttr, bl, i64, smT, smE]; exact rfl)); (case hg => assumption))))
              ((first | apply g_ret | apply g_end); case hres => (simp only [resL, rOs, rO, Option.map_some]; simp (disch := first|omega|exact kD rfl|exact kX rfl) only [smZ, tyA, simprocAttr, bl, i64, smT, smE]; exact rfl))
              simp (disch := first|omega|exact kD rfl|exact kX rfl) only [smZ, tyA, simprocAttr, bl, i64, smT, smE]
end Go.Proofs.YtbajpjjbaffnnaaGreat
