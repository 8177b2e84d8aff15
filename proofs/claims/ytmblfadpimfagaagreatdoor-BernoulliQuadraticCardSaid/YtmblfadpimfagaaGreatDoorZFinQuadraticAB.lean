/- Contracts of functions of the program, and what proves them (texts: D8 KQ0). -/
import Derived.KernelRfl
import Derived.Test.YtmblfadpimfagaaGreatDoorZAN
import Derived.Test.YtmblfadpimfagaaGreatDoorZFinQuadraticAA
set_option linter.all false
namespace Go.Proofs.YtmblfadpimfagaaGreatDoor
open Go Go.Lg Go.Num
set_option maxRecDepth 100000
set_option maxHeartbeats 4000000
attribute [local irreducible] Go.Lg.lrun Go.Lg.lwp Go.Lg.exThen Go.Lg.exBlk Go.Lg.keep Go.Lg.goodPost sg mg bq bpL horQ pws trm qsum
theorem reval_good {n : Nat} (hn : n ≤ 41) (x : Rat) (hx : lq x ≤ 1000) : PureGood Tryz.prog 99 [encF (bp n (n + 1)), encQ x] (encQ (horQ (bpL n) x)) := by
  have hh : ∀ k, lq (horQ ((bpL n).drop k) x) ≤ 100000 := fun k => lq_horB hx (by omega) hn
  have h0 := rqof_good 0 (by omega)
  rw [show ((0 : Int) : Rat) = 0 from rfl] at h0
  have hl := bp_length n (n + 1)
  have hbp : bp n (n + 1) = bpL n := bp_bpL n
  have hnil : horQ ((bpL n).drop (n + 1)) x = 0 := by
    rw [List.drop_of_length_le (by rw [← hbp, bp_length]; exact Nat.le_refl _)]
    unfold horQ
    rfl
  have hst : ∀ k, k < n + 1 → horQ ((bpL n).drop k) x = horQ ((bpL n).drop (k + 1)) x * x + (bp n (n + 1)).getD k 0 := by
    intro k hk
    have hk2 : k < (bpL n).length := by rw [← hbp, bp_length]; exact hk
    rw [List.drop_eq_getElem_cons hk2, hbp]
    have : (bpL n).getD k 0 = (bpL n)[k] := by simp [hk2]
    rw [this]
    unfold horQ
    rfl
  have hm : ∀ k, k < n + 1 → lq ((bp n (n + 1)).getD k 0) ≤ 30 := by
    intro k hk
    have hk2 : k < (bp n (n + 1)).length := by rw [hl]; exact hk
    have : (bp n (n + 1)).getD k 0 = (bp n (n + 1))[k] := by simp [hk2]
    rw [this]
    exact bp_small (by omega) _ _ (List.getElem_mem _)
  have hfin : horQ (bpL n) x = horQ ((bpL n).drop 0) x := by rw [List.drop_zero]
  rw [hfin, encF_qc, hl]
  generalize hL : bp n (n + 1) = L at *
  clear hbp hL hfin
  rw [encQ_sm, i64] at *
  refine good_of_lwp mix Tryz.func99 rfl (by decide) (nt := 24) rfl (rs := [.cell 4 27]) rfl (Nat.le_of_ble_eq_true rfl) ?_
  (repeat (first|apply zO (by decide +kernel)|apply zP (by decide +kernel)|apply zA|apply zB|apply zF|apply zG|apply zH|apply zI|apply zJ|apply zK|apply zL (by decide)|apply zM|apply zN (by decide)|apply zD|apply zC|apply zE|((first|apply l_go rfl|apply c_dec); (case hs => (simp (disch := first|omega|exact kD rfl|exact kX rfl) only [smZ, tyA, simprocAttr, bl, i64, smT]; exact rfl)); first|refine c_bt ?_|refine c_bf ?_|show lrun _ _ _ _ _ _ _ _ _)|(apply l_call rfl (by decide) rfl; (case hc => (simp (disch := first|omega|exact kD rfl|exact kX rfl) only [smZ, tyA, simprocAttr, bl, i64, smT]; exact rfl)); (case hg => assumption))))
  refine w_loop (α := {k : Nat // k ≤ n + 1}) (fun k => st 24 (lk [(0, .sl (n + 1) (qc L)), (3, .ptr 0 0), (4, .ptr 1 0), (5, .ptr 2 0), (6, i64 ((k.1 : Int) - 1))]) (lkH [(0, ⟨27, [sg (x).num, mg (x).num, sg ((x).den : Int), mg ((x).den : Int)], false⟩), (1, ⟨27, [bl false, .lit (.slice none 0 0), bl false, .lit (.slice none 0 0)], false⟩), (2, ⟨27, [sg (horQ ((bpL n).drop k.1) x).num, mg (horQ ((bpL n).drop k.1) x).num, sg ((horQ ((bpL n).drop k.1) x).den : Int), mg ((horQ ((bpL n).drop k.1) x).den : Int)], false⟩)]) 3) (fun k => k.1) ⟨n + 1, Nat.le_refl _⟩ ?_ ?_
  · (refine Sub.heapL [0,1,3] rfl (by decide) ?_ (by simp only [List.forall_mem_cons, List.not_mem_nil, false_imp_iff, implies_true, and_true]; decide) ?_ ?_; all_goals (first | (simp only [plainC, smF, dg, renL, renLs, simprocAttr, bl, i64, smT]; done) | (simp only [smF, dg, renL, renLs, simprocAttr, bl, i64, smT]) | skip))
    · rw [hnil]
      exact ⟨trivial, trivial, rfl⟩
    · exact ⟨trivial, rfl, rfl, rfl, rfl⟩
  · rintro ⟨k, hk⟩
    simp only [st]
    rcases k with _ | k
    · (repeat (first|apply zO (by decide +kernel)|apply zP (by decide +kernel)|apply zA|apply zB|apply zF|apply zG|apply zH|apply zI|apply zJ|apply zK|apply zL (by decide)|apply zM|apply zN (by decide)|apply zD|apply zC|apply zE|((first|apply l_go rfl|apply c_dec); (case hs => (simp (disch := first|omega|exact kD rfl|exact kX rfl) only [smZ, tyA, simprocAttr, bl, i64, smT]; exact rfl)); first|refine c_bt ?_|refine c_bf ?_|show lrun _ _ _ _ _ _ _ _ _)|(apply l_call rfl (by decide) rfl; (case hc => (simp (disch := first|omega|exact kD rfl|exact kX rfl) only [smZ, tyA, simprocAttr, bl, i64, smT]; exact rfl)); (case hg => assumption))))
      ((first | apply g_ret | apply g_end); case hres => (simp only [resL, rOs, rO, Option.map_some]; simp (disch := first|omega|exact kD rfl|exact kX rfl) only [smZ, tyA, simprocAttr, bl, i64, smT]; exact rfl))
      simp (disch := first|omega|exact kD rfl|exact kX rfl) only [smZ, tyA, simprocAttr, bl, i64, smT]
      rw [encQ_sm]
    · have e1 := hh (k + 1)
      have e2 := hm k (by omega)
      have e3 := lq_mul (horQ ((bpL n).drop (k + 1)) x) x
      have m1 := rqmul_good (horQ ((bpL n).drop (k + 1)) x) x (by omega) (by omega)
      have a1 := rqadd_good (horQ ((bpL n).drop (k + 1)) x * x) (L.getD k 0) (by omega) (by omega)
      rw [← hst k (by omega)] at a1
      generalize hc : L.getD k 0 = c at *
      generalize horQ ((bpL n).drop (k + 1)) x * x = y at *
      generalize horQ ((bpL n).drop (k + 1)) x = z at *
      simp only [encQ_sm] at m1 a1
      (repeat (first|apply zO (by decide +kernel)|apply zP (by decide +kernel)|apply zA|apply zB|apply zF|apply zG|apply zH|apply zI|apply zJ|apply zK|apply zL (by decide)|apply zM|apply zN (by decide)|apply zD|apply zC|apply zE|((first|apply l_go rfl|apply c_dec); (case hs => (simp (disch := first|omega|exact kD rfl|exact kX rfl) only [smZ, tyA, simprocAttr, bl, i64, smT, hc]; exact rfl)); first|refine c_bt ?_|refine c_bf ?_|show lrun _ _ _ _ _ _ _ _ _)|(apply l_call rfl (by decide) rfl; (case hc => (simp (disch := first|omega|exact kD rfl|exact kX rfl) only [smZ, tyA, simprocAttr, bl, i64, smT, hc]; exact rfl)); (case hg => assumption))))
      refine ⟨⟨k, by omega⟩, ?_, Nat.lt_succ_self k⟩
      (refine Sub.heapL [0,1,2] rfl (by decide) ?_ (by simp only [List.forall_mem_cons, List.not_mem_nil, false_imp_iff, implies_true, and_true]; decide) ?_ ?_; all_goals (first | (simp only [plainC, smF, dg, renL, renLs, simprocAttr, bl, i64, smT]; done) | (simp only [smF, dg, renL, renLs, simprocAttr, bl, i64, smT]) | skip))
      · simp only [true_and]
        (simp only [LV.lit.injEq, Value.int.injEq, true_and, and_true, dg, LV.sl.injEq]; omega)
      · exact ⟨trivial, rfl, rfl, rfl, rfl⟩
theorem trm_eq (k f j : Nat) : trm k f j = ((f : Int) : Rat) ^ (k - 1) * horQ (bpL k) (Rat.divInt ((j + 1 : Nat) : Int) (f : Int)) := by unfold trm; rfl
theorem rparts_good (k f : Nat) (hk1 : 1 ≤ k) (hk : k ≤ 40) (hf : 1 ≤ f) (hf2 : f ≤ 60) : PureGood Tryz.prog 53 [i64 k, i64 f] (encF (smd k f f)) := by
  have p1 := rPolynomial_good (k : Int) (by omega)
  rw [encPoly, if_pos (by omega), if_pos (by omega), Int.toNat_natCast] at p1
  have pw := rpower_good f (k - 1) (by omega) (by omega)
  have lpw := len_npow (n := f) (k := k - 1) (by omega) (by omega)
  have w1 := rwhole_good ((f : Int) ^ (k - 1)) (by omega)
  rw [Rat.intCast_pow] at w1
  have lw := lq_powQ ((f : Int) : Rat) (k - 1)
  have lf : lq ((f : Int) : Rat) ≤ 2 := lq_small (by omega) (by omega)
  have lw2 : (k - 1) * lq ((f : Int) : Rat) ≤ 40 * 2 := Nat.mul_le_mul (by omega) lf
  have step : ∀ j : Nat, j < f → PureGood Tryz.prog 26 [i64 ((j + 1 : Nat) : Int), i64 f] (encQ (Rat.divInt ((j + 1 : Nat) : Int) (f : Int))) ∧
      PureGood Tryz.prog 99 [encF (bp k (k + 1)), encQ (Rat.divInt ((j + 1 : Nat) : Int) (f : Int))] (encQ (horQ (bpL k) (Rat.divInt ((j + 1 : Nat) : Int) (f : Int)))) ∧
      PureGood Tryz.prog 59 [encQ (((f : Int) : Rat) ^ (k - 1)), encQ (horQ (bpL k) (Rat.divInt ((j + 1 : Nat) : Int) (f : Int)))] (encQ (trm k f j)) := by
    intro j hj
    have la : len ((j + 1 : Nat) : Int) ≤ 1 := len_pow_lt (e := 1) (by omega)
    have lf : len (f : Int) ≤ 1 := len_pow_lt (e := 1) (by omega)
    have ld := lq_divInt (n := ((j + 1 : Nat) : Int)) (d := (f : Int)) (by omega)
    have ev := evalB_good (n := k) (by omega) (Rat.divInt ((j + 1 : Nat) : Int) (f : Int)) (by unfold lq; omega)
    refine ⟨frac_good _ _ (by omega) (by omega), reval_good (by omega) _ (by unfold lq; omega), ?_⟩
    rw [trm_eq]
    exact rqmul_good _ _ (by omega) (by have := ev.2; omega)
  clear lw lw2 lf lpw
  have hk2 : ((k - 1 : Nat) : Int) = (k : Int) - 1 := by omega
  have hl := bp_length k (k + 1)
  rw [encF_qc, hl] at p1
  rw [encF_qc, smd_length]
  simp only [encF_qc, hl] at step
  generalize bp k (k + 1) = L at *
  rw [hk2] at pw
  generalize ((f : Int) : Rat) ^ (k - 1) = P at *
  generalize (f : Int) ^ (k - 1) = F at *
  simp only [encI_sm, encQ_sm, i64] at p1 pw w1 step ⊢
  have b1 : smd k f 1 = [trm k f 0] := rfl
  obtain ⟨w2, w3, w4⟩ := step 0 (by omega)
  rw [show ((0 + 1 : Nat) : Int) = 1 from rfl] at w2
  generalize horQ (bpL k) (Rat.divInt ((0 + 1 : Nat) : Int) (f : Int)) = E0 at *
  generalize Rat.divInt ((0 + 1 : Nat) : Int) (f : Int) = D0 at *
  generalize ht0 : trm k f 0 = T0 at *
  refine good_of_lwp mix Tryz.func53 rfl (by decide) (nt := 34) rfl (rs := [.tmp 4]) rfl (Nat.le_of_ble_eq_true rfl) ?_
  (repeat (first|apply zO (by decide +kernel)|apply zP (by decide +kernel)|apply zA|apply zB|apply zF|apply zG|apply zH|apply zI|apply zJ|apply zK|apply zL (by decide)|apply zM|apply zN (by decide)|apply zD|apply zC|apply zE|((first|apply l_go rfl|apply c_dec); (case hs => (simp (disch := first|omega|exact kD rfl|exact kX rfl) only [smZ, tyA, simprocAttr, bl, i64, smT]; exact rfl)); first|refine c_bt ?_|refine c_bf ?_|show lrun _ _ _ _ _ _ _ _ _)|(apply l_call rfl (by decide) rfl; (case hc => (simp (disch := first|omega|exact kD rfl|exact kX rfl) only [smZ, tyA, simprocAttr, bl, i64, smT]; exact rfl)); (case hg => assumption))))
  refine loop_more (s' := ?_) (fun Φ hΦ => ?_) ?_
  rotate_left
  · (repeat (first|apply zO (by decide +kernel)|apply zP (by decide +kernel)|apply zA|apply zB|apply zF|apply zG|apply zH|apply zI|apply zJ|apply zK|apply zL (by decide)|apply zM|apply zN (by decide)|apply zD|apply zC|apply zE|((first|apply l_go rfl|apply c_dec); (case hs => (simp (disch := first|omega|exact kD rfl|exact kX rfl) only [smZ, tyA, simprocAttr, bl, i64, smT]; exact rfl)); first|refine c_bt ?_|refine c_bf ?_|show lrun _ _ _ _ _ _ _ _ _)|(apply l_call rfl (by decide) rfl; (case hc => (simp (disch := first|omega|exact kD rfl|exact kX rfl) only [smZ, tyA, simprocAttr, bl, i64, smT]; exact rfl)); (case hg => assumption))))
    exact hΦ
  refine w_loop (α := {n : Nat // 1 ≤ n ∧ n ≤ f}) (fun n => st 34 (lk [(0, i64 k), (1, i64 f), (5, .sl (k + 1) (qc L)), (7, .own 0 0 n.1 4), (8, i64 ((n.1 + 1 : Nat) : Int))]) (lkH [(0, ⟨27, qc (smd k f n.1), false⟩)]) 1) (fun n => f - n.1) ⟨1, by omega, hf⟩ ?_ ?_
  · (refine Sub.heap1 26 ?_ (by simp only [smF, dg, renL, renLs, simprocAttr, bl, i64, smT]; exact rfl) ?_ ?_; all_goals (first | exact dgs_plain _ | with_reducible rfl | (simp only [smF, dg, renL, renLs, simprocAttr, bl, i64, smT]; done) | (simp only [smF, dg, renL, renLs, simprocAttr, bl, i64, smT]) | skip))
    rw [b1, ← qc_one]
  · rintro ⟨n, hn1, hn⟩
    simp only [st]
    have hls := smd_length k f n
    by_cases hlt : n < f
    · obtain ⟨w2, w3, w4⟩ := step n hlt
      have happ := smd_succ k f n
      generalize hN : n + 1 = N at *
      generalize horQ (bpL k) (Rat.divInt (N : Int) (f : Int)) = E at *
      generalize Rat.divInt (N : Int) (f : Int) = D at *
      generalize trm k f n = T at *
      (repeat (first|apply zO (by decide +kernel)|apply zP (by decide +kernel)|apply zA|apply zB|apply zF|apply zG|apply zH|apply zI|apply zJ|apply zK|apply zL (by decide)|apply zM|apply zN (by decide)|apply zD|apply zC|apply zE|((first|apply l_go rfl|apply c_dec); (case hs => (simp (disch := first|omega|exact kD rfl|exact kX rfl) only [smZ, tyA, simprocAttr, bl, i64, smT]; exact rfl)); first|refine c_bt ?_|refine c_bf ?_|show lrun _ _ _ _ _ _ _ _ _)|(apply l_call rfl (by decide) rfl; (case hc => (simp (disch := first|omega|exact kD rfl|exact kX rfl) only [smZ, tyA, simprocAttr, bl, i64, smT]; exact rfl)); (case hg => assumption))))
      refine ⟨⟨N, by omega, by omega⟩, ?_, by simp only; omega⟩
      (refine Sub.heap1 17 ?_ (by simp only [smF, dg, renL, renLs, simprocAttr, bl, i64, smT]; exact rfl) ?_ ?_; all_goals (first | exact dgs_plain _ | with_reducible rfl | (simp only [smF, dg, renL, renLs, simprocAttr, bl, i64, smT]; done) | (simp only [smF, dg, renL, renLs, simprocAttr, bl, i64, smT]) | skip))
      · simp only [true_and, hN]
      · rw [happ, ← qc_app]
    · obtain rfl : n = f := by omega
      (repeat (first|apply zO (by decide +kernel)|apply zP (by decide +kernel)|apply zA|apply zB|apply zF|apply zG|apply zH|apply zI|apply zJ|apply zK|apply zL (by decide)|apply zM|apply zN (by decide)|apply zD|apply zC|apply zE|((first|apply l_go rfl|apply c_dec); (case hs => (simp (disch := first|omega|exact kD rfl|exact kX rfl) only [smZ, tyA, simprocAttr, bl, i64, smT]; exact rfl)); first|refine c_bt ?_|refine c_bf ?_|show lrun _ _ _ _ _ _ _ _ _)|(apply l_call rfl (by decide) rfl; (case hc => (simp (disch := first|omega|exact kD rfl|exact kX rfl) only [smZ, tyA, simprocAttr, bl, i64, smT]; exact rfl)); (case hg => assumption))))
      ((first | apply g_ret | apply g_end); case hres => (simp only [resL, rOs, rO, Option.map_some]; simp (disch := first|omega|exact kD rfl|exact kX rfl) only [smZ, tyA, simprocAttr, bl, i64, smT]; exact rfl))
      simp (disch := first|omega|exact kD rfl|exact kX rfl) only [smZ, tyA, simprocAttr, bl, i64, smT]
theorem summands_good (k f : Nat) (hk1 : 1 ≤ k) (hk : k ≤ 40) (hf : 1 ≤ f) (hf2 : f ≤ 60) : PureGood Tryz.prog 50 [i64 k, i64 f] (encF (smd k f f)) := by
  have p1 := polynomial_good k (by omega)
  have of := qof_good (f : Int) (by omega)
  have lf : lq ((f : Int) : Rat) ≤ 2 := lq_small (by omega) (by omega)
  have pw := qpow_good ((f : Int) : Rat) (k - 1) (by omega) (by omega)
  have lw := lq_powQ ((f : Int) : Rat) (k - 1)
  have lw2 : (k - 1) * lq ((f : Int) : Rat) ≤ 40 * 2 := Nat.mul_le_mul (by omega) lf
  have bf := of_good (f : Int) (by omega)
  have step : ∀ j : Nat, j < f → PureGood Tryz.prog 64 [i64 ((j + 1 : Nat) : Int)] (encI ((j + 1 : Nat) : Int)) ∧ PureGood Tryz.prog 92 [encI ((j + 1 : Nat) : Int), encI (f : Int)] (.tup [encQ (Rat.divInt ((j + 1 : Nat) : Int) (f : Int)), i64 0]) ∧
      PureGood Tryz.prog 27 [encF (bp k (k + 1)), encQ (Rat.divInt ((j + 1 : Nat) : Int) (f : Int))] (encQ (horQ (bpL k) (Rat.divInt ((j + 1 : Nat) : Int) (f : Int)))) ∧
      PureGood Tryz.prog 30 [encQ (((f : Int) : Rat) ^ (k - 1)), encQ (horQ (bpL k) (Rat.divInt ((j + 1 : Nat) : Int) (f : Int)))] (encQ (trm k f j)) := by
    intro j hj
    have la : len ((j + 1 : Nat) : Int) ≤ 1 := len_pow_lt (e := 1) (by omega)
    have lf : len (f : Int) ≤ 1 := len_pow_lt (e := 1) (by omega)
    have ld := lq_divInt (n := ((j + 1 : Nat) : Int)) (d := (f : Int)) (by omega)
    have ev := evalB_good (n := k) (by omega) (Rat.divInt ((j + 1 : Nat) : Int) (f : Int)) (by unfold lq; omega)
    have mk := make_good ((j + 1 : Nat) : Int) f (by omega) (by omega) (by omega)
    rw [← encI_nat] at mk
    refine ⟨of_good _ (by omega), mk, ev.1, ?_⟩
    rw [trm_eq]
    exact qmul_good _ _ (by omega) (by have := ev.2; omega)
  clear lw lw2 lf
  have hk2 : ((k - 1 : Nat) : Int) = (k : Int) - 1 := by omega
  have hl := bp_length k (k + 1)
  rw [encF_qc, hl] at p1
  rw [encF_qc, smd_length]
  simp only [encF_qc, hl] at step
  generalize bp k (k + 1) = L at *
  rw [hk2] at pw
  generalize ((f : Int) : Rat) ^ (k - 1) = P at *
  generalize ((f : Int) : Rat) = FQ at *
  simp only [encI_sm, encQ_sm, i64] at p1 pw of bf step ⊢
  have b1 : smd k f 1 = [trm k f 0] := rfl
  obtain ⟨w1, w2, w3, w4⟩ := step 0 (by omega)
  rw [show ((0 + 1 : Nat) : Int) = 1 from rfl] at w1 w2 w3 w4
  generalize horQ (bpL k) (Rat.divInt (1 : Int) (f : Int)) = E0 at *
  generalize Rat.divInt (1 : Int) (f : Int) = D0 at *
  generalize ht0 : trm k f 0 = T0 at *
  refine good_of_lwp mix Tryz.func50 rfl (by decide) (nt := 44) rfl (rs := [.tmp 4]) rfl (Nat.le_of_ble_eq_true rfl) ?_
  (repeat (first|apply zO (by decide +kernel)|apply zP (by decide +kernel)|apply zA|apply zB|apply zF|apply zG|apply zH|apply zI|apply zJ|apply zK|apply zL (by decide)|apply zM|apply zN (by decide)|apply zD|apply zC|apply zE|((first|apply l_go rfl|apply c_dec); (case hs => (simp (disch := first|omega|exact kD rfl|exact kX rfl) only [smZ, tyA, simprocAttr, bl, i64, smT]; exact rfl)); first|refine c_bt ?_|refine c_bf ?_|show lrun _ _ _ _ _ _ _ _ _)|(apply l_call rfl (by decide) rfl; (case hc => (simp (disch := first|omega|exact kD rfl|exact kX rfl) only [smZ, tyA, simprocAttr, bl, i64, smT]; exact rfl)); (case hg => assumption))))
  refine loop_more (s' := ?_) (fun Φ hΦ => ?_) ?_
  rotate_left
  · (repeat (first|apply zO (by decide +kernel)|apply zP (by decide +kernel)|apply zA|apply zB|apply zF|apply zG|apply zH|apply zI|apply zJ|apply zK|apply zL (by decide)|apply zM|apply zN (by decide)|apply zD|apply zC|apply zE|((first|apply l_go rfl|apply c_dec); (case hs => (simp (disch := first|omega|exact kD rfl|exact kX rfl) only [smZ, tyA, simprocAttr, bl, i64, smT]; exact rfl)); first|refine c_bt ?_|refine c_bf ?_|show lrun _ _ _ _ _ _ _ _ _)|(apply l_call rfl (by decide) rfl; (case hc => (simp (disch := first|omega|exact kD rfl|exact kX rfl) only [smZ, tyA, simprocAttr, bl, i64, smT]; exact rfl)); (case hg => assumption))))
    exact hΦ
  refine w_loop (α := {n : Nat // 1 ≤ n ∧ n ≤ f}) (fun n => st 44 (lk [(0, i64 k), (1, i64 f), (5, .sl (k + 1) (qc L)), (6, .ptr 1 0), (8, .own 0 0 n.1 4), (9, i64 ((n.1 + 1 : Nat) : Int))]) (lkH [(0, ⟨27, qc (smd k f n.1), false⟩), (1, ⟨27, [sg (P).num, mg (P).num, sg ((P).den : Int), mg ((P).den : Int)], false⟩)]) 2) (fun n => f - n.1) ⟨1, by omega, hf⟩ ?_ ?_
  · (refine Sub.heapL [38,12] rfl (by decide) ?_ (by simp only [List.forall_mem_cons, List.not_mem_nil, false_imp_iff, implies_true, and_true]; decide) ?_ ?_; all_goals (first | (simp only [plainC, smF, dg, renL, renLs, simprocAttr, bl, i64, smT]; done) | (simp only [smF, dg, renL, renLs, simprocAttr, bl, i64, smT]) | skip))
    rw [b1, ← qc_one]
  · rintro ⟨n, hn1, hn⟩
    simp only [st]
    have hls := smd_length k f n
    by_cases hlt : n < f
    · obtain ⟨w1, w2, w3, w4⟩ := step n hlt
      have happ := smd_succ k f n
      generalize hN : n + 1 = N at *
      generalize horQ (bpL k) (Rat.divInt (N : Int) (f : Int)) = E at *
      generalize Rat.divInt (N : Int) (f : Int) = D at *
      generalize trm k f n = T at *
      (repeat (first|apply zO (by decide +kernel)|apply zP (by decide +kernel)|apply zA|apply zB|apply zF|apply zG|apply zH|apply zI|apply zJ|apply zK|apply zL (by decide)|apply zM|apply zN (by decide)|apply zD|apply zC|apply zE|((first|apply l_go rfl|apply c_dec); (case hs => (simp (disch := first|omega|exact kD rfl|exact kX rfl) only [smZ, tyA, simprocAttr, bl, i64, smT]; exact rfl)); first|refine c_bt ?_|refine c_bf ?_|show lrun _ _ _ _ _ _ _ _ _)|(apply l_call rfl (by decide) rfl; (case hc => (simp (disch := first|omega|exact kD rfl|exact kX rfl) only [smZ, tyA, simprocAttr, bl, i64, smT]; exact rfl)); (case hg => assumption))))
      refine ⟨⟨N, by omega, by omega⟩, ?_, by simp only; omega⟩
      (refine Sub.heapL [23,1] rfl (by decide) ?_ (by simp only [List.forall_mem_cons, List.not_mem_nil, false_imp_iff, implies_true, and_true]; decide) ?_ ?_; all_goals (first | (simp only [plainC, smF, dg, renL, renLs, simprocAttr, bl, i64, smT]; done) | (simp only [smF, dg, renL, renLs, simprocAttr, bl, i64, smT]) | skip))
      · simp only [true_and, hN]
      · rw [happ, ← qc_app]
    · obtain rfl : n = f := by omega
      (repeat (first|apply zO (by decide +kernel)|apply zP (by decide +kernel)|apply zA|apply zB|apply zF|apply zG|apply zH|apply zI|apply zJ|apply zK|apply zL (by decide)|apply zM|apply zN (by decide)|apply zD|apply zC|apply zE|((first|apply l_go rfl|apply c_dec); (case hs => (simp (disch := first|omega|exact kD rfl|exact kX rfl) only [smZ, tyA, simprocAttr, bl, i64, smT]; exact rfl)); first|refine c_bt ?_|refine c_bf ?_|show lrun _ _ _ _ _ _ _ _ _)|(apply l_call rfl (by decide) rfl; (case hc => (simp (disch := first|omega|exact kD rfl|exact kX rfl) only [smZ, tyA, simprocAttr, bl, i64, smT]; exact rfl)); (case hg => assumption))))
      ((first | apply g_ret | apply g_end); case hres => (simp only [resL, rOs, rO, Option.map_some]; simp (disch := first|omega|exact kD rfl|exact kX rfl) only [smZ, tyA, simprocAttr, bl, i64, smT]; exact rfl))
      simp (disch := first|omega|exact kD rfl|exact kX rfl) only [smZ, tyA, simprocAttr, bl, i64, smT]
end Go.Proofs.YtmblfadpimfagaaGreatDoor

namespace Go.Proofs.YtmblfadpimfagaaGreatDoor
open Go Go.Lg Go.Num
set_option maxRecDepth 100000
/-- Two closed runs agree: the quadratic character of a discriminant, its value at a number. -/
noncomputable def chkQ (d : Int) : Bool := match ev 48 [i64 d], ev 52 [i64 d] with
  | some (.tup [.agg [.lit (.int .i64 _), .sl _ _], .lit (.int .i64 (.ofNat e))]), some (.tup [.agg [.lit (.int .i64 _), .sl _ _], .lit (.int .i64 (.ofNat e'))]) => Nat.beq e 0 && Nat.beq e' 0
  | _, _ => false
noncomputable def chkN (d : Int) : Bool := match ev 48 [i64 d], ev 52 [i64 d] with
  | some (.tup [.agg [.lit (.int .i64 _), .sl _ _], .lit (.int .i64 (.ofNat e))]), some (.tup [.agg [.lit (.int .i64 _), .sl _ _], .lit (.int .i64 (.ofNat e'))]) => Nat.beq e 15 && Nat.beq e' 15
  | _, _ => false
noncomputable def chkK (d : Int) (a : Nat) : Bool := match ev 51 [i64 d, i64 a], ev 54 [i64 d, i64 a] with
  | some (.lit (.int .i64 z)), some (.lit (.int .i64 w)) => (z == w) && (z == 1 || z == 0 || z == -1)
  | _, _ => false
noncomputable def chkKs (d : Int) : Bool := (List.range d.natAbs).all fun a => chkK d (a + 1)
def fdL : List Int := [-59, -56, -55, -52, -51, -47, -43, -40, -39, -35, -31, -24, -23, -20, -19, -15, -11, -8, -7, -4, -3, 1, 5, 8, 12, 13, 17, 21, 24, 28, 29, 33, 37, 40, 41, 44, 53, 56, 57, 60]
def nfL : List Int := [-60, -58, -57, -54, -53, -50, -49, -48, -46, -45, -44, -42, -41, -38, -37, -36, -34, -33, -32, -30, -29, -28, -27, -26, -25, -22, -21, -18, -17, -16, -14, -13, -12, -10, -9, -6, -5, -2, -1, 2, 3, 4, 6, 7, 9, 10, 11, 14, 15, 16, 18, 19, 20, 22, 23, 25, 26, 27, 30, 31, 32, 34, 35, 36, 38, 39, 42, 43, 45, 46, 47, 48, 49, 50, 51, 52, 54, 55, 58, 59]
end Go.Proofs.YtmblfadpimfagaaGreatDoor
