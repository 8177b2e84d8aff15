/- Contracts of functions of the program, and what proves them (texts: X8). -/
import Derived.Test.YtbajpjjbaffnnaaGreatZBR
import Derived.Test.YtbajpjjbaffnnaaGreatZBV
import Derived.Test.YtbajpjjbaffnnaaGreatZBW
set_option linter.all false
namespace Go.Proofs.YtbajpjjbaffnnaaGreat
open Go Go.Lg Go.Num
set_option maxRecDepth 100000
set_option maxHeartbeats 8000000
attribute [local irreducible] Go.Lg.lrun Go.Lg.lwp Go.Lg.exThen Go.Lg.exBlk Go.Lg.keep Go.Lg.goodPost sg mg sS qs sv svM spM oc mC dc ec psum etaM etaK etaC
theorem qc_nil : qc [] = [] := rfl
theorem sameSeries_good (f : Int) (hf : -9223372036854775808 ≤ f ∧ f ≤ 9223372036854775807) (l : List Rat) (hl : l.length ≤ 1000000) (hb : ∀ q ∈ l, lq q ≤ 100000) : PureGood Tryz.prog 17 [.agg [i64 f, .sl l.length (qc l)], .agg [i64 f, .sl l.length (qc l)]] (.lit (.bool true)) := by
  have g := sameRats_self l hb (by omega)
  rw [encF_qc] at g
  refine good_of_lwp mix Tryz.func17 rfl (by decide) (nt := 17) rfl (rs := [.tmp 4]) rfl (Nat.le_of_ble_eq_true rfl) ?_
  (repeat (first|apply zO (by decide +kernel)|apply zP (by decide +kernel)|apply zA|apply zB|apply zF|apply zG|apply zH|apply zI|apply zJ|apply zK|apply zL (by decide)|apply zM|apply zN (by decide)|apply zD|apply zC|apply zE|((first|apply l_go rfl|apply c_dec); (case hs => (simp (disch := first|omega|exact kD rfl|exact kX rfl) only [smZ, tyA, simprocAttr, bl, i64, smT, smE]; exact rfl)); first|refine c_bt ?_|refine c_bf ?_|show lrun _ _ _ _ _ _ _ _ _)|(apply l_call rfl (by decide) rfl; (case hc => (simp (disch := first|omega|exact kD rfl|exact kX rfl) only [smZ, tyA, simprocAttr, bl, i64, smT, smE]; exact rfl)); (case hg => assumption))))
  ((first | apply g_ret | apply g_end); case hres => (simp only [resL, rOs, rO, Option.map_some]; simp (disch := first|omega|exact kD rfl|exact kX rfl) only [smZ, tyA, simprocAttr, bl, i64, smT, smE]; exact rfl))
  simp (disch := first|omega|exact kD rfl|exact kX rfl) only [smZ, tyA, simprocAttr, bl, i64, smT, smE]
/-- The error of an expansion, and the exponent where an empty one begins. -/
def expErr (n : Nat) (xs : List Int) (prec : Int) : Option (Int × Int) :=
  if prec < -100 ∨ 1000 < prec then some (0, 2) else if psum (exL n xs) xs.length % 24 ≠ 0 then some (0, 6) else
    if psum (exL n xs) xs.length / 24 < -100 then some (0, 2) else if prec ≤ psum (exL n xs) xs.length / 24 then some (prec, 0) else none
theorem expand_emp {n : Nat} {xs : List Int} (ok : EtaOk n xs) (g0 : PureGood Tryz.prog 24 [.agg [i64 n, .sl xs.length (ec xs)]] (i64 0)) (prec : Int) (hpr : -9223372036854775808 ≤ prec ∧ prec ≤ 9223372036854775807) {f e : Int} (he : expErr n xs prec = some (f, e)) :
    PureGood Tryz.prog 15 [.agg [i64 n, .sl xs.length (ec xs)], i64 prec] (.tup [.agg [i64 f, .sl 0 []], i64 e]) := by
  skip
  have n1 := ok.n1
  have n2 := ok.n2
  have l1 := ok.len_le
  have b0 := ok.s1 (Nat.le_refl xs.length)
  unfold expErr at he
  have g1 := sums_good ok
  have ht := tmod_iff (psum (exL n xs) xs.length) 24
  by_cases h1 : prec < -100 ∨ 1000 < prec
  · rw [if_pos h1] at he
    cases he
    by_cases h2 : prec < -100
    · refine good_of_lwp mix Tryz.func15 rfl (by decide) (nt := 106) rfl (rs := [.cell 4 31, .tmp 5]) rfl (Nat.le_of_ble_eq_true rfl) ?_
      (repeat (first|apply zO (by decide +kernel)|apply zP (by decide +kernel)|apply zA|apply zB|apply zF|apply zG|apply zH|apply zI|apply zJ|apply zK|apply zL (by decide)|apply zM|apply zN (by decide)|apply zD|apply zC|apply zE|((first|apply l_go rfl|apply c_dec); (case hs => (simp (disch := first|omega|exact kD rfl|exact kX rfl) only [smZ, tyA, simprocAttr, bl, i64, smT, smE]; exact rfl)); first|refine c_bt ?_|refine c_bf ?_|show lrun _ _ _ _ _ _ _ _ _)|(apply l_call rfl (by decide) rfl; (case hc => (simp (disch := first|omega|exact kD rfl|exact kX rfl) only [smZ, tyA, simprocAttr, bl, i64, smT, smE]; exact rfl)); (case hg => assumption))))
      ((first | apply g_ret | apply g_end); case hres => (simp only [resL, rOs, rO, Option.map_some]; simp (disch := first|omega|exact kD rfl|exact kX rfl) only [smZ, tyA, simprocAttr, bl, i64, smT, smE]; exact rfl))
      simp (disch := first|omega|exact kD rfl|exact kX rfl) only [smZ, tyA, simprocAttr, bl, i64, smT, smE]
    · refine good_of_lwp mix Tryz.func15 rfl (by decide) (nt := 106) rfl (rs := [.cell 4 31, .tmp 5]) rfl (Nat.le_of_ble_eq_true rfl) ?_
      (repeat (first|apply zO (by decide +kernel)|apply zP (by decide +kernel)|apply zA|apply zB|apply zF|apply zG|apply zH|apply zI|apply zJ|apply zK|apply zL (by decide)|apply zM|apply zN (by decide)|apply zD|apply zC|apply zE|((first|apply l_go rfl|apply c_dec); (case hs => (simp (disch := first|omega|exact kD rfl|exact kX rfl) only [smZ, tyA, simprocAttr, bl, i64, smT, smE]; exact rfl)); first|refine c_bt ?_|refine c_bf ?_|show lrun _ _ _ _ _ _ _ _ _)|(apply l_call rfl (by decide) rfl; (case hc => (simp (disch := first|omega|exact kD rfl|exact kX rfl) only [smZ, tyA, simprocAttr, bl, i64, smT, smE]; exact rfl)); (case hg => assumption))))
      ((first | apply g_ret | apply g_end); case hres => (simp only [resL, rOs, rO, Option.map_some]; simp (disch := first|omega|exact kD rfl|exact kX rfl) only [smZ, tyA, simprocAttr, bl, i64, smT, smE]; exact rfl))
      simp (disch := first|omega|exact kD rfl|exact kX rfl) only [smZ, tyA, simprocAttr, bl, i64, smT, smE]
  · rw [if_neg h1] at he
    have h2 : ¬ prec < -100 := fun e => h1 (.inl e)
    have h3 : ¬ 1000 < prec := fun e => h1 (.inr e)
    by_cases h4 : psum (exL n xs) xs.length % 24 = 0
    · rw [if_neg (fun e => e h4)] at he
      have t1 := ht.2 h4
      have t2 : (psum (exL n xs) xs.length).tdiv 24 = psum (exL n xs) xs.length / 24 := Int.tdiv_eq_ediv_of_dvd (Int.dvd_of_emod_eq_zero h4)
      clear ht
      generalize psum (exS xs) xs.length = s0 at *
      generalize psum (exH n xs) xs.length = s2 at *
      generalize psum (exL n xs) xs.length = s1 at *
      have b1 : -2880000 ≤ s1 / 24 ∧ s1 / 24 ≤ 2880000 := by omega
      clear h4
      generalize s1 / 24 = h at *
      by_cases h5 : h < -100
      · rw [if_pos h5] at he
        cases he
        simp only [i64] at *
        refine good_of_lwp mix Tryz.func15 rfl (by decide) (nt := 106) rfl (rs := [.cell 4 31, .tmp 5]) rfl (Nat.le_of_ble_eq_true rfl) ?_
        (repeat (first|apply zO (by decide +kernel)|apply zP (by decide +kernel)|apply zA|apply zB|apply zF|apply zG|apply zH|apply zI|apply zJ|apply zK|apply zL (by decide)|apply zM|apply zN (by decide)|apply zD|apply zC|apply zE|((first|apply l_go rfl|apply c_dec); (case hs => (simp (disch := first|omega|exact kD rfl|exact kX rfl) only [smZ, tyA, simprocAttr, bl, i64, smT, smE, t1, t2]; exact rfl)); first|refine c_bt ?_|refine c_bf ?_|show lrun _ _ _ _ _ _ _ _ _)|(apply l_call rfl (by decide) rfl; (case hc => (simp (disch := first|omega|exact kD rfl|exact kX rfl) only [smZ, tyA, simprocAttr, bl, i64, smT, smE, t1, t2]; exact rfl)); (case hg => assumption))))
        ((first | apply g_ret | apply g_end); case hres => (simp only [resL, rOs, rO, Option.map_some]; simp (disch := first|omega|exact kD rfl|exact kX rfl) only [smZ, tyA, simprocAttr, bl, i64, smT, smE, t1, t2]; exact rfl))
        simp (disch := first|omega|exact kD rfl|exact kX rfl) only [smZ, tyA, simprocAttr, bl, i64, smT, smE, t1, t2]
      · rw [if_neg h5] at he
        by_cases h6 : prec ≤ h
        · rw [if_pos h6] at he
          cases he
          simp only [i64] at *
          refine good_of_lwp mix Tryz.func15 rfl (by decide) (nt := 106) rfl (rs := [.cell 4 31, .tmp 5]) rfl (Nat.le_of_ble_eq_true rfl) ?_
          (repeat (first|apply zO (by decide +kernel)|apply zP (by decide +kernel)|apply zA|apply zB|apply zF|apply zG|apply zH|apply zI|apply zJ|apply zK|apply zL (by decide)|apply zM|apply zN (by decide)|apply zD|apply zC|apply zE|((first|apply l_go rfl|apply c_dec); (case hs => (simp (disch := first|omega|exact kD rfl|exact kX rfl) only [smZ, tyA, simprocAttr, bl, i64, smT, smE, t1, t2]; exact rfl)); first|refine c_bt ?_|refine c_bf ?_|show lrun _ _ _ _ _ _ _ _ _)|(apply l_call rfl (by decide) rfl; (case hc => (simp (disch := first|omega|exact kD rfl|exact kX rfl) only [smZ, tyA, simprocAttr, bl, i64, smT, smE, t1, t2]; exact rfl)); (case hg => assumption))))
          ((first | apply g_ret | apply g_end); case hres => (simp only [resL, rOs, rO, Option.map_some]; simp (disch := first|omega|exact kD rfl|exact kX rfl) only [smZ, tyA, simprocAttr, bl, i64, smT, smE, t1, t2]; exact rfl))
          simp (disch := first|omega|exact kD rfl|exact kX rfl) only [smZ, tyA, simprocAttr, bl, i64, smT, smE, t1, t2]
        · rw [if_neg h6] at he
          cases he
    · rw [if_pos h4] at he
      cases he
      have t1 : ¬ (psum (exL n xs) xs.length).tmod 24 = 0 := fun e => h4 (ht.1 e)
      clear ht
      generalize psum (exS xs) xs.length = s0 at *
      generalize psum (exH n xs) xs.length = s2 at *
      generalize psum (exL n xs) xs.length = s1 at *
      simp only [i64] at *
      refine good_of_lwp mix Tryz.func15 rfl (by decide) (nt := 106) rfl (rs := [.cell 4 31, .tmp 5]) rfl (Nat.le_of_ble_eq_true rfl) ?_
      (repeat (first|apply zO (by decide +kernel)|apply zP (by decide +kernel)|apply zA|apply zB|apply zF|apply zG|apply zH|apply zI|apply zJ|apply zK|apply zL (by decide)|apply zM|apply zN (by decide)|apply zD|apply zC|apply zE|((first|apply l_go rfl|apply c_dec); (case hs => (simp (disch := first|omega|exact kD rfl|exact kX rfl) only [smZ, tyA, simprocAttr, bl, i64, smT, smE]; exact rfl)); first|refine c_bt ?_|refine c_bf ?_|show lrun _ _ _ _ _ _ _ _ _)|(apply l_call rfl (by decide) rfl; (case hc => (simp (disch := first|omega|exact kD rfl|exact kX rfl) only [smZ, tyA, simprocAttr, bl, i64, smT, smE]; exact rfl)); (case hg => assumption))))
      ((first | apply g_ret | apply g_end); case hres => (simp only [resL, rOs, rO, Option.map_some]; simp (disch := first|omega|exact kD rfl|exact kX rfl) only [smZ, tyA, simprocAttr, bl, i64, smT, smE]; exact rfl))
      simp (disch := first|omega|exact kD rfl|exact kX rfl) only [smZ, tyA, simprocAttr, bl, i64, smT, smE]
theorem rexpand_emp {n : Nat} {xs : List Int} (ok : EtaOk n xs) (g0 : PureGood Tryz.prog 23 [.agg [i64 n, .sl xs.length (ec xs)]] (i64 0)) (prec : Int) (hpr : -9223372036854775808 ≤ prec ∧ prec ≤ 9223372036854775807) {f e : Int} (he : expErr n xs prec = some (f, e)) :
    PureGood Tryz.prog 16 [.agg [i64 n, .sl xs.length (ec xs)], i64 prec] (.tup [.agg [i64 f, .sl 0 []], i64 e]) := by
  have ge : PureGood Tryz.prog 67 [i64 prec] (.agg [i64 prec, .sl 0 []]) := by
    refine good_of_lwp mix Tryz.func67 rfl (by decide) (nt := 5) rfl (rs := [.cell 2 31]) rfl (Nat.le_of_ble_eq_true rfl) ?_
    (repeat (first|apply zO (by decide +kernel)|apply zP (by decide +kernel)|apply zA|apply zB|apply zF|apply zG|apply zH|apply zI|apply zJ|apply zK|apply zL (by decide)|apply zM|apply zN (by decide)|apply zD|apply zC|apply zE|((first|apply l_go rfl|apply c_dec); (case hs => (simp (disch := first|omega|exact kD rfl|exact kX rfl) only [smZ, tyA, simprocAttr, bl, i64, smT, smE]; exact rfl)); first|refine c_bt ?_|refine c_bf ?_|show lrun _ _ _ _ _ _ _ _ _)|(apply l_call rfl (by decide) rfl; (case hc => (simp (disch := first|omega|exact kD rfl|exact kX rfl) only [smZ, tyA, simprocAttr, bl, i64, smT, smE]; exact rfl)); (case hg => assumption))))
    ((first | apply g_ret | apply g_end); case hres => (simp only [resL, rOs, rO, Option.map_some]; simp (disch := first|omega|exact kD rfl|exact kX rfl) only [smZ, tyA, simprocAttr, bl, i64, smT, smE]; exact rfl))
    simp (disch := first|omega|exact kD rfl|exact kX rfl) only [smZ, tyA, simprocAttr, bl, i64, smT, smE]
  have n1 := ok.n1
  have n2 := ok.n2
  have l1 := ok.len_le
  have b0 := ok.s1 (Nat.le_refl xs.length)
  unfold expErr at he
  have g1 := rsum1_good ok
  have ht := tmod_iff (psum (exL n xs) xs.length) 24
  by_cases h1 : prec < -100 ∨ 1000 < prec
  · rw [if_pos h1] at he
    cases he
    by_cases h2 : prec < -100
    · refine good_of_lwp mix Tryz.func16 rfl (by decide) (nt := 82) rfl (rs := [.cell 4 31, .tmp 5]) rfl (Nat.le_of_ble_eq_true rfl) ?_
      (repeat (first|apply zO (by decide +kernel)|apply zP (by decide +kernel)|apply zA|apply zB|apply zF|apply zG|apply zH|apply zI|apply zJ|apply zK|apply zL (by decide)|apply zM|apply zN (by decide)|apply zD|apply zC|apply zE|((first|apply l_go rfl|apply c_dec); (case hs => (simp (disch := first|omega|exact kD rfl|exact kX rfl) only [smZ, tyA, simprocAttr, bl, i64, smT, smE]; exact rfl)); first|refine c_bt ?_|refine c_bf ?_|show lrun _ _ _ _ _ _ _ _ _)|(apply l_call rfl (by decide) rfl; (case hc => (simp (disch := first|omega|exact kD rfl|exact kX rfl) only [smZ, tyA, simprocAttr, bl, i64, smT, smE]; exact rfl)); (case hg => assumption))))
      ((first | apply g_ret | apply g_end); case hres => (simp only [resL, rOs, rO, Option.map_some]; simp (disch := first|omega|exact kD rfl|exact kX rfl) only [smZ, tyA, simprocAttr, bl, i64, smT, smE]; exact rfl))
      simp (disch := first|omega|exact kD rfl|exact kX rfl) only [smZ, tyA, simprocAttr, bl, i64, smT, smE]
    · refine good_of_lwp mix Tryz.func16 rfl (by decide) (nt := 82) rfl (rs := [.cell 4 31, .tmp 5]) rfl (Nat.le_of_ble_eq_true rfl) ?_
      (repeat (first|apply zO (by decide +kernel)|apply zP (by decide +kernel)|apply zA|apply zB|apply zF|apply zG|apply zH|apply zI|apply zJ|apply zK|apply zL (by decide)|apply zM|apply zN (by decide)|apply zD|apply zC|apply zE|((first|apply l_go rfl|apply c_dec); (case hs => (simp (disch := first|omega|exact kD rfl|exact kX rfl) only [smZ, tyA, simprocAttr, bl, i64, smT, smE]; exact rfl)); first|refine c_bt ?_|refine c_bf ?_|show lrun _ _ _ _ _ _ _ _ _)|(apply l_call rfl (by decide) rfl; (case hc => (simp (disch := first|omega|exact kD rfl|exact kX rfl) only [smZ, tyA, simprocAttr, bl, i64, smT, smE]; exact rfl)); (case hg => assumption))))
      ((first | apply g_ret | apply g_end); case hres => (simp only [resL, rOs, rO, Option.map_some]; simp (disch := first|omega|exact kD rfl|exact kX rfl) only [smZ, tyA, simprocAttr, bl, i64, smT, smE]; exact rfl))
      simp (disch := first|omega|exact kD rfl|exact kX rfl) only [smZ, tyA, simprocAttr, bl, i64, smT, smE]
  · rw [if_neg h1] at he
    have h2 : ¬ prec < -100 := fun e => h1 (.inl e)
    have h3 : ¬ 1000 < prec := fun e => h1 (.inr e)
    by_cases h4 : psum (exL n xs) xs.length % 24 = 0
    · rw [if_neg (fun e => e h4)] at he
      have t1 := ht.2 h4
      have t2 : (psum (exL n xs) xs.length).tdiv 24 = psum (exL n xs) xs.length / 24 := Int.tdiv_eq_ediv_of_dvd (Int.dvd_of_emod_eq_zero h4)
      clear ht
      generalize psum (exS xs) xs.length = s0 at *
      generalize psum (exH n xs) xs.length = s2 at *
      generalize psum (exL n xs) xs.length = s1 at *
      have b1 : -2880000 ≤ s1 / 24 ∧ s1 / 24 ≤ 2880000 := by omega
      clear h4
      generalize s1 / 24 = h at *
      by_cases h5 : h < -100
      · rw [if_pos h5] at he
        cases he
        simp only [i64] at *
        refine good_of_lwp mix Tryz.func16 rfl (by decide) (nt := 82) rfl (rs := [.cell 4 31, .tmp 5]) rfl (Nat.le_of_ble_eq_true rfl) ?_
        (repeat (first|apply zO (by decide +kernel)|apply zP (by decide +kernel)|apply zA|apply zB|apply zF|apply zG|apply zH|apply zI|apply zJ|apply zK|apply zL (by decide)|apply zM|apply zN (by decide)|apply zD|apply zC|apply zE|((first|apply l_go rfl|apply c_dec); (case hs => (simp (disch := first|omega|exact kD rfl|exact kX rfl) only [smZ, tyA, simprocAttr, bl, i64, smT, smE, t1, t2]; exact rfl)); first|refine c_bt ?_|refine c_bf ?_|show lrun _ _ _ _ _ _ _ _ _)|(apply l_call rfl (by decide) rfl; (case hc => (simp (disch := first|omega|exact kD rfl|exact kX rfl) only [smZ, tyA, simprocAttr, bl, i64, smT, smE, t1, t2]; exact rfl)); (case hg => assumption))))
        ((first | apply g_ret | apply g_end); case hres => (simp only [resL, rOs, rO, Option.map_some]; simp (disch := first|omega|exact kD rfl|exact kX rfl) only [smZ, tyA, simprocAttr, bl, i64, smT, smE, t1, t2]; exact rfl))
        simp (disch := first|omega|exact kD rfl|exact kX rfl) only [smZ, tyA, simprocAttr, bl, i64, smT, smE, t1, t2]
      · rw [if_neg h5] at he
        by_cases h6 : prec ≤ h
        · rw [if_pos h6] at he
          cases he
          simp only [i64] at *
          refine good_of_lwp mix Tryz.func16 rfl (by decide) (nt := 82) rfl (rs := [.cell 4 31, .tmp 5]) rfl (Nat.le_of_ble_eq_true rfl) ?_
          (repeat (first|apply zO (by decide +kernel)|apply zP (by decide +kernel)|apply zA|apply zB|apply zF|apply zG|apply zH|apply zI|apply zJ|apply zK|apply zL (by decide)|apply zM|apply zN (by decide)|apply zD|apply zC|apply zE|((first|apply l_go rfl|apply c_dec); (case hs => (simp (disch := first|omega|exact kD rfl|exact kX rfl) only [smZ, tyA, simprocAttr, bl, i64, smT, smE, t1, t2]; exact rfl)); first|refine c_bt ?_|refine c_bf ?_|show lrun _ _ _ _ _ _ _ _ _)|(apply l_call rfl (by decide) rfl; (case hc => (simp (disch := first|omega|exact kD rfl|exact kX rfl) only [smZ, tyA, simprocAttr, bl, i64, smT, smE, t1, t2]; exact rfl)); (case hg => assumption))))
          ((first | apply g_ret | apply g_end); case hres => (simp only [resL, rOs, rO, Option.map_some]; simp (disch := first|omega|exact kD rfl|exact kX rfl) only [smZ, tyA, simprocAttr, bl, i64, smT, smE, t1, t2]; exact rfl))
          simp (disch := first|omega|exact kD rfl|exact kX rfl) only [smZ, tyA, simprocAttr, bl, i64, smT, smE, t1, t2]
        · rw [if_neg h6] at he
          cases he
    · rw [if_pos h4] at he
      cases he
      have t1 : ¬ (psum (exL n xs) xs.length).tmod 24 = 0 := fun e => h4 (ht.1 e)
      clear ht
      generalize psum (exS xs) xs.length = s0 at *
      generalize psum (exH n xs) xs.length = s2 at *
      generalize psum (exL n xs) xs.length = s1 at *
      simp only [i64] at *
      refine good_of_lwp mix Tryz.func16 rfl (by decide) (nt := 82) rfl (rs := [.cell 4 31, .tmp 5]) rfl (Nat.le_of_ble_eq_true rfl) ?_
      (repeat (first|apply zO (by decide +kernel)|apply zP (by decide +kernel)|apply zA|apply zB|apply zF|apply zG|apply zH|apply zI|apply zJ|apply zK|apply zL (by decide)|apply zM|apply zN (by decide)|apply zD|apply zC|apply zE|((first|apply l_go rfl|apply c_dec); (case hs => (simp (disch := first|omega|exact kD rfl|exact kX rfl) only [smZ, tyA, simprocAttr, bl, i64, smT, smE]; exact rfl)); first|refine c_bt ?_|refine c_bf ?_|show lrun _ _ _ _ _ _ _ _ _)|(apply l_call rfl (by decide) rfl; (case hc => (simp (disch := first|omega|exact kD rfl|exact kX rfl) only [smZ, tyA, simprocAttr, bl, i64, smT, smE]; exact rfl)); (case hg => assumption))))
      ((first | apply g_ret | apply g_end); case hres => (simp only [resL, rOs, rO, Option.map_some]; simp (disch := first|omega|exact kD rfl|exact kX rfl) only [smZ, tyA, simprocAttr, bl, i64, smT, smE]; exact rfl))
      simp (disch := first|omega|exact kD rfl|exact kX rfl) only [smZ, tyA, simprocAttr, bl, i64, smT, smE]
theorem expErr_none {n : Nat} {xs : List Int} {prec : Int} (he : expErr n xs prec = none) : (-100 ≤ prec ∧ prec ≤ 1000) ∧ psum (exL n xs) xs.length = 24 * (psum (exL n xs) xs.length / 24) ∧ -100 ≤ psum (exL n xs) xs.length / 24 ∧ psum (exL n xs) xs.length / 24 < prec := by
  unfold expErr at he
  generalize psum (exL n xs) xs.length = s at *
  split at he
  · cases he
  · split at he
    · cases he
    · split at he
      · cases he
      · split at he
        · cases he
        · omega
theorem rFirst_good (lv : Int) (xs : List Int) (hlv : -9223372036854775808 ≤ lv ∧ lv ≤ 9223372036854775807) (hl : xs.length ≤ 1000000) : PureGood Tryz.prog 14 [.agg [i64 lv, .sl xs.length (ec xs)]]
    (.tup [i64 (if etaErr lv xs = 0 ∧ psum (exL lv.toNat xs) xs.length % 24 = 0 then psum (exL lv.toNat xs) xs.length / 24 else 0), i64 (if etaErr lv xs = 0 then (if psum (exL lv.toNat xs) xs.length % 24 = 0 then 0 else 6) else etaErr lv xs)]) := by
  have g0 := rcheck_good lv xs hlv hl
  by_cases h : etaErr lv xs = 0
  · obtain ⟨n, rfl, ok⟩ := etaOk_of h
    rw [h] at g0
    rw [if_pos h, Int.toNat_natCast]
    have n1 := ok.n1
    have n2 := ok.n2
    have g1 := rsum1_good ok
    have b0 := ok.s1 (Nat.le_refl xs.length)
    have ht := tmod_iff (psum (exL n xs) xs.length) 24
    by_cases h4 : psum (exL n xs) xs.length % 24 = 0
    · rw [if_pos ⟨h, h4⟩, if_pos h4]
      have t1 := ht.2 h4
      have t2 : (psum (exL n xs) xs.length).tdiv 24 = psum (exL n xs) xs.length / 24 := Int.tdiv_eq_ediv_of_dvd (Int.dvd_of_emod_eq_zero h4)
      clear ht
      generalize psum (exL n xs) xs.length = s1 at *
      have b1 : -2880000 ≤ s1 / 24 ∧ s1 / 24 ≤ 2880000 := by omega
      clear h4
      generalize s1 / 24 = h at *
      simp only [i64] at *
      refine good_of_lwp mix Tryz.func14 rfl (by decide) (nt := 17) rfl (rs := [.tmp 2, .tmp 3]) rfl (Nat.le_of_ble_eq_true rfl) ?_
      (repeat (first|apply zO (by decide +kernel)|apply zP (by decide +kernel)|apply zA|apply zB|apply zF|apply zG|apply zH|apply zI|apply zJ|apply zK|apply zL (by decide)|apply zM|apply zN (by decide)|apply zD|apply zC|apply zE|((first|apply l_go rfl|apply c_dec); (case hs => (simp (disch := first|omega|exact kD rfl|exact kX rfl) only [smZ, tyA, simprocAttr, bl, i64, smT, smE, t1, t2]; exact rfl)); first|refine c_bt ?_|refine c_bf ?_|show lrun _ _ _ _ _ _ _ _ _)|(apply l_call rfl (by decide) rfl; (case hc => (simp (disch := first|omega|exact kD rfl|exact kX rfl) only [smZ, tyA, simprocAttr, bl, i64, smT, smE, t1, t2]; exact rfl)); (case hg => assumption))))
      ((first | apply g_ret | apply g_end); case hres => (simp only [resL, rOs, rO, Option.map_some]; simp (disch := first|omega|exact kD rfl|exact kX rfl) only [smZ, tyA, simprocAttr, bl, i64, smT, smE, t1, t2]; exact rfl))
      simp (disch := first|omega|exact kD rfl|exact kX rfl) only [smZ, tyA, simprocAttr, bl, i64, smT, smE, t1, t2]
    · rw [if_neg (fun e => h4 e.2), if_neg h4]
      have t1 : ¬ (psum (exL n xs) xs.length).tmod 24 = 0 := fun e => h4 (ht.1 e)
      clear ht
      generalize psum (exL n xs) xs.length = s1 at *
      simp only [i64] at *
      refine good_of_lwp mix Tryz.func14 rfl (by decide) (nt := 17) rfl (rs := [.tmp 2, .tmp 3]) rfl (Nat.le_of_ble_eq_true rfl) ?_
      (repeat (first|apply zO (by decide +kernel)|apply zP (by decide +kernel)|apply zA|apply zB|apply zF|apply zG|apply zH|apply zI|apply zJ|apply zK|apply zL (by decide)|apply zM|apply zN (by decide)|apply zD|apply zC|apply zE|((first|apply l_go rfl|apply c_dec); (case hs => (simp (disch := first|omega|exact kD rfl|exact kX rfl) only [smZ, tyA, simprocAttr, bl, i64, smT, smE]; exact rfl)); first|refine c_bt ?_|refine c_bf ?_|show lrun _ _ _ _ _ _ _ _ _)|(apply l_call rfl (by decide) rfl; (case hc => (simp (disch := first|omega|exact kD rfl|exact kX rfl) only [smZ, tyA, simprocAttr, bl, i64, smT, smE]; exact rfl)); (case hg => assumption))))
      ((first | apply g_ret | apply g_end); case hres => (simp only [resL, rOs, rO, Option.map_some]; simp (disch := first|omega|exact kD rfl|exact kX rfl) only [smZ, tyA, simprocAttr, bl, i64, smT, smE]; exact rfl))
      simp (disch := first|omega|exact kD rfl|exact kX rfl) only [smZ, tyA, simprocAttr, bl, i64, smT, smE]
  · rw [if_neg h, if_neg (fun e => h e.1)]
    generalize etaErr lv xs = er at *
    simp only [i64] at *
    refine good_of_lwp mix Tryz.func14 rfl (by decide) (nt := 17) rfl (rs := [.tmp 2, .tmp 3]) rfl (Nat.le_of_ble_eq_true rfl) ?_
    (repeat (first|apply zO (by decide +kernel)|apply zP (by decide +kernel)|apply zA|apply zB|apply zF|apply zG|apply zH|apply zI|apply zJ|apply zK|apply zL (by decide)|apply zM|apply zN (by decide)|apply zD|apply zC|apply zE|((first|apply l_go rfl|apply c_dec); (case hs => (simp (disch := first|omega|exact kD rfl|exact kX rfl) only [smZ, tyA, simprocAttr, bl, i64, smT, smE]; exact rfl)); first|refine c_bt ?_|refine c_bf ?_|show lrun _ _ _ _ _ _ _ _ _)|(apply l_call rfl (by decide) rfl; (case hc => (simp (disch := first|omega|exact kD rfl|exact kX rfl) only [smZ, tyA, simprocAttr, bl, i64, smT, smE]; exact rfl)); (case hg => assumption))))
    ((first | apply g_ret | apply g_end); case hres => (simp only [resL, rOs, rO, Option.map_some]; simp (disch := first|omega|exact kD rfl|exact kX rfl) only [smZ, tyA, simprocAttr, bl, i64, smT, smE]; exact rfl))
    simp (disch := first|omega|exact kD rfl|exact kX rfl) only [smZ, tyA, simprocAttr, bl, i64, smT, smE]
/-- Both expansions are the same. -/
theorem exp_both (lv : Int) (xs : List Int) (hlv : -9223372036854775808 ≤ lv ∧ lv ≤ 9223372036854775807) (hl : xs.length ≤ 1000000) (prec : Int) (hpr : -9223372036854775808 ≤ prec ∧ prec ≤ 9223372036854775807)
    (hs : etaErr lv xs = 0 → prec ≤ 1000 → psum (exL lv.toNat xs) xs.length % 24 = 0 → prec ≤ psum (exL lv.toNat xs) xs.length / 24 + 60) :
    ∃ (f : Int) (l : List Rat) (e : Int), (-9223372036854775808 ≤ f ∧ f ≤ 9223372036854775807) ∧ l.length ≤ 1000000 ∧ (∀ q ∈ l, lq q ≤ 100000) ∧
      PureGood Tryz.prog 15 [.agg [i64 lv, .sl xs.length (ec xs)], i64 prec] (.tup [.agg [i64 f, .sl l.length (qc l)], i64 e]) ∧
      PureGood Tryz.prog 16 [.agg [i64 lv, .sl xs.length (ec xs)], i64 prec] (.tup [.agg [i64 f, .sl l.length (qc l)], i64 e]) := by
  have g0 := check_good lv xs hlv hl
  have g0' := rcheck_good lv xs hlv hl
  by_cases h : etaErr lv xs = 0
  · have hs := hs h
    obtain ⟨n, rfl, ok⟩ := etaOk_of h
    rw [h] at g0 g0'
    rw [Int.toNat_natCast] at hs
    have b0 := ok.s1 (Nat.le_refl xs.length)
    cases he : expErr n xs prec with
    | some p =>
      obtain ⟨f, e⟩ := p
      refine ⟨f, [], e, ?_, by simp, by simp, expand_emp ok g0 prec hpr he, rexpand_emp ok g0' prec hpr he⟩
      unfold expErr at he
      generalize psum (exL n xs) xs.length = s at *
      split at he
      · cases he; omega
      · split at he
        · cases he; omega
        · split at he
          · cases he; omega
          · split at he
            · cases he; omega
            · cases he
    | none =>
      obtain ⟨h1, h2, h3, h4⟩ := expErr_none he
      have h5 : psum (exL n xs) xs.length % 24 = 0 := by omega
      have h6 := hs h1.2 h5
      generalize hh : psum (exL n xs) xs.length / 24 = q at *
      obtain ⟨N, hN⟩ : ∃ N : Nat, prec - q - 1 = N := ⟨(prec - q - 1).toNat, by omega⟩
      have lc := etaC_len n xs N
      have P := prodOk_aQ (c := etaC n xs N) (by omega) (etaC_small ok N)
      refine ⟨q, aP (aQ (sS (etaC n xs N))) (N + 1), 0, by omega, by rw [aP_len]; omega, ?_, ?_, ?_⟩
      · intro r hr
        simp only [aP, List.mem_map] at hr
        obtain ⟨i, hi, rfl⟩ := hr
        have := List.mem_range.1 hi
        have := P.ba i (by omega)
        omega
      · rw [aP_len]
        exact expand_in ok g0 prec h1 q (by unfold lowS; exact h2) h3 N hN P
      · rw [aP_len]
        exact rexpand_in ok g0' prec h1 q h2 h3 N hN P
  · refine ⟨0, [], etaErr lv xs, by omega, by simp, by simp, ?_, ?_⟩
    · rw [qc_nil, List.length_nil]
      generalize etaErr lv xs = er at *
      simp only [i64] at *
      refine good_of_lwp mix Tryz.func15 rfl (by decide) (nt := 106) rfl (rs := [.cell 4 31, .tmp 5]) rfl (Nat.le_of_ble_eq_true rfl) ?_
      (repeat (first|apply zO (by decide +kernel)|apply zP (by decide +kernel)|apply zA|apply zB|apply zF|apply zG|apply zH|apply zI|apply zJ|apply zK|apply zL (by decide)|apply zM|apply zN (by decide)|apply zD|apply zC|apply zE|((first|apply l_go rfl|apply c_dec); (case hs => (simp (disch := first|omega|exact kD rfl|exact kX rfl) only [smZ, tyA, simprocAttr, bl, i64, smT, smE]; exact rfl)); first|refine c_bt ?_|refine c_bf ?_|show lrun _ _ _ _ _ _ _ _ _)|(apply l_call rfl (by decide) rfl; (case hc => (simp (disch := first|omega|exact kD rfl|exact kX rfl) only [smZ, tyA, simprocAttr, bl, i64, smT, smE]; exact rfl)); (case hg => assumption))))
      ((first | apply g_ret | apply g_end); case hres => (simp only [resL, rOs, rO, Option.map_some]; simp (disch := first|omega|exact kD rfl|exact kX rfl) only [smZ, tyA, simprocAttr, bl, i64, smT, smE]; exact rfl))
      simp (disch := first|omega|exact kD rfl|exact kX rfl) only [smZ, tyA, simprocAttr, bl, i64, smT, smE]
    · rw [qc_nil, List.length_nil]
      generalize etaErr lv xs = er at *
      simp only [i64] at *
      refine good_of_lwp mix Tryz.func16 rfl (by decide) (nt := 82) rfl (rs := [.cell 4 31, .tmp 5]) rfl (Nat.le_of_ble_eq_true rfl) ?_
      (repeat (first|apply zO (by decide +kernel)|apply zP (by decide +kernel)|apply zA|apply zB|apply zF|apply zG|apply zH|apply zI|apply zJ|apply zK|apply zL (by decide)|apply zM|apply zN (by decide)|apply zD|apply zC|apply zE|((first|apply l_go rfl|apply c_dec); (case hs => (simp (disch := first|omega|exact kD rfl|exact kX rfl) only [smZ, tyA, simprocAttr, bl, i64, smT, smE]; exact rfl)); first|refine c_bt ?_|refine c_bf ?_|show lrun _ _ _ _ _ _ _ _ _)|(apply l_call rfl (by decide) rfl; (case hc => (simp (disch := first|omega|exact kD rfl|exact kX rfl) only [smZ, tyA, simprocAttr, bl, i64, smT, smE]; exact rfl)); (case hg => assumption))))
      ((first | apply g_ret | apply g_end); case hres => (simp only [resL, rOs, rO, Option.map_some]; simp (disch := first|omega|exact kD rfl|exact kX rfl) only [smZ, tyA, simprocAttr, bl, i64, smT, smE]; exact rfl))
      simp (disch := first|omega|exact kD rfl|exact kX rfl) only [smZ, tyA, simprocAttr, bl, i64, smT, smE]
theorem lawExpansions_good (ha : PureGood Tryz.prog 13 [] (.lit (.bool true))) (lv : Int) (xs : List Int) (hlv : -9223372036854775808 ≤ lv ∧ lv ≤ 9223372036854775807) (prec : Int) (hpr : -9223372036854775808 ≤ prec ∧ prec ≤ 9223372036854775807) : PureGood Tryz.prog 3 [.agg [i64 lv, .sl xs.length (ec xs)], i64 prec] (.lit (.bool true)) := by
  have g0 := great_good lv xs
  by_cases h : 40 < xs.length
  · rw [dec_t h] at g0
    simp only [i64, bl] at *
    refine good_of_lwp mix Tryz.func3 rfl (by decide) (nt := 63) rfl (rs := [.tmp 4]) rfl (Nat.le_of_ble_eq_true rfl) ?_
    (repeat (first|apply zO (by decide +kernel)|apply zP (by decide +kernel)|apply zA|apply zB|apply zF|apply zG|apply zH|apply zI|apply zJ|apply zK|apply zL (by decide)|apply zM|apply zN (by decide)|apply zD|apply zC|apply zE|((first|apply l_go rfl|apply c_dec); (case hs => (simp (disch := first|omega|exact kD rfl|exact kX rfl) only [smZ, tyA, simprocAttr, bl, i64, smT, smE]; exact rfl)); first|refine c_bt ?_|refine c_bf ?_|show lrun _ _ _ _ _ _ _ _ _)|(apply l_call rfl (by decide) rfl; (case hc => (simp (disch := first|omega|exact kD rfl|exact kX rfl) only [smZ, tyA, simprocAttr, bl, i64, smT, smE]; exact rfl)); (case hg => assumption))))
    dsimp only
    (repeat (first|apply zO (by decide +kernel)|apply zP (by decide +kernel)|apply zA|apply zB|apply zF|apply zG|apply zH|apply zI|apply zJ|apply zK|apply zL (by decide)|apply zM|apply zN (by decide)|apply zD|apply zC|apply zE|((first|apply l_go rfl|apply c_dec); (case hs => (simp (disch := first|omega|exact kD rfl|exact kX rfl) only [smZ, tyA, simprocAttr, bl, i64, smT, smE]; exact rfl)); first|refine c_bt ?_|refine c_bf ?_|show lrun _ _ _ _ _ _ _ _ _)|(apply l_call rfl (by decide) rfl; (case hc => (simp (disch := first|omega|exact kD rfl|exact kX rfl) only [smZ, tyA, simprocAttr, bl, i64, smT, smE]; exact rfl)); (case hg => assumption))))
    ((first | apply g_ret | apply g_end); case hres => (simp only [resL, rOs, rO, Option.map_some]; simp (disch := first|omega|exact kD rfl|exact kX rfl) only [smZ, tyA, simprocAttr, bl, i64, smT, smE]; exact rfl))
    simp (disch := first|omega|exact kD rfl|exact kX rfl) only [smZ, tyA, simprocAttr, bl, i64, smT, smE]
  · rw [dec_f h] at g0
    by_cases h2 : 60 < prec ∧ prec ≤ 1000
    · simp only [i64, bl] at *
      refine good_of_lwp mix Tryz.func3 rfl (by decide) (nt := 63) rfl (rs := [.tmp 4]) rfl (Nat.le_of_ble_eq_true rfl) ?_
      (repeat (first|apply zO (by decide +kernel)|apply zP (by decide +kernel)|apply zA|apply zB|apply zF|apply zG|apply zH|apply zI|apply zJ|apply zK|apply zL (by decide)|apply zM|apply zN (by decide)|apply zD|apply zC|apply zE|((first|apply l_go rfl|apply c_dec); (case hs => (simp (disch := first|omega|exact kD rfl|exact kX rfl) only [smZ, tyA, simprocAttr, bl, i64, smT, smE]; exact rfl)); first|refine c_bt ?_|refine c_bf ?_|show lrun _ _ _ _ _ _ _ _ _)|(apply l_call rfl (by decide) rfl; (case hc => (simp (disch := first|omega|exact kD rfl|exact kX rfl) only [smZ, tyA, simprocAttr, bl, i64, smT, smE]; exact rfl)); (case hg => assumption))))
      ((first | apply g_ret | apply g_end); case hres => (simp only [resL, rOs, rO, Option.map_some]; simp (disch := first|omega|exact kD rfl|exact kX rfl) only [smZ, tyA, simprocAttr, bl, i64, smT, smE]; exact rfl))
      simp (disch := first|omega|exact kD rfl|exact kX rfl) only [smZ, tyA, simprocAttr, bl, i64, smT, smE]
    · have g1 := rFirst_good lv xs hlv (by omega)
      have hb := exp_both lv xs hlv (by omega) prec hpr
      have hq : ∃ F E : Int, PureGood Tryz.prog 14 [.agg [i64 lv, .sl xs.length (ec xs)]] (.tup [i64 F, i64 E]) ∧ (-2880000 ≤ F ∧ F ≤ 2880000) ∧ (¬ (E = 0 ∧ prec ≤ 1000 ∧ F + 60 < prec) → etaErr lv xs = 0 → prec ≤ 1000 → psum (exL lv.toNat xs) xs.length % 24 = 0 → prec ≤ psum (exL lv.toNat xs) xs.length / 24 + 60) := by
        refine ⟨_, _, g1, ?_, ?_⟩
        · split
          · rename_i hc
            obtain ⟨n, rfl, ok⟩ := etaOk_of hc.1
            have b0 := ok.s1 (Nat.le_refl xs.length)
            rw [Int.toNat_natCast]
            omega
          · omega
        · intro a1 a2 a3 a4
          simp only [a2, a4, and_self, if_true, true_and] at a1
          omega
      clear g1
      obtain ⟨F, E, g1, bF, hF⟩ := hq
      by_cases h3 : E = 0 ∧ prec ≤ 1000 ∧ F + 60 < prec
      · clear hb hF
        obtain ⟨rfl, h4, h5⟩ := h3
        simp only [i64, bl] at *
        refine good_of_lwp mix Tryz.func3 rfl (by decide) (nt := 63) rfl (rs := [.tmp 4]) rfl (Nat.le_of_ble_eq_true rfl) ?_
        (repeat (first|apply zO (by decide +kernel)|apply zP (by decide +kernel)|apply zA|apply zB|apply zF|apply zG|apply zH|apply zI|apply zJ|apply zK|apply zL (by decide)|apply zM|apply zN (by decide)|apply zD|apply zC|apply zE|((first|apply l_go rfl|apply c_dec); (case hs => (simp (disch := first|omega|exact kD rfl|exact kX rfl) only [smZ, tyA, simprocAttr, bl, i64, smT, smE]; exact rfl)); first|refine c_bt ?_|refine c_bf ?_|show lrun _ _ _ _ _ _ _ _ _)|(apply l_call rfl (by decide) rfl; (case hc => (simp (disch := first|omega|exact kD rfl|exact kX rfl) only [smZ, tyA, simprocAttr, bl, i64, smT, smE]; exact rfl)); (case hg => assumption))))
        ((first | apply g_ret | apply g_end); case hres => (simp only [resL, rOs, rO, Option.map_some]; simp (disch := first|omega|exact kD rfl|exact kX rfl) only [smZ, tyA, simprocAttr, bl, i64, smT, smE]; exact rfl))
        simp (disch := first|omega|exact kD rfl|exact kX rfl) only [smZ, tyA, simprocAttr, bl, i64, smT, smE]
      · obtain ⟨f, l, e, f1, l1, l2, r1, r2⟩ := hb (hF h3)
        have r3 := sameSeries_good f f1 l l1 l2
        clear hb hF
        simp only [i64, bl] at *
        by_cases h4 : E = 0
        · by_cases h5 : prec ≤ 1000
          · have h6 : ¬ F + 60 < prec := fun x => h3 ⟨h4, h5, x⟩
            subst h4
            refine good_of_lwp mix Tryz.func3 rfl (by decide) (nt := 63) rfl (rs := [.tmp 4]) rfl (Nat.le_of_ble_eq_true rfl) ?_
            (repeat (first|apply zO (by decide +kernel)|apply zP (by decide +kernel)|apply zA|apply zB|apply zF|apply zG|apply zH|apply zI|apply zJ|apply zK|apply zL (by decide)|apply zM|apply zN (by decide)|apply zD|apply zC|apply zE|((first|apply l_go rfl|apply c_dec); (case hs => (simp (disch := first|omega|exact kD rfl|exact kX rfl) only [smZ, tyA, simprocAttr, bl, i64, smT, smE]; exact rfl)); first|refine c_bt ?_|refine c_bf ?_|show lrun _ _ _ _ _ _ _ _ _)|(apply l_call rfl (by decide) rfl; (case hc => (simp (disch := first|omega|exact kD rfl|exact kX rfl) only [smZ, tyA, simprocAttr, bl, i64, smT, smE]; exact rfl)); (case hg => assumption))))
            ((first | apply g_ret | apply g_end); case hres => (simp only [resL, rOs, rO, Option.map_some]; simp (disch := first|omega|exact kD rfl|exact kX rfl) only [smZ, tyA, simprocAttr, bl, i64, smT, smE]; exact rfl))
            simp (disch := first|omega|exact kD rfl|exact kX rfl) only [smZ, tyA, simprocAttr, bl, i64, smT, smE]
          · subst h4
            refine good_of_lwp mix Tryz.func3 rfl (by decide) (nt := 63) rfl (rs := [.tmp 4]) rfl (Nat.le_of_ble_eq_true rfl) ?_
            (repeat (first|apply zO (by decide +kernel)|apply zP (by decide +kernel)|apply zA|apply zB|apply zF|apply zG|apply zH|apply zI|apply zJ|apply zK|apply zL (by decide)|apply zM|apply zN (by decide)|apply zD|apply zC|apply zE|((first|apply l_go rfl|apply c_dec); (case hs => (simp (disch := first|omega|exact kD rfl|exact kX rfl) only [smZ, tyA, simprocAttr, bl, i64, smT, smE]; exact rfl)); first|refine c_bt ?_|refine c_bf ?_|show lrun _ _ _ _ _ _ _ _ _)|(apply l_call rfl (by decide) rfl; (case hc => (simp (disch := first|omega|exact kD rfl|exact kX rfl) only [smZ, tyA, simprocAttr, bl, i64, smT, smE]; exact rfl)); (case hg => assumption))))
            ((first | apply g_ret | apply g_end); case hres => (simp only [resL, rOs, rO, Option.map_some]; simp (disch := first|omega|exact kD rfl|exact kX rfl) only [smZ, tyA, simprocAttr, bl, i64, smT, smE]; exact rfl))
            simp (disch := first|omega|exact kD rfl|exact kX rfl) only [smZ, tyA, simprocAttr, bl, i64, smT, smE]
        · by_cases h5 : 60 < prec
          · refine good_of_lwp mix Tryz.func3 rfl (by decide) (nt := 63) rfl (rs := [.tmp 4]) rfl (Nat.le_of_ble_eq_true rfl) ?_
            (repeat (first|apply zO (by decide +kernel)|apply zP (by decide +kernel)|apply zA|apply zB|apply zF|apply zG|apply zH|apply zI|apply zJ|apply zK|apply zL (by decide)|apply zM|apply zN (by decide)|apply zD|apply zC|apply zE|((first|apply l_go rfl|apply c_dec); (case hs => (simp (disch := first|omega|exact kD rfl|exact kX rfl) only [smZ, tyA, simprocAttr, bl, i64, smT, smE]; exact rfl)); first|refine c_bt ?_|refine c_bf ?_|show lrun _ _ _ _ _ _ _ _ _)|(apply l_call rfl (by decide) rfl; (case hc => (simp (disch := first|omega|exact kD rfl|exact kX rfl) only [smZ, tyA, simprocAttr, bl, i64, smT, smE]; exact rfl)); (case hg => assumption))))
            ((first | apply g_ret | apply g_end); case hres => (simp only [resL, rOs, rO, Option.map_some]; simp (disch := first|omega|exact kD rfl|exact kX rfl) only [smZ, tyA, simprocAttr, bl, i64, smT, smE]; exact rfl))
            simp (disch := first|omega|exact kD rfl|exact kX rfl) only [smZ, tyA, simprocAttr, bl, i64, smT, smE]
          · refine good_of_lwp mix Tryz.func3 rfl (by decide) (nt := 63) rfl (rs := [.tmp 4]) rfl (Nat.le_of_ble_eq_true rfl) ?_
            (repeat (first|apply zO (by decide +kernel)|apply zP (by decide +kernel)|apply zA|apply zB|apply zF|apply zG|apply zH|apply zI|apply zJ|apply zK|apply zL (by decide)|apply zM|apply zN (by decide)|apply zD|apply zC|apply zE|((first|apply l_go rfl|apply c_dec); (case hs => (simp (disch := first|omega|exact kD rfl|exact kX rfl) only [smZ, tyA, simprocAttr, bl, i64, smT, smE]; exact rfl)); first|refine c_bt ?_|refine c_bf ?_|show lrun _ _ _ _ _ _ _ _ _)|(apply l_call rfl (by decide) rfl; (case hc => (simp (disch := first|omega|exact kD rfl|exact kX rfl) only [smZ, tyA, simprocAttr, bl, i64, smT, smE]; exact rfl)); (case hg => assumption))))
            ((first | apply g_ret | apply g_end); case hres => (simp only [resL, rOs, rO, Option.map_some]; simp (disch := first|omega|exact kD rfl|exact kX rfl) only [smZ, tyA, simprocAttr, bl, i64, smT, smE]; exact rfl))
            simp (disch := first|omega|exact kD rfl|exact kX rfl) only [smZ, tyA, simprocAttr, bl, i64, smT, smE]
end Go.Proofs.YtbajpjjbaffnnaaGreat
