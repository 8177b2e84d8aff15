/- Contracts of functions of the program, and what proves them (texts: E5 E6 AwE). -/
import Derived.KernelRfl
import Derived.Test.YtbajpjjbaffnnaaGreatZFinFormsAC
import Derived.Test.YtbajpjjbaffnnaaGreatZFinFormsAO
set_option linter.all false
namespace Go.Proofs.YtbajpjjbaffnnaaGreat
open Go Go.Lg Go.Num
set_option maxRecDepth 100000
set_option maxHeartbeats 4000000
attribute [local irreducible] Go.Lg.lrun Go.Lg.lwp Go.Lg.exThen Go.Lg.exBlk Go.Lg.keep Go.Lg.goodPost ec dF vp psum
attribute [local irreducible] lprod below
theorem rdisc_in {n : Nat} {xs : List Int} (h : EtaOk n xs) : PureGood Tryz.prog 46 [.agg [i64 n, .sl xs.length (ec xs)]] (.tup [i64 (dscV n xs), i64 (dscE n xs)]) := by
  have n1 := h.n1
  have n2 := h.n2
  have hl := h.len
  have l1 := h.len_le
  have g1 := rcheck_good n xs (by omega) (by omega)
  rw [etaErr_ok h] at g1
  have g2 := rmodular_good h
  have g3 := rsum0_good h
  have g5 := rdivisors_good n1 n2
  have dl := divL_length n
  have bs := h.s0 (Nat.le_refl _)
  have gm := bmod_good (psum (exS xs) xs.length) 4 (by omega) (by omega)
  unfold dscV dscE
  rw [← hl] at g5 dl
  by_cases hm : mods n xs = true
  · rw [if_pos hm, if_pos hm, ← dF_last]
    rw [hm] at g2
    have hm0 : psum (exS xs) xs.length % 2 = 0 := by
      unfold mods at hm
      exact (tmod_iff _ _).1 (of_decide_eq_true hm).1
    have dL : dF n xs (prs n).length = (if psum (exS xs) xs.length % 4 = 0 then 1 else -1) * lprod (gP n xs) (below (n + 1)) := by
      rw [below_prs h]
      unfold dF
      rw [List.take_length]
    have bd := fun q => below_bd h q
    have dstep := fun (q : Nat) (hq : q ≤ 600) => below_step (n := n) (xs := xs) hq
    have b2 : lprod (gP n xs) (below 2) = 1 := by rw [below_two]; unfold lprod; rfl
    have hf : (psum (exS xs) xs.length % 4 = 0 ∧ PureGood Tryz.prog 102 [i64 (lprod (gP n xs) (below (n + 1)))] (i64 (fld (dF n xs (prs n).length)))) ∨ (psum (exS xs) xs.length % 4 = 2 ∧ PureGood Tryz.prog 102 [i64 (0 - lprod (gP n xs) (below (n + 1)))] (i64 (fld (dF n xs (prs n).length)))) := by
      have := bd (n + 1)
      by_cases h4 : psum (exS xs) xs.length % 4 = 0
      · rw [if_pos h4, Int.one_mul] at dL
        rw [dL]
        exact .inl ⟨h4, field_good _ (by omega)⟩
      · rw [if_neg h4] at dL
        have e : dF n xs (prs n).length = 0 - lprod (gP n xs) (below (n + 1)) := by rw [dL]; omega
        rw [e]
        exact .inr ⟨by omega, field_good _ (by omega)⟩
    generalize psum (exS xs) xs.length = s0 at *
    generalize fld (dF n xs (prs n).length) = res at *
    clear dL
    rw [i64, bl] at *
    refine good_of_lwp mix Tryz.func46 rfl (by decide) (nt := 70) rfl (rs := [.tmp 2, .tmp 3]) rfl (Nat.le_of_ble_eq_true rfl) ?_
    (repeat (first|apply zO (by decide +kernel)|apply zP (by decide +kernel)|apply zA|apply zB|apply zF|apply zG|apply zH|apply zI|apply zJ|apply zK|apply zL (by decide)|apply zM|apply zN (by decide)|apply zD|apply zC|apply zE|((first|apply l_go rfl|apply c_dec); (case hs => (simp (disch := first|omega|exact kD rfl|exact kX rfl) only [smZ, tyA, simprocAttr, bl, i64, smE]; exact rfl)); first|refine c_bt ?_|refine c_bf ?_|show lrun _ _ _ _ _ _ _ _ _)|(apply l_call rfl (by decide) rfl; (case hc => (simp (disch := first|omega|exact kD rfl|exact kX rfl) only [smZ, tyA, simprocAttr, bl, i64, smE]; exact rfl)); (case hg => assumption))))
    refine w_loop (α := {q : Nat // 2 ≤ q ∧ q ≤ n + 1}) (fun q => st 70 (lk [(1, .ptr 0 0), (5, .sl xs.length (ec (divL n))), (6, i64 (lprod (gP n xs) (below q.1))), (7, i64 q.1)]) (lkH [(0, ⟨24, [i64 n, .sl xs.length (ec xs)], false⟩)]) 1) (fun q => n + 1 - q.1) ⟨2, by omega, by omega⟩ ?_ ?_
    · (refine Sub.heap1 0 ?_ (by simp only [smF, dg, renL, renLs, simprocAttr, bl, i64, smE]; exact rfl) ?_ ?_; all_goals (first | exact dgs_plain _ | with_reducible rfl | (simp only [smF, dg, renL, renLs, simprocAttr, bl, i64, smE]; done) | (simp only [smF, dg, renL, renLs, simprocAttr, bl, i64, smE]) | skip))
      all_goals (first | exact ⟨rfl, rfl⟩ | simp [b2])
    · rintro ⟨q, hq1, hq2⟩
      simp only [st]
      have bF := bd q
      by_cases h1 : q ≤ n
      · have hs := dstep q (by omega)
        have bF2 := bd (q + 1)
        have gp := rprime_good (n := q) (by omega) (by omega)
        by_cases hc : primesT.contains q = true
        · rw [if_pos hc] at hs
          rw [hc, i64, bl] at gp
          clear hc
          (repeat (first|apply zO (by decide +kernel)|apply zP (by decide +kernel)|((fail_if_success refine is_bl ?_); apply zA)|apply zB|apply zF|apply zG|apply zH|apply zI|apply zJ|apply zK|apply zL (by decide)|apply zM|apply zN (by decide)|apply zD|apply zC|apply zE|((first|apply l_go rfl|apply c_dec); (case hs => (simp (disch := first|omega|exact kD rfl|exact kX rfl) only [smZ, tyA, simprocAttr, bl, i64, smE]; exact rfl)); first|refine c_bt ?_|refine c_bf ?_|show lrun _ _ _ _ _ _ _ _ _)))
          refine w_loop (α := {j : Nat // j ≤ xs.length}) (fun j => st 70 (lk [(1, .ptr 0 0), (5, .sl xs.length (ec (divL n))), (6, i64 (lprod (gP n xs) (below q))), (7, i64 q), (8, i64 (psum (cntR q n xs) j.1)), (9, i64 j.1)]) (lkH [(0, ⟨24, [i64 n, .sl xs.length (ec xs)], false⟩)]) 1) (fun j => xs.length - j.1) ⟨0, by simp⟩ ?_ ?_
          · (refine Sub.heap1 0 ?_ (by simp only [smF, dg, renL, renLs, simprocAttr, bl, i64, smE]; exact rfl) ?_ ?_; all_goals (first | exact dgs_plain _ | with_reducible rfl | (simp only [smF, dg, renL, renLs, simprocAttr, bl, i64, smE]; done) | (simp only [smF, dg, renL, renLs, simprocAttr, bl, i64, smE]) | skip))
            all_goals (first | exact ⟨rfl, rfl⟩ | simp [psum_z])
          · rintro ⟨j, hj⟩
            simp only [st]
            have bE := cR_bd (p := q) h hj
            by_cases h2 : j < xs.length
            · obtain ⟨d, e1, e2, e3, e4, e5⟩ := divL_get (n := n) (k := j) (hl ▸ h2)
              have c0 := h.get j
              have bE2 := cR_bd (p := q) h (k := j + 1) (by omega)
              have eE : psum (cntR q n xs) (j + 1) = psum (cntR q n xs) j + cntR q n xs j := psum_s _ _
              rw [cntR, e5] at eE
              rw [eE] at bE2
              generalize psum (cntR q n xs) j = E0 at *
              generalize hx : xs.getD j 0 = x at *
              (repeat (first|apply zO (by decide +kernel)|apply zP (by decide +kernel)|apply zA|apply zB|apply zF|apply zG|apply zH|apply zI|apply zJ|apply zK|apply zL (by decide)|apply zM|apply zN (by decide)|apply zD|apply zC|apply zE|((first|apply l_go rfl|apply c_dec); (case hs => (simp (disch := first|omega|exact kD rfl|exact kX rfl) only [smZ, tyA, simprocAttr, bl, i64, smE, hx, e1]; exact rfl)); first|refine c_bt ?_|refine c_bf ?_|show lrun _ _ _ _ _ _ _ _ _)|(apply l_call rfl (by decide) rfl; (case hc => (simp (disch := first|omega|exact kD rfl|exact kX rfl) only [smZ, tyA, simprocAttr, bl, i64, smE, hx, e1]; exact rfl)); (case hg => assumption))))
              refine w_loop (α := {y : Nat × Nat // 0 < y.1 ∧ y.1 ≤ d ∧ y.2 + vp q y.1 = vp q d}) (fun y => st 70 (lk [(1, .ptr 0 0), (5, .sl xs.length (ec (divL n))), (6, i64 (lprod (gP n xs) (below q))), (7, i64 q), (8, i64 (E0 + (y.1.2 : Int) * x)), (9, i64 j), (10, i64 y.1.1)]) (lkH [(0, ⟨24, [i64 n, .sl xs.length (ec xs)], false⟩)]) 1) (fun y => y.1.1) ⟨(d, 0), by simp only; omega, Nat.le_refl _, by simp⟩ ?_ ?_
              · (refine Sub.heap1 0 ?_ (by simp only [smF, dg, renL, renLs, simprocAttr, bl, i64, smE, hx, e1]; exact rfl) ?_ ?_; all_goals (first | exact dgs_plain _ | with_reducible rfl | (simp only [smF, dg, renL, renLs, simprocAttr, bl, i64, smE, hx, e1]; done) | (simp only [smF, dg, renL, renLs, simprocAttr, bl, i64, smE, hx, e1]) | skip))
                all_goals (first | exact ⟨rfl, rfl⟩ | simp)
              · rintro ⟨⟨y, m⟩, hy0, hy1, hy2⟩
                simp only at hy0 hy1 hy2
                simp only [st]
                have hv := vp_le q d
                have bm := mul_bd (a := (m : Int)) (b := x) (A := 600) (B := 200) (by omega) c0
                by_cases h4 : y % q = 0
                · have hs := vp_step hq1 hy0 h4
                  have hlt : y / q < y := Nat.div_lt_self hy0 (by omega)
                  have hpos : 0 < y / q := Nat.div_pos (Nat.le_of_dvd hy0 (Nat.dvd_of_mod_eq_zero h4)) (by omega)
                  have em : ((m : Int) + 1) * x = (m : Int) * x + x := by rw [Int.add_mul, Int.one_mul]
                  (repeat (first|apply zO (by decide +kernel)|apply zP (by decide +kernel)|apply zA|apply zB|apply zF|apply zG|apply zH|apply zI|apply zJ|apply zK|apply zL (by decide)|apply zM|apply zN (by decide)|apply zD|apply zC|apply zE|((first|apply l_go rfl|apply c_dec); (case hs => (simp (disch := first|omega|exact kD rfl|exact kX rfl) only [smZ, tyA, simprocAttr, bl, i64, smE, hx, e1]; exact rfl)); first|refine c_bt ?_|refine c_bf ?_|show lrun _ _ _ _ _ _ _ _ _)|(apply l_call rfl (by decide) rfl; (case hc => (simp (disch := first|omega|exact kD rfl|exact kX rfl) only [smZ, tyA, simprocAttr, bl, i64, smE, hx, e1]; exact rfl)); (case hg => assumption))))
                  refine ⟨⟨(y / q, m + 1), hpos, by simp only; omega, by simp only; omega⟩, ?_, hlt⟩
                  (refine Sub.heap1 0 ?_ (by simp only [smF, dg, renL, renLs, simprocAttr, bl, i64, smE, hx, e1]; exact rfl) ?_ ?_; all_goals (first | exact dgs_plain _ | with_reducible rfl | (simp only [smF, dg, renL, renLs, simprocAttr, bl, i64, smE, hx, e1]; done) | (simp only [smF, dg, renL, renLs, simprocAttr, bl, i64, smE, hx, e1]) | skip))
                  all_goals (first | exact ⟨rfl, rfl⟩ | simp [em, Int.add_assoc])
                · have hs := vp_stop h4
                  obtain rfl : m = vp q d := by omega
                  (repeat (first|apply zO (by decide +kernel)|apply zP (by decide +kernel)|apply zA|apply zB|apply zF|apply zG|apply zH|apply zI|apply zJ|apply zK|apply zL (by decide)|apply zM|apply zN (by decide)|apply zD|apply zC|apply zE|((first|apply l_go rfl|apply c_dec); (case hs => (simp (disch := first|omega|exact kD rfl|exact kX rfl) only [smZ, tyA, simprocAttr, bl, i64, smE, hx, e1]; exact rfl)); first|refine c_bt ?_|refine c_bf ?_|show lrun _ _ _ _ _ _ _ _ _)|(apply l_call rfl (by decide) rfl; (case hc => (simp (disch := first|omega|exact kD rfl|exact kX rfl) only [smZ, tyA, simprocAttr, bl, i64, smE, hx, e1]; exact rfl)); (case hg => assumption))))
                  refine ⟨⟨j + 1, by omega⟩, ?_, by simp only; omega⟩
                  (refine Sub.heap1 0 ?_ (by simp only [smF, dg, renL, renLs, simprocAttr, bl, i64, smE, hx, e1]; exact rfl) ?_ ?_; all_goals (first | exact dgs_plain _ | with_reducible rfl | (simp only [smF, dg, renL, renLs, simprocAttr, bl, i64, smE, hx, e1]; done) | (simp only [smF, dg, renL, renLs, simprocAttr, bl, i64, smE, hx, e1]) | skip))
                  all_goals (first | exact ⟨rfl, rfl⟩ | simp [eE])
            · obtain rfl : j = xs.length := by omega
              have hg : gP n xs q = if psum (cntR q n xs) xs.length % 2 = 0 then 1 else (q : Int) := rfl
              have ht2 := tmod_iff (psum (cntR q n xs) xs.length) 2
              rw [hg] at hs
              clear hg
              generalize psum (cntR q n xs) xs.length = E1 at *
              by_cases h5 : E1 % 2 = 0
              · rw [if_pos h5, Int.mul_one] at hs
                have h5' := ht2.2 h5
                (repeat (first|apply zO (by decide +kernel)|apply zP (by decide +kernel)|apply zA|apply zB|apply zF|apply zG|apply zH|apply zI|apply zJ|apply zK|apply zL (by decide)|apply zM|apply zN (by decide)|apply zD|apply zC|apply zE|((first|apply l_go rfl|apply c_dec); (case hs => (simp (disch := first|omega|exact kD rfl|exact kX rfl) only [smZ, tyA, simprocAttr, bl, i64, smE]; exact rfl)); first|refine c_bt ?_|refine c_bf ?_|show lrun _ _ _ _ _ _ _ _ _)|(apply l_call rfl (by decide) rfl; (case hc => (simp (disch := first|omega|exact kD rfl|exact kX rfl) only [smZ, tyA, simprocAttr, bl, i64, smE]; exact rfl)); (case hg => assumption))))
                refine l_cskip rfl (by decide) rfl ?_
                (repeat (first|apply zO (by decide +kernel)|apply zP (by decide +kernel)|apply zA|apply zB|apply zF|apply zG|apply zH|apply zI|apply zJ|apply zK|apply zL (by decide)|apply zM|apply zN (by decide)|apply zD|apply zC|apply zE|((first|apply l_go rfl|apply c_dec); (case hs => (simp (disch := first|omega|exact kD rfl|exact kX rfl) only [smZ, tyA, simprocAttr, bl, i64, smE]; exact rfl)); first|refine c_bt ?_|refine c_bf ?_|show lrun _ _ _ _ _ _ _ _ _)|(apply l_call rfl (by decide) rfl; (case hc => (simp (disch := first|omega|exact kD rfl|exact kX rfl) only [smZ, tyA, simprocAttr, bl, i64, smE]; exact rfl)); (case hg => assumption))))
                refine ⟨⟨q + 1, by omega, by omega⟩, ?_, by simp only; omega⟩
                (refine Sub.heap1 0 ?_ (by simp only [smF, dg, renL, renLs, simprocAttr, bl, i64, smE]; exact rfl) ?_ ?_; all_goals (first | exact dgs_plain _ | with_reducible rfl | (simp only [smF, dg, renL, renLs, simprocAttr, bl, i64, smE]; done) | (simp only [smF, dg, renL, renLs, simprocAttr, bl, i64, smE]) | skip))
                all_goals (first | exact ⟨rfl, rfl⟩ | simp [hs])
              · rw [if_neg h5] at hs
                have h5' : ¬ E1.tmod 2 = 0 := fun e => h5 (ht2.1 e)
                have bF3 := bF2
                rw [hs] at bF3
                (repeat (first|apply zO (by decide +kernel)|apply zP (by decide +kernel)|apply zA|apply zB|apply zF|apply zG|apply zH|apply zI|apply zJ|apply zK|apply zL (by decide)|apply zM|apply zN (by decide)|apply zD|apply zC|apply zE|((first|apply l_go rfl|apply c_dec); (case hs => (simp (disch := first|omega|exact kD rfl|exact kX rfl) only [smZ, tyA, simprocAttr, bl, i64, smE]; exact rfl)); first|refine c_bt ?_|refine c_bf ?_|show lrun _ _ _ _ _ _ _ _ _)|(apply l_call rfl (by decide) rfl; (case hc => (simp (disch := first|omega|exact kD rfl|exact kX rfl) only [smZ, tyA, simprocAttr, bl, i64, smE]; exact rfl)); (case hg => assumption))))
                refine l_cskip rfl (by decide) rfl ?_
                (repeat (first|apply zO (by decide +kernel)|apply zP (by decide +kernel)|apply zA|apply zB|apply zF|apply zG|apply zH|apply zI|apply zJ|apply zK|apply zL (by decide)|apply zM|apply zN (by decide)|apply zD|apply zC|apply zE|((first|apply l_go rfl|apply c_dec); (case hs => (simp (disch := first|omega|exact kD rfl|exact kX rfl) only [smZ, tyA, simprocAttr, bl, i64, smE]; exact rfl)); first|refine c_bt ?_|refine c_bf ?_|show lrun _ _ _ _ _ _ _ _ _)|(apply l_call rfl (by decide) rfl; (case hc => (simp (disch := first|omega|exact kD rfl|exact kX rfl) only [smZ, tyA, simprocAttr, bl, i64, smE]; exact rfl)); (case hg => assumption))))
                refine ⟨⟨q + 1, by omega, by omega⟩, ?_, by simp only; omega⟩
                (refine Sub.heap1 0 ?_ (by simp only [smF, dg, renL, renLs, simprocAttr, bl, i64, smE]; exact rfl) ?_ ?_; all_goals (first | exact dgs_plain _ | with_reducible rfl | (simp only [smF, dg, renL, renLs, simprocAttr, bl, i64, smE]; done) | (simp only [smF, dg, renL, renLs, simprocAttr, bl, i64, smE]) | skip))
                all_goals (first | exact ⟨rfl, rfl⟩ | simp [hs])
        · -- X: bl, i64, smE
          rw [if_neg hc, Int.mul_one] at hs
          rw [Bool.eq_false_iff.2 hc, i64, bl] at gp
          clear hc
          (repeat (first|apply zO (by decide +kernel)|apply zP (by decide +kernel)|((fail_if_success refine is_bl ?_); apply zA)|apply zB|apply zF|apply zG|apply zH|apply zI|apply zJ|apply zK|apply zL (by decide)|apply zM|apply zN (by decide)|apply zD|apply zC|apply zE|((first|apply l_go rfl|apply c_dec); (case hs => (simp (disch := first|omega|exact kD rfl|exact kX rfl) only [smZ, tyA, simprocAttr, bl, i64, smE]; exact rfl)); first|refine c_bt ?_|refine c_bf ?_|show lrun _ _ _ _ _ _ _ _ _)))
          refine w_loop (α := Unit) (fun _ => st 70 (lk [(1, .ptr 0 0), (5, .sl xs.length (ec (divL n))), (6, i64 (lprod (gP n xs) (below q))), (7, i64 q), (8, i64 0), (9, i64 0)]) (lkH [(0, ⟨24, [i64 n, .sl xs.length (ec xs)], false⟩)]) 1) (fun _ => 0) () ?_ ?_
          · (refine Sub.heap1 0 ?_ (by simp only [smF, dg, renL, renLs, simprocAttr, bl, i64, smE]; exact rfl) ?_ ?_; all_goals (first | exact dgs_plain _ | with_reducible rfl | (simp only [smF, dg, renL, renLs, simprocAttr, bl, i64, smE]; done) | (simp only [smF, dg, renL, renLs, simprocAttr, bl, i64, smE]) | skip))
            all_goals (first | exact ⟨rfl, rfl⟩ | simp)
          · rintro ⟨⟩
            simp only [st]
            have hxl : 0 < xs.length := by have := divN_length_pos n1; omega
            (repeat (first|apply zO (by decide +kernel)|apply zP (by decide +kernel)|apply zA|apply zB|apply zF|apply zG|apply zH|apply zI|apply zJ|apply zK|apply zL (by decide)|apply zM|apply zN (by decide)|apply zD|apply zC|apply zE|((first|apply l_go rfl|apply c_dec); (case hs => (simp (disch := first|omega|exact kD rfl|exact kX rfl) only [smZ, tyA, simprocAttr, bl, i64, smE]; exact rfl)); first|refine c_bt ?_|refine c_bf ?_|show lrun _ _ _ _ _ _ _ _ _)|(apply l_call rfl (by decide) rfl; (case hc => (simp (disch := first|omega|exact kD rfl|exact kX rfl) only [smZ, tyA, simprocAttr, bl, i64, smE]; exact rfl)); (case hg => assumption))))
            refine ⟨⟨q + 1, by omega, by omega⟩, ?_, by simp only; omega⟩
            (refine Sub.heap1 0 ?_ (by simp only [smF, dg, renL, renLs, simprocAttr, bl, i64, smE]; exact rfl) ?_ ?_; all_goals (first | exact dgs_plain _ | with_reducible rfl | (simp only [smF, dg, renL, renLs, simprocAttr, bl, i64, smE]; done) | (simp only [smF, dg, renL, renLs, simprocAttr, bl, i64, smE]) | skip))
            all_goals (first | exact ⟨rfl, rfl⟩ | simp [hs])
      · obtain rfl : q = n + 1 := by omega
        rcases hf with ⟨f1, f2⟩ | ⟨f1, f2⟩
        · rw [f1] at gm
          generalize lprod (gP n xs) (below (n + 1)) = L at *
          (repeat (first|apply zO (by decide +kernel)|apply zP (by decide +kernel)|apply zA|apply zB|apply zF|apply zG|apply zH|apply zI|apply zJ|apply zK|apply zL (by decide)|apply zM|apply zN (by decide)|apply zD|apply zC|apply zE|((first|apply l_go rfl|apply c_dec); (case hs => (simp (disch := first|omega|exact kD rfl|exact kX rfl) only [smZ, tyA, simprocAttr, bl, i64, smE]; exact rfl)); first|refine c_bt ?_|refine c_bf ?_|show lrun _ _ _ _ _ _ _ _ _)|(apply l_call rfl (by decide) rfl; (case hc => (simp (disch := first|omega|exact kD rfl|exact kX rfl) only [smZ, tyA, simprocAttr, bl, i64, smE]; exact rfl)); (case hg => assumption))))
          ((first | apply g_ret | apply g_end); case hres => (simp only [resL, rOs, rO, Option.map_some]; simp (disch := first|omega|exact kD rfl|exact kX rfl) only [smZ, tyA, simprocAttr, bl, i64, smE]; exact rfl))
          simp (disch := first|omega|exact kD rfl|exact kX rfl) only [smZ, tyA, simprocAttr, bl, i64, smE]
        · rw [f1] at gm
          generalize lprod (gP n xs) (below (n + 1)) = L at *
          (repeat (first|apply zO (by decide +kernel)|apply zP (by decide +kernel)|apply zA|apply zB|apply zF|apply zG|apply zH|apply zI|apply zJ|apply zK|apply zL (by decide)|apply zM|apply zN (by decide)|apply zD|apply zC|apply zE|((first|apply l_go rfl|apply c_dec); (case hs => (simp (disch := first|omega|exact kD rfl|exact kX rfl) only [smZ, tyA, simprocAttr, bl, i64, smE]; exact rfl)); first|refine c_bt ?_|refine c_bf ?_|show lrun _ _ _ _ _ _ _ _ _)|(apply l_call rfl (by decide) rfl; (case hc => (simp (disch := first|omega|exact kD rfl|exact kX rfl) only [smZ, tyA, simprocAttr, bl, i64, smE]; exact rfl)); (case hg => assumption))))
          ((first | apply g_ret | apply g_end); case hres => (simp only [resL, rOs, rO, Option.map_some]; simp (disch := first|omega|exact kD rfl|exact kX rfl) only [smZ, tyA, simprocAttr, bl, i64, smE]; exact rfl))
          simp (disch := first|omega|exact kD rfl|exact kX rfl) only [smZ, tyA, simprocAttr, bl, i64, smE]
  · rw [if_neg hm, if_neg hm]
    rw [Bool.eq_false_iff.2 hm] at g2
    rw [i64, bl] at *
    refine good_of_lwp mix Tryz.func46 rfl (by decide) (nt := 70) rfl (rs := [.tmp 2, .tmp 3]) rfl (Nat.le_of_ble_eq_true rfl) ?_
    (repeat (first|apply zO (by decide +kernel)|apply zP (by decide +kernel)|apply zA|apply zB|apply zF|apply zG|apply zH|apply zI|apply zJ|apply zK|apply zL (by decide)|apply zM|apply zN (by decide)|apply zD|apply zC|apply zE|((first|apply l_go rfl|apply c_dec); (case hs => (simp (disch := first|omega|exact kD rfl|exact kX rfl) only [smZ, tyA, simprocAttr, bl, i64, smE]; exact rfl)); first|refine c_bt ?_|refine c_bf ?_|show lrun _ _ _ _ _ _ _ _ _)|(apply l_call rfl (by decide) rfl; (case hc => (simp (disch := first|omega|exact kD rfl|exact kX rfl) only [smZ, tyA, simprocAttr, bl, i64, smE]; exact rfl)); (case hg => assumption))))
    ((first | apply g_ret | apply g_end); case hres => (simp only [resL, rOs, rO, Option.map_some]; simp (disch := first|omega|exact kD rfl|exact kX rfl) only [smZ, tyA, simprocAttr, bl, i64, smE]; exact rfl))
    simp (disch := first|omega|exact kD rfl|exact kX rfl) only [smZ, tyA, simprocAttr, bl, i64, smE]
end Go.Proofs.YtbajpjjbaffnnaaGreat

namespace Go.Proofs.YtbajpjjbaffnnaaGreat
open Go Go.Lg Go.Num
set_option maxRecDepth 100000
set_option maxHeartbeats 4000000
attribute [local irreducible] Go.Lg.lrun Go.Lg.lwp Go.Lg.exThen Go.Lg.exBlk Go.Lg.keep Go.Lg.goodPost ec dscV dscE
theorem Disc_good (lv : Int) (xs : List Int) (hlv : -9223372036854775808 ≤ lv ∧ lv ≤ 9223372036854775807) (hl : xs.length ≤ 1000000) : PureGood Tryz.prog 45 [.agg [i64 lv, .sl xs.length (ec xs)]] (.tup [i64 (if etaErr lv xs = 0 then dscV lv.toNat xs else 0), i64 (if etaErr lv xs = 0 then dscE lv.toNat xs else etaErr lv xs)]) := by
  have g1 := check_good lv xs hlv hl
  by_cases h : etaErr lv xs = 0
  · rw [if_pos h, if_pos h]
    obtain ⟨n, rfl, ok⟩ := etaOk_of h
    rw [Int.toNat_natCast]
    exact disc_in ok
  · rw [if_neg h, if_neg h]
    generalize etaErr lv xs = er at *
    rw [i64] at *
    refine good_of_lwp mix Tryz.func45 rfl (by decide) (nt := 89) rfl (rs := [.tmp 2, .tmp 3]) rfl (Nat.le_of_ble_eq_true rfl) ?_
    (repeat (first|apply zO (by decide +kernel)|apply zP (by decide +kernel)|apply zA|apply zB|apply zF|apply zG|apply zH|apply zI|apply zJ|apply zK|apply zL (by decide)|apply zM|apply zN (by decide)|apply zD|apply zC|apply zE|((first|apply l_go rfl|apply c_dec); (case hs => (simp (disch := first|omega|exact kD rfl|exact kX rfl) only [smZ, tyA, simprocAttr, bl, i64, smE]; exact rfl)); first|refine c_bt ?_|refine c_bf ?_|show lrun _ _ _ _ _ _ _ _ _)|(apply l_call rfl (by decide) rfl; (case hc => (simp (disch := first|omega|exact kD rfl|exact kX rfl) only [smZ, tyA, simprocAttr, bl, i64, smE]; exact rfl)); (case hg => assumption))))
    ((first | apply g_ret | apply g_end); case hres => (simp only [resL, rOs, rO, Option.map_some]; simp (disch := first|omega|exact kD rfl|exact kX rfl) only [smZ, tyA, simprocAttr, bl, i64, smE]; exact rfl))
    simp (disch := first|omega|exact kD rfl|exact kX rfl) only [smZ, tyA, simprocAttr, bl, i64, smE]
theorem rDisc_good (lv : Int) (xs : List Int) (hlv : -9223372036854775808 ≤ lv ∧ lv ≤ 9223372036854775807) (hl : xs.length ≤ 1000000) : PureGood Tryz.prog 46 [.agg [i64 lv, .sl xs.length (ec xs)]] (.tup [i64 (if etaErr lv xs = 0 then dscV lv.toNat xs else 0), i64 (if etaErr lv xs = 0 then dscE lv.toNat xs else etaErr lv xs)]) := by
  have g1 := rcheck_good lv xs hlv hl
  by_cases h : etaErr lv xs = 0
  · rw [if_pos h, if_pos h]
    obtain ⟨n, rfl, ok⟩ := etaOk_of h
    rw [Int.toNat_natCast]
    exact rdisc_in ok
  · rw [if_neg h, if_neg h]
    generalize etaErr lv xs = er at *
    rw [i64] at *
    refine good_of_lwp mix Tryz.func46 rfl (by decide) (nt := 70) rfl (rs := [.tmp 2, .tmp 3]) rfl (Nat.le_of_ble_eq_true rfl) ?_
    (repeat (first|apply zO (by decide +kernel)|apply zP (by decide +kernel)|apply zA|apply zB|apply zF|apply zG|apply zH|apply zI|apply zJ|apply zK|apply zL (by decide)|apply zM|apply zN (by decide)|apply zD|apply zC|apply zE|((first|apply l_go rfl|apply c_dec); (case hs => (simp (disch := first|omega|exact kD rfl|exact kX rfl) only [smZ, tyA, simprocAttr, bl, i64, smE]; exact rfl)); first|refine c_bt ?_|refine c_bf ?_|show lrun _ _ _ _ _ _ _ _ _)|(apply l_call rfl (by decide) rfl; (case hc => (simp (disch := first|omega|exact kD rfl|exact kX rfl) only [smZ, tyA, simprocAttr, bl, i64, smE]; exact rfl)); (case hg => assumption))))
    ((first | apply g_ret | apply g_end); case hres => (simp only [resL, rOs, rO, Option.map_some]; simp (disch := first|omega|exact kD rfl|exact kX rfl) only [smZ, tyA, simprocAttr, bl, i64, smE]; exact rfl))
    simp (disch := first|omega|exact kD rfl|exact kX rfl) only [smZ, tyA, simprocAttr, bl, i64, smE]
theorem great_good (lv : Int) (xs : List Int) : PureGood Tryz.prog 12 [.agg [i64 lv, .sl xs.length (ec xs)]] (bl (decide (40 < xs.length))) := by
  by_cases h : 40 < xs.length
  · rw [dec_t h]
    refine good_of_lwp mix Tryz.func12 rfl (by decide) (nt := 7) rfl (rs := [.tmp 2]) rfl (Nat.le_of_ble_eq_true rfl) ?_
    (repeat (first|apply zO (by decide +kernel)|apply zP (by decide +kernel)|apply zA|apply zB|apply zF|apply zG|apply zH|apply zI|apply zJ|apply zK|apply zL (by decide)|apply zM|apply zN (by decide)|apply zD|apply zC|apply zE|((first|apply l_go rfl|apply c_dec); (case hs => (simp (disch := first|omega|exact kD rfl|exact kX rfl) only [smZ, tyA, simprocAttr, bl, i64, smE]; exact rfl)); first|refine c_bt ?_|refine c_bf ?_|show lrun _ _ _ _ _ _ _ _ _)|(apply l_call rfl (by decide) rfl; (case hc => (simp (disch := first|omega|exact kD rfl|exact kX rfl) only [smZ, tyA, simprocAttr, bl, i64, smE]; exact rfl)); (case hg => assumption))))
    ((first | apply g_ret | apply g_end); case hres => (simp only [resL, rOs, rO, Option.map_some]; simp (disch := first|omega|exact kD rfl|exact kX rfl) only [smZ, tyA, simprocAttr, bl, i64, smE]; exact rfl))
    simp (disch := first|omega|exact kD rfl|exact kX rfl) only [smZ, tyA, simprocAttr, bl, i64, smE]
  · rw [dec_f h]
    refine good_of_lwp mix Tryz.func12 rfl (by decide) (nt := 7) rfl (rs := [.tmp 2]) rfl (Nat.le_of_ble_eq_true rfl) ?_
    (repeat (first|apply zO (by decide +kernel)|apply zP (by decide +kernel)|apply zA|apply zB|apply zF|apply zG|apply zH|apply zI|apply zJ|apply zK|apply zL (by decide)|apply zM|apply zN (by decide)|apply zD|apply zC|apply zE|((first|apply l_go rfl|apply c_dec); (case hs => (simp (disch := first|omega|exact kD rfl|exact kX rfl) only [smZ, tyA, simprocAttr, bl, i64, smE]; exact rfl)); first|refine c_bt ?_|refine c_bf ?_|show lrun _ _ _ _ _ _ _ _ _)|(apply l_call rfl (by decide) rfl; (case hc => (simp (disch := first|omega|exact kD rfl|exact kX rfl) only [smZ, tyA, simprocAttr, bl, i64, smE]; exact rfl)); (case hg => assumption))))
    ((first | apply g_ret | apply g_end); case hres => (simp only [resL, rOs, rO, Option.map_some]; simp (disch := first|omega|exact kD rfl|exact kX rfl) only [smZ, tyA, simprocAttr, bl, i64, smE]; exact rfl))
    simp (disch := first|omega|exact kD rfl|exact kX rfl) only [smZ, tyA, simprocAttr, bl, i64, smE]
theorem lawForms_good (ha : PureGood Tryz.prog 13 [] (.lit (.bool true))) (lv : Int) (xs : List Int) (hlv : -9223372036854775808 ≤ lv ∧ lv ≤ 9223372036854775807) : PureGood Tryz.prog 7 [.agg [i64 lv, .sl xs.length (ec xs)]] (.lit (.bool true)) := by
  have g0 := great_good lv xs
  by_cases h : 40 < xs.length
  · rw [dec_t h] at g0
    rw [i64, bl] at *
    refine good_of_lwp mix Tryz.func7 rfl (by decide) (nt := 86) rfl (rs := [.tmp 2]) rfl (Nat.le_of_ble_eq_true rfl) ?_
    (repeat (first|apply zO (by decide +kernel)|apply zP (by decide +kernel)|apply zA|apply zB|apply zF|apply zG|apply zH|apply zI|apply zJ|apply zK|apply zL (by decide)|apply zM|apply zN (by decide)|apply zD|apply zC|apply zE|((first|apply l_go rfl|apply c_dec); (case hs => (simp (disch := first|omega|exact kD rfl|exact kX rfl) only [smZ, tyA, simprocAttr, bl, i64, smE]; exact rfl)); first|refine c_bt ?_|refine c_bf ?_|show lrun _ _ _ _ _ _ _ _ _)|(apply l_call rfl (by decide) rfl; (case hc => (simp (disch := first|omega|exact kD rfl|exact kX rfl) only [smZ, tyA, simprocAttr, bl, i64, smE]; exact rfl)); (case hg => assumption))))
    ((first | apply g_ret | apply g_end); case hres => (simp only [resL, rOs, rO, Option.map_some]; simp (disch := first|omega|exact kD rfl|exact kX rfl) only [smZ, tyA, simprocAttr, bl, i64, smE]; exact rfl))
    simp (disch := first|omega|exact kD rfl|exact kX rfl) only [smZ, tyA, simprocAttr, bl, i64, smE]
  · rw [dec_f h] at g0
    have g1 := weight_good lv xs hlv (by omega)
    have g2 := rweight_good lv xs hlv (by omega)
    have g3 := Modular_good lv xs hlv (by omega)
    have g4 := rModular_good lv xs hlv (by omega)
    have g5 := Disc_good lv xs hlv (by omega)
    have g6 := rDisc_good lv xs hlv (by omega)
    have g7 := check_good lv xs hlv (by omega)
    have g8 := rcheck_good lv xs hlv (by omega)
    generalize (if etaErr lv xs = 0 then wgtV xs else 0) = v1 at *
    generalize (if etaErr lv xs = 0 then wgtE xs else etaErr lv xs) = v2 at *
    generalize (if etaErr lv xs = 0 then mods lv.toNat xs else false) = v3 at *
    generalize (if etaErr lv xs = 0 then dscV lv.toNat xs else 0) = v4 at *
    generalize (if etaErr lv xs = 0 then dscE lv.toNat xs else etaErr lv xs) = v5 at *
    generalize etaErr lv xs = v6 at *
    rw [i64, bl] at *
    refine good_of_lwp mix Tryz.func7 rfl (by decide) (nt := 86) rfl (rs := [.tmp 2]) rfl (Nat.le_of_ble_eq_true rfl) ?_
    (repeat (first|apply zO (by decide +kernel)|apply zP (by decide +kernel)|apply zA|apply zB|apply zF|apply zG|apply zH|apply zI|apply zJ|apply zK|apply zL (by decide)|apply zM|apply zN (by decide)|apply zD|apply zC|apply zE|((first|apply l_go rfl|apply c_dec); (case hs => (simp (disch := first|omega|exact kD rfl|exact kX rfl) only [smZ, tyA, simprocAttr, bl, i64, smE]; exact rfl)); first|refine c_bt ?_|refine c_bf ?_|show lrun _ _ _ _ _ _ _ _ _)|(apply l_call rfl (by decide) rfl; (case hc => (simp (disch := first|omega|exact kD rfl|exact kX rfl) only [smZ, tyA, simprocAttr, bl, i64, smE]; exact rfl)); (case hg => assumption))))
    ((first | apply g_ret | apply g_end); case hres => (simp only [resL, rOs, rO, Option.map_some]; simp (disch := first|omega|exact kD rfl|exact kX rfl) only [smZ, tyA, simprocAttr, bl, i64, smE]; exact rfl))
    simp (disch := first|omega|exact kD rfl|exact kX rfl) only [smZ, tyA, simprocAttr, bl, i64, smE]
end Go.Proofs.YtbajpjjbaffnnaaGreat

namespace Go.Proofs.YtbajpjjbaffnnaaGreat
open Go Go.Lg Go.Num
set_option maxRecDepth 100000
/-- A quotient. -/
def orcQuo (args : List LV) : Option LV :=
  match args with
  | [.agg l, .agg m] => match rdQ l, rdQ m with
    | some x, some y => fQ (x / y) fun r => bif tiny x && tiny y && tiny r && !(y.num == 0) then some (.tup [wrQ r, .lit (.int .i64 0)]) else none
    | _, _ => none
  | _ => none
theorem orcQuo_ok {args : List LV} {r : LV} (h : orcQuo args = some r) : PureGood Tryz.prog 88 args r := by
  unfold orcQuo at h
  split at h
  · split at h
    · rename_i l m x y h1 h2
      rw [fQ_eq] at h
      cases hb : (tiny x && tiny y && tiny (x / y) && !(y.num == 0)) with
      | true =>
        rw [hb] at h
        simp only [Bool.and_eq_true, Bool.not_eq_true', beq_eq_false_iff_ne, ne_eq] at hb
        cases h
        have hx := tiny_lq hb.1.1.1
        have hy := tiny_lq hb.1.1.2
        rw [wrQ_eq hb.1.2, rdQ_ok h1, rdQ_ok h2]
        exact quo_good x y (fun e => hb.2 (by rw [e]; rfl)) (by omega) (by omega)
      | false => rw [hb] at h; cases h
    · cases h
  · cases h
def orc2 (f : FuncId) (args : List LV) : Option LV := bif Nat.beq f 88 then orcQuo args else orc f args
theorem orc2_ok : OrcOk Tryz.prog orc2 := orc_cons (f0 := 88) (g := orcQuo) (fun _ _ h => orcQuo_ok h) orc_ok
noncomputable def evw (f : Nat) (args : List LV) : Option LV := evPH Tryz.prog orc2 horc (fun _ => 0) [169, 194] 400 f args
theorem evw_good {f : Nat} {args : List LV} {r : LV} (h : evw f args = some r) : PureGood Tryz.prog f args r := evPH_sound mix orc2_ok horc_ok bodies_ok h
theorem awake_good : PureGood Tryz.prog 13 [] (.lit (.bool true)) := evw_good (by kernel_rfl)
end Go.Proofs.YtbajpjjbaffnnaaGreat
