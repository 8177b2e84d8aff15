/- Contracts of functions of the program, and what proves them (texts: E4). -/
import Derived.Test.YtbajpjjbaffnnaaGreatZFinFormsAN
set_option linter.all false
namespace Go.Proofs.YtbajpjjbaffnnaaGreat
open Go Go.Lg Go.Num
set_option maxRecDepth 100000
set_option maxHeartbeats 4000000
attribute [local irreducible] Go.Lg.lrun Go.Lg.lwp Go.Lg.exThen Go.Lg.exBlk Go.Lg.keep Go.Lg.goodPost ec
theorem field_good (s : Int) (hs : -600 ≤ s ∧ s ≤ 600) : PureGood Tryz.prog 102 [i64 s] (i64 (fld s)) := by
  have g := bmod_good s 4 (by omega) (by omega)
  unfold fld
  rw [i64] at *
  by_cases h : s % 4 = 1
  · rw [if_pos h]
    refine good_of_lwp mix Tryz.func102 rfl (by decide) (nt := 9) rfl (rs := [.tmp 2]) rfl (Nat.le_of_ble_eq_true rfl) ?_
    (repeat (first|apply zO (by decide +kernel)|apply zP (by decide +kernel)|apply zA|apply zB|apply zF|apply zG|apply zH|apply zI|apply zJ|apply zK|apply zL (by decide)|apply zM|apply zN (by decide)|apply zD|apply zC|apply zE|((first|apply l_go rfl|apply c_dec); (case hs => (simp (disch := first|omega|exact kD rfl|exact kX rfl) only [smZ, tyA, simprocAttr, bl, i64, smE]; exact rfl)); first|refine c_bt ?_|refine c_bf ?_|show lrun _ _ _ _ _ _ _ _ _)|(apply l_call rfl (by decide) rfl; (case hc => (simp (disch := first|omega|exact kD rfl|exact kX rfl) only [smZ, tyA, simprocAttr, bl, i64, smE]; exact rfl)); (case hg => assumption))))
    ((first | apply g_ret | apply g_end); case hres => (simp only [resL, rOs, rO, Option.map_some]; simp (disch := first|omega|exact kD rfl|exact kX rfl) only [smZ, tyA, simprocAttr, bl, i64, smE]; exact rfl))
    simp (disch := first|omega|exact kD rfl|exact kX rfl) only [smZ, tyA, simprocAttr, bl, i64, smE]
  · rw [if_neg h]
    refine good_of_lwp mix Tryz.func102 rfl (by decide) (nt := 9) rfl (rs := [.tmp 2]) rfl (Nat.le_of_ble_eq_true rfl) ?_
    (repeat (first|apply zO (by decide +kernel)|apply zP (by decide +kernel)|apply zA|apply zB|apply zF|apply zG|apply zH|apply zI|apply zJ|apply zK|apply zL (by decide)|apply zM|apply zN (by decide)|apply zD|apply zC|apply zE|((first|apply l_go rfl|apply c_dec); (case hs => (simp (disch := first|omega|exact kD rfl|exact kX rfl) only [smZ, tyA, simprocAttr, bl, i64, smE]; exact rfl)); first|refine c_bt ?_|refine c_bf ?_|show lrun _ _ _ _ _ _ _ _ _)|(apply l_call rfl (by decide) rfl; (case hc => (simp (disch := first|omega|exact kD rfl|exact kX rfl) only [smZ, tyA, simprocAttr, bl, i64, smE]; exact rfl)); (case hg => assumption))))
    ((first | apply g_ret | apply g_end); case hres => (simp only [resL, rOs, rO, Option.map_some]; simp (disch := first|omega|exact kD rfl|exact kX rfl) only [smZ, tyA, simprocAttr, bl, i64, smE]; exact rfl))
    simp (disch := first|omega|exact kD rfl|exact kX rfl) only [smZ, tyA, simprocAttr, bl, i64, smE]
theorem fcs_length (n : Nat) (l : List Nat) : (fcs n l).length = l.length * 2 := by
  induction l with
  | nil => rfl
  | cons a l ih => rw [fcs, List.flatMap_cons, List.length_append]; rw [fcs] at ih; rw [ih, List.length_cons]; simp; omega
theorem fcs_drop (n : Nat) : ∀ (l : List Nat) (j : Nat), (fcs n l).drop (j * 2) = fcs n (l.drop j)
  | [], j => by simp [fcs]
  | q :: f, 0 => by simp
  | q :: f, j + 1 => by
    rw [show (j + 1) * 2 = 2 + j * 2 by omega, ← List.drop_drop, List.drop_succ_cons, ← fcs_drop n f j]
    rfl
theorem fcs_td {n : Nat} {l : List Nat} {j : Nat} (h : j < l.length) : ((fcs n l).drop (j * 2)).take 2 = [.lit (.int .i64 (l.getD j 0 : Int)), .lit (.int .i64 (vp (l.getD j 0) n : Int))] := by
  rw [fcs_drop, List.drop_eq_getElem_cons h]
  have : l.getD j 0 = l[j] := by simp [h]
  rw [this]
  simp only [fcs, List.flatMap_cons]
  simp
theorem fcs_pure (n : Nat) (l : List Nat) : ∀ c ∈ fcs n l, pureC c = true := by
  intro c hc
  simp only [fcs, List.mem_flatMap, List.mem_cons, List.not_mem_nil, or_false] at hc
  obtain ⟨x, _, rfl | rfl⟩ := hc <;> rfl
theorem pvs_fcs {h : Nat → Option Blk} {ok : Nat → Bool} {k : Nat} (n : Nat) (l : List Nat) : pvs h ok (k + 1) (fcs n l) = some (fcs n l, []) := pvs_pure (fcs_pure n l)
theorem fcs_plain' (n : Nat) (l : List Nat) : ∀ c ∈ fcs n l, plainC c = true := by
  intro c hc
  simp only [fcs, List.mem_flatMap, List.mem_cons, List.not_mem_nil, or_false] at hc
  obtain ⟨x, _, rfl | rfl⟩ := hc <;> rfl
theorem fcs_plain (n : Nat) (l : List Nat) : (∀ c ∈ fcs n l, plainC c = true) = True := eq_true (fcs_plain' n l)
theorem ren_fcs {nb : Nat} {ρ : Nat → Nat} (n : Nat) (l : List Nat) : renLs nb ρ (fcs n l) = some (fcs n l) := rens_plain (fcs_plain' n l)
def smF3 := And.intro fcs_length (And.intro @fcs_td (And.intro @pvs_fcs (And.intro fcs_plain @ren_fcs)))
attribute [local irreducible] fcs dF vp psum
theorem disc_in {n : Nat} {xs : List Int} (h : EtaOk n xs) : PureGood Tryz.prog 45 [.agg [i64 n, .sl xs.length (ec xs)]] (.tup [i64 (dscV n xs), i64 (dscE n xs)]) := by
  have n1 := h.n1
  have n2 := h.n2
  have hl := h.len
  have l1 := h.len_le
  have g1 := check_good n xs (by omega) (by omega)
  rw [etaErr_ok h] at g1
  have g2 := modular_good h
  have g3 := sums_good h
  have g4 := factor_good n1 n2
  have g5 := divisors_good n1 n2
  have dl := divL_length n
  have bs := h.s0 (Nat.le_refl _)
  unfold dscV dscE
  rw [← hl] at g5 dl
  by_cases hm : mods n xs = true
  · rw [if_pos hm, if_pos hm, ← dF_last]
    rw [hm] at g2
    have hm0 : psum (exS xs) xs.length % 2 = 0 := by
      unfold mods at hm
      exact (tmod_iff _ _).1 (of_decide_eq_true hm).1
    have d0 := dF_zero n xs
    have hprs : (prs n).length ≤ 1000 := by
      have : (prs n).length ≤ primesT.length := List.length_filter_le ..
      exact Nat.le_trans this (by decide)
    have ht4 := emod_of_tmod (psum (exS xs) xs.length) (m := 4) (by omega)
    have hb4 := tmod_bd (psum (exS xs) xs.length) (b := 4) (by omega)
    have ht5 := (tmod_iff (psum (exS xs) xs.length) 4)
    generalize psum (exS xs) xs.length = s0 at *
    generalize psum (exL n xs) xs.length = s1 at *
    generalize psum (exH n xs) xs.length = s2 at *
    have body : ∀ S : LS, True := fun _ => trivial
    rw [i64, bl] at *
    have key : s0.tmod 4 = 0 ∧ dF n xs 0 = 1 ∨ s0.tmod 4 ≠ 0 ∧ dF n xs 0 = -1 := by
      by_cases h4 : s0 % 4 = 0
      · exact .inl ⟨ht5.2 h4, by rw [d0, if_pos h4]⟩
      · exact .inr ⟨fun e => h4 (ht5.1 e), by rw [d0, if_neg h4]⟩
    clear ht4 ht5 d0
    rcases key with ⟨k1, k2⟩ | ⟨k1, k2⟩
    · skip
      refine good_of_lwp mix Tryz.func45 rfl (by decide) (nt := 89) rfl (rs := [.tmp 2, .tmp 3]) rfl (Nat.le_of_ble_eq_true rfl) ?_
      (repeat (first|apply zO (by decide +kernel)|apply zP (by decide +kernel)|apply zA|apply zB|apply zF|apply zG|apply zH|apply zI|apply zJ|apply zK|apply zL (by decide)|apply zM|apply zN (by decide)|apply zD|apply zC|apply zE|((first|apply l_go rfl|apply c_dec); (case hs => (simp (disch := first|omega|exact kD rfl|exact kX rfl) only [smZ, tyA, simprocAttr, bl, i64, smE, smF3]; exact rfl)); first|refine c_bt ?_|refine c_bf ?_|show lrun _ _ _ _ _ _ _ _ _)|(apply l_call rfl (by decide) rfl; (case hc => (simp (disch := first|omega|exact kD rfl|exact kX rfl) only [smZ, tyA, simprocAttr, bl, i64, smE, smF3]; exact rfl)); (case hg => assumption))))
      refine w_loop (α := {i : Nat // i ≤ (prs n).length}) (fun i => st 89 (lk [(1, .ptr 0 0), (8, i64 (dF n xs i.1)), (39, .sl (prs n).length (fcs n (prs n))), (40, i64 (prs n).length), (41, i64 i.1)]) (lkH [(0, ⟨24, [i64 n, .sl xs.length (ec xs)], false⟩)]) 1) (fun i => (prs n).length - i.1) ⟨0, by simp⟩ ?_ ?_
      · (refine Sub.heap1 0 ?_ (by simp only [smF, dg, renL, renLs, simprocAttr, bl, i64, smE, smF3]; exact rfl) ?_ ?_; all_goals (first | exact dgs_plain _ | with_reducible rfl | (simp only [smF, dg, renL, renLs, simprocAttr, bl, i64, smE, smF3]; done) | (simp only [smF, dg, renL, renLs, simprocAttr, bl, i64, smE, smF3]) | skip))
        all_goals (first | exact ⟨rfl, rfl⟩ | simp [k2])
      · rintro ⟨i, hi⟩
        simp only [st]
        have bF := dF_bd h i
        by_cases h1 : i < (prs n).length
        · have hs := dF_succ (n := n) (i := i) xs h1
          have bF2 := dF_bd h (i + 1)
          have hp := prs_mem (n := n) (p := (prs n).getD i 0) (by
            have e : (prs n).getD i 0 = (prs n)[i] := by simp [h1]
            rw [e]; exact List.getElem_mem h1)
          generalize hpp : (prs n).getD i 0 = p at *
          (repeat (first|apply zO (by decide +kernel)|apply zP (by decide +kernel)|apply zA|apply zB|apply zF|apply zG|apply zH|apply zI|apply zJ|apply zK|apply zL (by decide)|apply zM|apply zN (by decide)|apply zD|apply zC|apply zE|((first|apply l_go rfl|apply c_dec); (case hs => (simp (disch := first|omega|exact kD rfl|exact kX rfl) only [smZ, tyA, simprocAttr, bl, i64, smE, smF3, hpp]; exact rfl)); first|refine c_bt ?_|refine c_bf ?_|show lrun _ _ _ _ _ _ _ _ _)|(apply l_call rfl (by decide) rfl; (case hc => (simp (disch := first|omega|exact kD rfl|exact kX rfl) only [smZ, tyA, simprocAttr, bl, i64, smE, smF3, hpp]; exact rfl)); (case hg => assumption))))
          refine w_loop (α := {j : Nat // j ≤ xs.length}) (fun j => st 89 (lk [(1, .ptr 0 0), (8, i64 (dF n xs i)), (12, .ptr 1 0), (13, i64 (psum (cntE p n xs) j.1)), (39, .sl (prs n).length (fcs n (prs n))), (40, i64 (prs n).length), (41, i64 i), (47, .sl xs.length (ec (divL n))), (48, i64 xs.length), (49, i64 j.1)]) (lkH [(0, ⟨24, [i64 n, .sl xs.length (ec xs)], false⟩), (1, ⟨111, [i64 p, i64 (vp p n)], false⟩)]) 2) (fun j => xs.length - j.1) ⟨0, by simp⟩ ?_ ?_
          · (refine Sub.heapL [0,4] rfl (by decide) ?_ (by simp only [List.forall_mem_cons, List.not_mem_nil, false_imp_iff, implies_true, and_true]; decide) ?_ ?_; all_goals (first | (simp only [plainC, smF, dg, renL, renLs, simprocAttr, bl, i64, smE, smF3, hpp]; done) | (simp only [smF, dg, renL, renLs, simprocAttr, bl, i64, smE, smF3, hpp]) | skip))
            all_goals (simp [psum_z, plainC])
          · rintro ⟨j, hj⟩
            simp only [st]
            have bE := cE_bd (p := p) h hj
            by_cases h2 : j < xs.length
            · obtain ⟨d, e1, e2, e3, e4, e5⟩ := divL_get (n := n) (k := j) (hl ▸ h2)
              have c0 := h.get j
              have bE2 := cE_bd (p := p) h (k := j + 1) (by omega)
              have eE : psum (cntE p n xs) (j + 1) = psum (cntE p n xs) j + cntE p n xs j := psum_s _ _
              rw [cntE, e5] at eE
              have ht2 := tmod_iff (xs.getD j 0) 2
              rw [eE] at bE2
              generalize psum (cntE p n xs) j = E0 at *
              generalize hx : xs.getD j 0 = x at *
              by_cases h3 : x % 2 = 0
              · have h3' := ht2.2 h3
                rw [if_pos h3] at eE
                (repeat (first|apply zO (by decide +kernel)|apply zP (by decide +kernel)|apply zA|apply zB|apply zF|apply zG|apply zH|apply zI|apply zJ|apply zK|apply zL (by decide)|apply zM|apply zN (by decide)|apply zD|apply zC|apply zE|((first|apply l_go rfl|apply c_dec); (case hs => (simp (disch := first|omega|exact kD rfl|exact kX rfl) only [smZ, tyA, simprocAttr, bl, i64, smE, smF3, hpp, hx, e1]; exact rfl)); first|refine c_bt ?_|refine c_bf ?_|show lrun _ _ _ _ _ _ _ _ _)|(apply l_call rfl (by decide) rfl; (case hc => (simp (disch := first|omega|exact kD rfl|exact kX rfl) only [smZ, tyA, simprocAttr, bl, i64, smE, smF3, hpp, hx, e1]; exact rfl)); (case hg => assumption))))
                refine ⟨⟨j + 1, by omega⟩, ?_, by simp only; omega⟩
                (refine Sub.heapL [0,1] rfl (by decide) ?_ (by simp only [List.forall_mem_cons, List.not_mem_nil, false_imp_iff, implies_true, and_true]; decide) ?_ ?_; all_goals (first | (simp only [plainC, smF, dg, renL, renLs, simprocAttr, bl, i64, smE, smF3, hpp, hx, e1]; done) | (simp only [smF, dg, renL, renLs, simprocAttr, bl, i64, smE, smF3, hpp, hx, e1]) | skip))
                all_goals (first | exact ⟨rfl, rfl⟩ | (simp [eE, plainC]; done) | (simp only [eE, true_and, LV.lit.injEq, Value.int.injEq, and_true]; omega))
              · have h3' : ¬ x.tmod 2 = 0 := fun e => h3 (ht2.1 e)
                rw [if_neg h3] at eE
                (repeat (first|apply zO (by decide +kernel)|apply zP (by decide +kernel)|apply zA|apply zB|apply zF|apply zG|apply zH|apply zI|apply zJ|apply zK|apply zL (by decide)|apply zM|apply zN (by decide)|apply zD|apply zC|apply zE|((first|apply l_go rfl|apply c_dec); (case hs => (simp (disch := first|omega|exact kD rfl|exact kX rfl) only [smZ, tyA, simprocAttr, bl, i64, smE, smF3, hpp, hx, e1]; exact rfl)); first|refine c_bt ?_|refine c_bf ?_|show lrun _ _ _ _ _ _ _ _ _)|(apply l_call rfl (by decide) rfl; (case hc => (simp (disch := first|omega|exact kD rfl|exact kX rfl) only [smZ, tyA, simprocAttr, bl, i64, smE, smF3, hpp, hx, e1]; exact rfl)); (case hg => assumption))))
                refine w_loop (α := {y : Nat × Nat // 0 < y.1 ∧ y.1 ≤ d ∧ y.2 + vp p y.1 = vp p d}) (fun y => st 89 (lk [(1, .ptr 0 0), (8, i64 (dF n xs i)), (12, .ptr 1 0), (13, i64 (E0 + (y.1.2 : Int))), (15, i64 y.1.1), (39, .sl (prs n).length (fcs n (prs n))), (40, i64 (prs n).length), (41, i64 i), (47, .sl xs.length (ec (divL n))), (48, i64 xs.length), (49, i64 j)]) (lkH [(0, ⟨24, [i64 n, .sl xs.length (ec xs)], false⟩), (1, ⟨111, [i64 p, i64 (vp p n)], false⟩)]) 2) (fun y => y.1.1) ⟨(d, 0), by simp only; omega, Nat.le_refl _, by simp⟩ ?_ ?_
                · (refine Sub.heapL [0,1] rfl (by decide) ?_ (by simp only [List.forall_mem_cons, List.not_mem_nil, false_imp_iff, implies_true, and_true]; decide) ?_ ?_; all_goals (first | (simp only [plainC, smF, dg, renL, renLs, simprocAttr, bl, i64, smE, smF3, hpp, hx, e1]; done) | (simp only [smF, dg, renL, renLs, simprocAttr, bl, i64, smE, smF3, hpp, hx, e1]) | skip))
                  all_goals (first | exact ⟨rfl, rfl⟩ | (simp [eE, plainC]; done) | (simp only [eE, true_and, LV.lit.injEq, Value.int.injEq, and_true]; omega))
                · rintro ⟨⟨y, m⟩, hy0, hy1, hy2⟩
                  simp only at hy0 hy1 hy2
                  simp only [st]
                  have hv := vp_le p d
                  by_cases h4 : y % p = 0
                  · have hs := vp_step hp.1 hy0 h4
                    have hlt : y / p < y := Nat.div_lt_self hy0 (by omega)
                    have hpos : 0 < y / p := Nat.div_pos (Nat.le_of_dvd hy0 (Nat.dvd_of_mod_eq_zero h4)) (by omega)
                    (repeat (first|apply zO (by decide +kernel)|apply zP (by decide +kernel)|apply zA|apply zB|apply zF|apply zG|apply zH|apply zI|apply zJ|apply zK|apply zL (by decide)|apply zM|apply zN (by decide)|apply zD|apply zC|apply zE|((first|apply l_go rfl|apply c_dec); (case hs => (simp (disch := first|omega|exact kD rfl|exact kX rfl) only [smZ, tyA, simprocAttr, bl, i64, smE, smF3, hpp, hx, e1]; exact rfl)); first|refine c_bt ?_|refine c_bf ?_|show lrun _ _ _ _ _ _ _ _ _)|(apply l_call rfl (by decide) rfl; (case hc => (simp (disch := first|omega|exact kD rfl|exact kX rfl) only [smZ, tyA, simprocAttr, bl, i64, smE, smF3, hpp, hx, e1]; exact rfl)); (case hg => assumption))))
                    refine ⟨⟨(y / p, m + 1), hpos, by simp only; omega, by simp only; omega⟩, ?_, hlt⟩
                    (refine Sub.heapL [0,1] rfl (by decide) ?_ (by simp only [List.forall_mem_cons, List.not_mem_nil, false_imp_iff, implies_true, and_true]; decide) ?_ ?_; all_goals (first | (simp only [plainC, smF, dg, renL, renLs, simprocAttr, bl, i64, smE, smF3, hpp, hx, e1]; done) | (simp only [smF, dg, renL, renLs, simprocAttr, bl, i64, smE, smF3, hpp, hx, e1]) | skip))
                    all_goals (first | exact ⟨rfl, rfl⟩ | (simp [eE, plainC]; done) | (simp only [eE, true_and, LV.lit.injEq, Value.int.injEq, and_true]; omega))
                  · have hs := vp_stop h4
                    obtain rfl : m = vp p d := by omega
                    (repeat (first|apply zO (by decide +kernel)|apply zP (by decide +kernel)|apply zA|apply zB|apply zF|apply zG|apply zH|apply zI|apply zJ|apply zK|apply zL (by decide)|apply zM|apply zN (by decide)|apply zD|apply zC|apply zE|((first|apply l_go rfl|apply c_dec); (case hs => (simp (disch := first|omega|exact kD rfl|exact kX rfl) only [smZ, tyA, simprocAttr, bl, i64, smE, smF3, hpp, hx, e1]; exact rfl)); first|refine c_bt ?_|refine c_bf ?_|show lrun _ _ _ _ _ _ _ _ _)|(apply l_call rfl (by decide) rfl; (case hc => (simp (disch := first|omega|exact kD rfl|exact kX rfl) only [smZ, tyA, simprocAttr, bl, i64, smE, smF3, hpp, hx, e1]; exact rfl)); (case hg => assumption))))
                    refine ⟨⟨j + 1, by omega⟩, ?_, by simp only; omega⟩
                    (refine Sub.heapL [0,1] rfl (by decide) ?_ (by simp only [List.forall_mem_cons, List.not_mem_nil, false_imp_iff, implies_true, and_true]; decide) ?_ ?_; all_goals (first | (simp only [plainC, smF, dg, renL, renLs, simprocAttr, bl, i64, smE, smF3, hpp, hx, e1]; done) | (simp only [smF, dg, renL, renLs, simprocAttr, bl, i64, smE, smF3, hpp, hx, e1]) | skip))
                    all_goals (first | exact ⟨rfl, rfl⟩ | (simp [eE, plainC]; done) | (simp only [eE, true_and, LV.lit.injEq, Value.int.injEq, and_true]; omega))
            · obtain rfl : j = xs.length := by omega
              have hnn := cntE_nn (p := p) (n := n) (xs := xs) xs.length
              generalize psum (cntE p n xs) xs.length = E1 at *
              by_cases h5 : E1 % 2 = 0
              · rw [if_pos h5] at hs
                (repeat (first|apply zO (by decide +kernel)|apply zP (by decide +kernel)|apply zA|apply zB|apply zF|apply zG|apply zH|apply zI|apply zJ|apply zK|apply zL (by decide)|apply zM|apply zN (by decide)|apply zD|apply zC|apply zE|((first|apply l_go rfl|apply c_dec); (case hs => (simp (disch := first|omega|exact kD rfl|exact kX rfl) only [smZ, tyA, simprocAttr, bl, i64, smE, smF3, hpp]; exact rfl)); first|refine c_bt ?_|refine c_bf ?_|show lrun _ _ _ _ _ _ _ _ _)|(apply l_call rfl (by decide) rfl; (case hc => (simp (disch := first|omega|exact kD rfl|exact kX rfl) only [smZ, tyA, simprocAttr, bl, i64, smE, smF3, hpp]; exact rfl)); (case hg => assumption))))
                refine ⟨⟨i + 1, by omega⟩, ?_, by simp only; omega⟩
                (refine Sub.heap1 0 ?_ (by simp only [smF, dg, renL, renLs, simprocAttr, bl, i64, smE, smF3, hpp]; exact rfl) ?_ ?_; all_goals (first | exact dgs_plain _ | with_reducible rfl | (simp only [smF, dg, renL, renLs, simprocAttr, bl, i64, smE, smF3, hpp]; done) | (simp only [smF, dg, renL, renLs, simprocAttr, bl, i64, smE, smF3, hpp]) | skip))
                all_goals (first | exact ⟨rfl, rfl⟩ | (simp [hs, plainC]; done))
              · rw [if_neg h5] at hs
                have bF3 := bF2
                rw [hs] at bF3
                (repeat (first|apply zO (by decide +kernel)|apply zP (by decide +kernel)|apply zA|apply zB|apply zF|apply zG|apply zH|apply zI|apply zJ|apply zK|apply zL (by decide)|apply zM|apply zN (by decide)|apply zD|apply zC|apply zE|((first|apply l_go rfl|apply c_dec); (case hs => (simp (disch := first|omega|exact kD rfl|exact kX rfl) only [smZ, tyA, simprocAttr, bl, i64, smE, smF3, hpp]; exact rfl)); first|refine c_bt ?_|refine c_bf ?_|show lrun _ _ _ _ _ _ _ _ _)|(apply l_call rfl (by decide) rfl; (case hc => (simp (disch := first|omega|exact kD rfl|exact kX rfl) only [smZ, tyA, simprocAttr, bl, i64, smE, smF3, hpp]; exact rfl)); (case hg => assumption))))
                refine ⟨⟨i + 1, by omega⟩, ?_, by simp only; omega⟩
                (refine Sub.heap1 0 ?_ (by simp only [smF, dg, renL, renLs, simprocAttr, bl, i64, smE, smF3, hpp]; exact rfl) ?_ ?_; all_goals (first | exact dgs_plain _ | with_reducible rfl | (simp only [smF, dg, renL, renLs, simprocAttr, bl, i64, smE, smF3, hpp]; done) | (simp only [smF, dg, renL, renLs, simprocAttr, bl, i64, smE, smF3, hpp]) | skip))
                all_goals (first | exact ⟨rfl, rfl⟩ | (simp [hs, plainC]; done))
        · obtain rfl : i = (prs n).length := by omega
          have t4 := tmod4 (dF n xs (prs n).length)
          unfold fld
          generalize dF n xs (prs n).length = s at *
          by_cases h6 : s % 4 = 1
          · rw [if_pos h6]
            (repeat (first|apply zO (by decide +kernel)|apply zP (by decide +kernel)|apply zA|apply zB|apply zF|apply zG|apply zH|apply zI|apply zJ|apply zK|apply zL (by decide)|apply zM|apply zN (by decide)|apply zD|apply zC|apply zE|((first|apply l_go rfl|apply c_dec); (case hs => (simp (disch := first|omega|exact kD rfl|exact kX rfl) only [smZ, tyA, simprocAttr, bl, i64, smE, smF3]; exact rfl)); first|refine c_bt ?_|refine c_bf ?_|show lrun _ _ _ _ _ _ _ _ _)|(apply l_call rfl (by decide) rfl; (case hc => (simp (disch := first|omega|exact kD rfl|exact kX rfl) only [smZ, tyA, simprocAttr, bl, i64, smE, smF3]; exact rfl)); (case hg => assumption))))
            ((first | apply g_ret | apply g_end); case hres => (simp only [resL, rOs, rO, Option.map_some]; simp (disch := first|omega|exact kD rfl|exact kX rfl) only [smZ, tyA, simprocAttr, bl, i64, smE, smF3]; exact rfl))
            simp (disch := first|omega|exact kD rfl|exact kX rfl) only [smZ, tyA, simprocAttr, bl, i64, smE, smF3]
          · rw [if_neg h6, Int.mul_comm]
            (repeat (first|apply zO (by decide +kernel)|apply zP (by decide +kernel)|apply zA|apply zB|apply zF|apply zG|apply zH|apply zI|apply zJ|apply zK|apply zL (by decide)|apply zM|apply zN (by decide)|apply zD|apply zC|apply zE|((first|apply l_go rfl|apply c_dec); (case hs => (simp (disch := first|omega|exact kD rfl|exact kX rfl) only [smZ, tyA, simprocAttr, bl, i64, smE, smF3]; exact rfl)); first|refine c_bt ?_|refine c_bf ?_|show lrun _ _ _ _ _ _ _ _ _)|(apply l_call rfl (by decide) rfl; (case hc => (simp (disch := first|omega|exact kD rfl|exact kX rfl) only [smZ, tyA, simprocAttr, bl, i64, smE, smF3]; exact rfl)); (case hg => assumption))))
            ((first | apply g_ret | apply g_end); case hres => (simp only [resL, rOs, rO, Option.map_some]; simp (disch := first|omega|exact kD rfl|exact kX rfl) only [smZ, tyA, simprocAttr, bl, i64, smE, smF3]; exact rfl))
            simp (disch := first|omega|exact kD rfl|exact kX rfl) only [smZ, tyA, simprocAttr, bl, i64, smE, smF3]
    · skip
      refine good_of_lwp mix Tryz.func45 rfl (by decide) (nt := 89) rfl (rs := [.tmp 2, .tmp 3]) rfl (Nat.le_of_ble_eq_true rfl) ?_
      (repeat (first|apply zO (by decide +kernel)|apply zP (by decide +kernel)|apply zA|apply zB|apply zF|apply zG|apply zH|apply zI|apply zJ|apply zK|apply zL (by decide)|apply zM|apply zN (by decide)|apply zD|apply zC|apply zE|((first|apply l_go rfl|apply c_dec); (case hs => (simp (disch := first|omega|exact kD rfl|exact kX rfl) only [smZ, tyA, simprocAttr, bl, i64, smE, smF3]; exact rfl)); first|refine c_bt ?_|refine c_bf ?_|show lrun _ _ _ _ _ _ _ _ _)|(apply l_call rfl (by decide) rfl; (case hc => (simp (disch := first|omega|exact kD rfl|exact kX rfl) only [smZ, tyA, simprocAttr, bl, i64, smE, smF3]; exact rfl)); (case hg => assumption))))
      refine w_loop (α := {i : Nat // i ≤ (prs n).length}) (fun i => st 89 (lk [(1, .ptr 0 0), (8, i64 (dF n xs i.1)), (39, .sl (prs n).length (fcs n (prs n))), (40, i64 (prs n).length), (41, i64 i.1)]) (lkH [(0, ⟨24, [i64 n, .sl xs.length (ec xs)], false⟩)]) 1) (fun i => (prs n).length - i.1) ⟨0, by simp⟩ ?_ ?_
      · (refine Sub.heap1 0 ?_ (by simp only [smF, dg, renL, renLs, simprocAttr, bl, i64, smE, smF3]; exact rfl) ?_ ?_; all_goals (first | exact dgs_plain _ | with_reducible rfl | (simp only [smF, dg, renL, renLs, simprocAttr, bl, i64, smE, smF3]; done) | (simp only [smF, dg, renL, renLs, simprocAttr, bl, i64, smE, smF3]) | skip))
        all_goals (first | exact ⟨rfl, rfl⟩ | simp [k2])
      · rintro ⟨i, hi⟩
        simp only [st]
        have bF := dF_bd h i
        by_cases h1 : i < (prs n).length
        · have hs := dF_succ (n := n) (i := i) xs h1
          have bF2 := dF_bd h (i + 1)
          have hp := prs_mem (n := n) (p := (prs n).getD i 0) (by
            have e : (prs n).getD i 0 = (prs n)[i] := by simp [h1]
            rw [e]; exact List.getElem_mem h1)
          generalize hpp : (prs n).getD i 0 = p at *
          (repeat (first|apply zO (by decide +kernel)|apply zP (by decide +kernel)|apply zA|apply zB|apply zF|apply zG|apply zH|apply zI|apply zJ|apply zK|apply zL (by decide)|apply zM|apply zN (by decide)|apply zD|apply zC|apply zE|((first|apply l_go rfl|apply c_dec); (case hs => (simp (disch := first|omega|exact kD rfl|exact kX rfl) only [smZ, tyA, simprocAttr, bl, i64, smE, smF3, hpp]; exact rfl)); first|refine c_bt ?_|refine c_bf ?_|show lrun _ _ _ _ _ _ _ _ _)|(apply l_call rfl (by decide) rfl; (case hc => (simp (disch := first|omega|exact kD rfl|exact kX rfl) only [smZ, tyA, simprocAttr, bl, i64, smE, smF3, hpp]; exact rfl)); (case hg => assumption))))
          refine w_loop (α := {j : Nat // j ≤ xs.length}) (fun j => st 89 (lk [(1, .ptr 0 0), (8, i64 (dF n xs i)), (12, .ptr 1 0), (13, i64 (psum (cntE p n xs) j.1)), (39, .sl (prs n).length (fcs n (prs n))), (40, i64 (prs n).length), (41, i64 i), (47, .sl xs.length (ec (divL n))), (48, i64 xs.length), (49, i64 j.1)]) (lkH [(0, ⟨24, [i64 n, .sl xs.length (ec xs)], false⟩), (1, ⟨111, [i64 p, i64 (vp p n)], false⟩)]) 2) (fun j => xs.length - j.1) ⟨0, by simp⟩ ?_ ?_
          · (refine Sub.heapL [0,4] rfl (by decide) ?_ (by simp only [List.forall_mem_cons, List.not_mem_nil, false_imp_iff, implies_true, and_true]; decide) ?_ ?_; all_goals (first | (simp only [plainC, smF, dg, renL, renLs, simprocAttr, bl, i64, smE, smF3, hpp]; done) | (simp only [smF, dg, renL, renLs, simprocAttr, bl, i64, smE, smF3, hpp]) | skip))
            all_goals (simp [psum_z, plainC])
          · rintro ⟨j, hj⟩
            simp only [st]
            have bE := cE_bd (p := p) h hj
            by_cases h2 : j < xs.length
            · obtain ⟨d, e1, e2, e3, e4, e5⟩ := divL_get (n := n) (k := j) (hl ▸ h2)
              have c0 := h.get j
              have bE2 := cE_bd (p := p) h (k := j + 1) (by omega)
              have eE : psum (cntE p n xs) (j + 1) = psum (cntE p n xs) j + cntE p n xs j := psum_s _ _
              rw [cntE, e5] at eE
              have ht2 := tmod_iff (xs.getD j 0) 2
              rw [eE] at bE2
              generalize psum (cntE p n xs) j = E0 at *
              generalize hx : xs.getD j 0 = x at *
              by_cases h3 : x % 2 = 0
              · have h3' := ht2.2 h3
                rw [if_pos h3] at eE
                (repeat (first|apply zO (by decide +kernel)|apply zP (by decide +kernel)|apply zA|apply zB|apply zF|apply zG|apply zH|apply zI|apply zJ|apply zK|apply zL (by decide)|apply zM|apply zN (by decide)|apply zD|apply zC|apply zE|((first|apply l_go rfl|apply c_dec); (case hs => (simp (disch := first|omega|exact kD rfl|exact kX rfl) only [smZ, tyA, simprocAttr, bl, i64, smE, smF3, hpp, hx, e1]; exact rfl)); first|refine c_bt ?_|refine c_bf ?_|show lrun _ _ _ _ _ _ _ _ _)|(apply l_call rfl (by decide) rfl; (case hc => (simp (disch := first|omega|exact kD rfl|exact kX rfl) only [smZ, tyA, simprocAttr, bl, i64, smE, smF3, hpp, hx, e1]; exact rfl)); (case hg => assumption))))
                refine ⟨⟨j + 1, by omega⟩, ?_, by simp only; omega⟩
                (refine Sub.heapL [0,1] rfl (by decide) ?_ (by simp only [List.forall_mem_cons, List.not_mem_nil, false_imp_iff, implies_true, and_true]; decide) ?_ ?_; all_goals (first | (simp only [plainC, smF, dg, renL, renLs, simprocAttr, bl, i64, smE, smF3, hpp, hx, e1]; done) | (simp only [smF, dg, renL, renLs, simprocAttr, bl, i64, smE, smF3, hpp, hx, e1]) | skip))
                all_goals (first | exact ⟨rfl, rfl⟩ | (simp [eE, plainC]; done) | (simp only [eE, true_and, LV.lit.injEq, Value.int.injEq, and_true]; omega))
              · have h3' : ¬ x.tmod 2 = 0 := fun e => h3 (ht2.1 e)
                rw [if_neg h3] at eE
                (repeat (first|apply zO (by decide +kernel)|apply zP (by decide +kernel)|apply zA|apply zB|apply zF|apply zG|apply zH|apply zI|apply zJ|apply zK|apply zL (by decide)|apply zM|apply zN (by decide)|apply zD|apply zC|apply zE|((first|apply l_go rfl|apply c_dec); (case hs => (simp (disch := first|omega|exact kD rfl|exact kX rfl) only [smZ, tyA, simprocAttr, bl, i64, smE, smF3, hpp, hx, e1]; exact rfl)); first|refine c_bt ?_|refine c_bf ?_|show lrun _ _ _ _ _ _ _ _ _)|(apply l_call rfl (by decide) rfl; (case hc => (simp (disch := first|omega|exact kD rfl|exact kX rfl) only [smZ, tyA, simprocAttr, bl, i64, smE, smF3, hpp, hx, e1]; exact rfl)); (case hg => assumption))))
                refine w_loop (α := {y : Nat × Nat // 0 < y.1 ∧ y.1 ≤ d ∧ y.2 + vp p y.1 = vp p d}) (fun y => st 89 (lk [(1, .ptr 0 0), (8, i64 (dF n xs i)), (12, .ptr 1 0), (13, i64 (E0 + (y.1.2 : Int))), (15, i64 y.1.1), (39, .sl (prs n).length (fcs n (prs n))), (40, i64 (prs n).length), (41, i64 i), (47, .sl xs.length (ec (divL n))), (48, i64 xs.length), (49, i64 j)]) (lkH [(0, ⟨24, [i64 n, .sl xs.length (ec xs)], false⟩), (1, ⟨111, [i64 p, i64 (vp p n)], false⟩)]) 2) (fun y => y.1.1) ⟨(d, 0), by simp only; omega, Nat.le_refl _, by simp⟩ ?_ ?_
                · (refine Sub.heapL [0,1] rfl (by decide) ?_ (by simp only [List.forall_mem_cons, List.not_mem_nil, false_imp_iff, implies_true, and_true]; decide) ?_ ?_; all_goals (first | (simp only [plainC, smF, dg, renL, renLs, simprocAttr, bl, i64, smE, smF3, hpp, hx, e1]; done) | (simp only [smF, dg, renL, renLs, simprocAttr, bl, i64, smE, smF3, hpp, hx, e1]) | skip))
                  all_goals (first | exact ⟨rfl, rfl⟩ | (simp [eE, plainC]; done) | (simp only [eE, true_and, LV.lit.injEq, Value.int.injEq, and_true]; omega))
                · rintro ⟨⟨y, m⟩, hy0, hy1, hy2⟩
                  simp only at hy0 hy1 hy2
                  simp only [st]
                  have hv := vp_le p d
                  by_cases h4 : y % p = 0
                  · have hs := vp_step hp.1 hy0 h4
                    have hlt : y / p < y := Nat.div_lt_self hy0 (by omega)
                    have hpos : 0 < y / p := Nat.div_pos (Nat.le_of_dvd hy0 (Nat.dvd_of_mod_eq_zero h4)) (by omega)
                    (repeat (first|apply zO (by decide +kernel)|apply zP (by decide +kernel)|apply zA|apply zB|apply zF|apply zG|apply zH|apply zI|apply zJ|apply zK|apply zL (by decide)|apply zM|apply zN (by decide)|apply zD|apply zC|apply zE|((first|apply l_go rfl|apply c_dec); (case hs => (simp (disch := first|omega|exact kD rfl|exact kX rfl) only [smZ, tyA, simprocAttr, bl, i64, smE, smF3, hpp, hx, e1]; exact rfl)); first|refine c_bt ?_|refine c_bf ?_|show lrun _ _ _ _ _ _ _ _ _)|(apply l_call rfl (by decide) rfl; (case hc => (simp (disch := first|omega|exact kD rfl|exact kX rfl) only [smZ, tyA, simprocAttr, bl, i64, smE, smF3, hpp, hx, e1]; exact rfl)); (case hg => assumption))))
                    refine ⟨⟨(y / p, m + 1), hpos, by simp only; omega, by simp only; omega⟩, ?_, hlt⟩
                    (refine Sub.heapL [0,1] rfl (by decide) ?_ (by simp only [List.forall_mem_cons, List.not_mem_nil, false_imp_iff, implies_true, and_true]; decide) ?_ ?_; all_goals (first | (simp only [plainC, smF, dg, renL, renLs, simprocAttr, bl, i64, smE, smF3, hpp, hx, e1]; done) | (simp only [smF, dg, renL, renLs, simprocAttr, bl, i64, smE, smF3, hpp, hx, e1]) | skip))
                    all_goals (first | exact ⟨rfl, rfl⟩ | (simp [eE, plainC]; done) | (simp only [eE, true_and, LV.lit.injEq, Value.int.injEq, and_true]; omega))
                  · have hs := vp_stop h4
                    obtain rfl : m = vp p d := by omega
                    (repeat (first|apply zO (by decide +kernel)|apply zP (by decide +kernel)|apply zA|apply zB|apply zF|apply zG|apply zH|apply zI|apply zJ|apply zK|apply zL (by decide)|apply zM|apply zN (by decide)|apply zD|apply zC|apply zE|((first|apply l_go rfl|apply c_dec); (case hs => (simp (disch := first|omega|exact kD rfl|exact kX rfl) only [smZ, tyA, simprocAttr, bl, i64, smE, smF3, hpp, hx, e1]; exact rfl)); first|refine c_bt ?_|refine c_bf ?_|show lrun _ _ _ _ _ _ _ _ _)|(apply l_call rfl (by decide) rfl; (case hc => (simp (disch := first|omega|exact kD rfl|exact kX rfl) only [smZ, tyA, simprocAttr, bl, i64, smE, smF3, hpp, hx, e1]; exact rfl)); (case hg => assumption))))
                    refine ⟨⟨j + 1, by omega⟩, ?_, by simp only; omega⟩
                    (refine Sub.heapL [0,1] rfl (by decide) ?_ (by simp only [List.forall_mem_cons, List.not_mem_nil, false_imp_iff, implies_true, and_true]; decide) ?_ ?_; all_goals (first | (simp only [plainC, smF, dg, renL, renLs, simprocAttr, bl, i64, smE, smF3, hpp, hx, e1]; done) | (simp only [smF, dg, renL, renLs, simprocAttr, bl, i64, smE, smF3, hpp, hx, e1]) | skip))
                    all_goals (first | exact ⟨rfl, rfl⟩ | (simp [eE, plainC]; done) | (simp only [eE, true_and, LV.lit.injEq, Value.int.injEq, and_true]; omega))
            · obtain rfl : j = xs.length := by omega
              have hnn := cntE_nn (p := p) (n := n) (xs := xs) xs.length
              generalize psum (cntE p n xs) xs.length = E1 at *
              by_cases h5 : E1 % 2 = 0
              · rw [if_pos h5] at hs
                (repeat (first|apply zO (by decide +kernel)|apply zP (by decide +kernel)|apply zA|apply zB|apply zF|apply zG|apply zH|apply zI|apply zJ|apply zK|apply zL (by decide)|apply zM|apply zN (by decide)|apply zD|apply zC|apply zE|((first|apply l_go rfl|apply c_dec); (case hs => (simp (disch := first|omega|exact kD rfl|exact kX rfl) only [smZ, tyA, simprocAttr, bl, i64, smE, smF3, hpp]; exact rfl)); first|refine c_bt ?_|refine c_bf ?_|show lrun _ _ _ _ _ _ _ _ _)|(apply l_call rfl (by decide) rfl; (case hc => (simp (disch := first|omega|exact kD rfl|exact kX rfl) only [smZ, tyA, simprocAttr, bl, i64, smE, smF3, hpp]; exact rfl)); (case hg => assumption))))
                refine ⟨⟨i + 1, by omega⟩, ?_, by simp only; omega⟩
                (refine Sub.heap1 0 ?_ (by simp only [smF, dg, renL, renLs, simprocAttr, bl, i64, smE, smF3, hpp]; exact rfl) ?_ ?_; all_goals (first | exact dgs_plain _ | with_reducible rfl | (simp only [smF, dg, renL, renLs, simprocAttr, bl, i64, smE, smF3, hpp]; done) | (simp only [smF, dg, renL, renLs, simprocAttr, bl, i64, smE, smF3, hpp]) | skip))
                all_goals (first | exact ⟨rfl, rfl⟩ | (simp [hs, plainC]; done))
              · rw [if_neg h5] at hs
                have bF3 := bF2
                rw [hs] at bF3
                (repeat (first|apply zO (by decide +kernel)|apply zP (by decide +kernel)|apply zA|apply zB|apply zF|apply zG|apply zH|apply zI|apply zJ|apply zK|apply zL (by decide)|apply zM|apply zN (by decide)|apply zD|apply zC|apply zE|((first|apply l_go rfl|apply c_dec); (case hs => (simp (disch := first|omega|exact kD rfl|exact kX rfl) only [smZ, tyA, simprocAttr, bl, i64, smE, smF3, hpp]; exact rfl)); first|refine c_bt ?_|refine c_bf ?_|show lrun _ _ _ _ _ _ _ _ _)|(apply l_call rfl (by decide) rfl; (case hc => (simp (disch := first|omega|exact kD rfl|exact kX rfl) only [smZ, tyA, simprocAttr, bl, i64, smE, smF3, hpp]; exact rfl)); (case hg => assumption))))
                refine ⟨⟨i + 1, by omega⟩, ?_, by simp only; omega⟩
                (refine Sub.heap1 0 ?_ (by simp only [smF, dg, renL, renLs, simprocAttr, bl, i64, smE, smF3, hpp]; exact rfl) ?_ ?_; all_goals (first | exact dgs_plain _ | with_reducible rfl | (simp only [smF, dg, renL, renLs, simprocAttr, bl, i64, smE, smF3, hpp]; done) | (simp only [smF, dg, renL, renLs, simprocAttr, bl, i64, smE, smF3, hpp]) | skip))
                all_goals (first | exact ⟨rfl, rfl⟩ | (simp [hs, plainC]; done))
        · obtain rfl : i = (prs n).length := by omega
          have t4 := tmod4 (dF n xs (prs n).length)
          unfold fld
          generalize dF n xs (prs n).length = s at *
          by_cases h6 : s % 4 = 1
          · rw [if_pos h6]
            (repeat (first|apply zO (by decide +kernel)|apply zP (by decide +kernel)|apply zA|apply zB|apply zF|apply zG|apply zH|apply zI|apply zJ|apply zK|apply zL (by decide)|apply zM|apply zN (by decide)|apply zD|apply zC|apply zE|((first|apply l_go rfl|apply c_dec); (case hs => (simp (disch := first|omega|exact kD rfl|exact kX rfl) only [smZ, tyA, simprocAttr, bl, i64, smE, smF3]; exact rfl)); first|refine c_bt ?_|refine c_bf ?_|show lrun _ _ _ _ _ _ _ _ _)|(apply l_call rfl (by decide) rfl; (case hc => (simp (disch := first|omega|exact kD rfl|exact kX rfl) only [smZ, tyA, simprocAttr, bl, i64, smE, smF3]; exact rfl)); (case hg => assumption))))
            ((first | apply g_ret | apply g_end); case hres => (simp only [resL, rOs, rO, Option.map_some]; simp (disch := first|omega|exact kD rfl|exact kX rfl) only [smZ, tyA, simprocAttr, bl, i64, smE, smF3]; exact rfl))
            simp (disch := first|omega|exact kD rfl|exact kX rfl) only [smZ, tyA, simprocAttr, bl, i64, smE, smF3]
          · rw [if_neg h6, Int.mul_comm]
            (repeat (first|apply zO (by decide +kernel)|apply zP (by decide +kernel)|apply zA|apply zB|apply zF|apply zG|apply zH|apply zI|apply zJ|apply zK|apply zL (by decide)|apply zM|apply zN (by decide)|apply zD|apply zC|apply zE|((first|apply l_go rfl|apply c_dec); (case hs => (simp (disch := first|omega|exact kD rfl|exact kX rfl) only [smZ, tyA, simprocAttr, bl, i64, smE, smF3]; exact rfl)); first|refine c_bt ?_|refine c_bf ?_|show lrun _ _ _ _ _ _ _ _ _)|(apply l_call rfl (by decide) rfl; (case hc => (simp (disch := first|omega|exact kD rfl|exact kX rfl) only [smZ, tyA, simprocAttr, bl, i64, smE, smF3]; exact rfl)); (case hg => assumption))))
            ((first | apply g_ret | apply g_end); case hres => (simp only [resL, rOs, rO, Option.map_some]; simp (disch := first|omega|exact kD rfl|exact kX rfl) only [smZ, tyA, simprocAttr, bl, i64, smE, smF3]; exact rfl))
            simp (disch := first|omega|exact kD rfl|exact kX rfl) only [smZ, tyA, simprocAttr, bl, i64, smE, smF3]
  · -- X: bl, i64, smE
    rw [if_neg hm, if_neg hm]
    rw [Bool.eq_false_iff.2 hm] at g2
    rw [i64, bl] at *
    refine good_of_lwp mix Tryz.func45 rfl (by decide) (nt := 89) rfl (rs := [.tmp 2, .tmp 3]) rfl (Nat.le_of_ble_eq_true rfl) ?_
    (repeat (first|apply zO (by decide +kernel)|apply zP (by decide +kernel)|apply zA|apply zB|apply zF|apply zG|apply zH|apply zI|apply zJ|apply zK|apply zL (by decide)|apply zM|apply zN (by decide)|apply zD|apply zC|apply zE|((first|apply l_go rfl|apply c_dec); (case hs => (simp (disch := first|omega|exact kD rfl|exact kX rfl) only [smZ, tyA, simprocAttr, bl, i64, smE, smF3]; exact rfl)); first|refine c_bt ?_|refine c_bf ?_|show lrun _ _ _ _ _ _ _ _ _)|(apply l_call rfl (by decide) rfl; (case hc => (simp (disch := first|omega|exact kD rfl|exact kX rfl) only [smZ, tyA, simprocAttr, bl, i64, smE, smF3]; exact rfl)); (case hg => assumption))))
    ((first | apply g_ret | apply g_end); case hres => (simp only [resL, rOs, rO, Option.map_some]; simp (disch := first|omega|exact kD rfl|exact kX rfl) only [smZ, tyA, simprocAttr, bl, i64, smE, smF3]; exact rfl))
    simp (disch := first|omega|exact kD rfl|exact kX rfl) only [smZ, tyA, simprocAttr, bl, i64, smE, smF3]
end Go.Proofs.YtbajpjjbaffnnaaGreat
