/- Contracts of functions of the program, and what proves them (texts: X7). -/
import Derived.Test.YtbajpjjbaffnnaaGreatZBC
import Derived.Test.YtbajpjjbaffnnaaGreatZBU
set_option linter.all false
namespace Go.Proofs.YtbajpjjbaffnnaaGreat
open Go Go.Lg Go.Num
set_option maxRecDepth 100000
set_option maxHeartbeats 8000000
attribute [local irreducible] Go.Lg.lrun Go.Lg.lwp Go.Lg.exThen Go.Lg.exBlk Go.Lg.keep Go.Lg.goodPost sg mg sS qs sv svM spM oc mC dc ec psum etaM etaK etaC
theorem rexpand_in {n : Nat} {xs : List Int} (ok : EtaOk n xs) (g0 : PureGood Tryz.prog 23 [.agg [i64 n, .sl xs.length (ec xs)]] (i64 0)) (prec : Int) (hp : -100 ≤ prec ∧ prec ≤ 1000) (h : Int) (hlow : psum (exL n xs) xs.length = 24 * h) (hh : -100 ≤ h) (N : Nat) (hN : prec - h - 1 = N)
    {a : Nat → Rat} (P : ProdOk (etaC n xs N) a) : PureGood Tryz.prog 16 [.agg [i64 n, .sl xs.length (ec xs)], i64 prec] (.tup [.agg [i64 h, .sl (N + 1) (qc (aP a (N + 1)))], i64 0]) := by
  have n1 := ok.n1
  have n2 := ok.n2
  have hl := ok.len
  have l1 := ok.len_le
  have lc := etaC_len n xs N
  have P1 := P.len
  have g1 := rsum1_good ok
  have gd := rdivisors_good n1 n2
  have dl := divL_length n
  rw [← hl] at gd dl
  have kp := rprod_good P h hh (by rw [lc]; omega)
  rw [lc] at kp P1
  have b0 := ok.s1 (Nat.le_refl xs.length)
  have t1 : (psum (exL n xs) xs.length).tmod 24 = 0 := by rw [hlow]; exact Int.mul_tmod_right ..
  have t2 : (psum (exL n xs) xs.length).tdiv 24 = h := by rw [hlow]; exact Int.mul_tdiv_cancel_left _ (by omega)
  have svb0 := fun m j (hj : j ≤ xs.length) => sv_bd (d := dvs n) (x := exS xs) (B := 200) (k := xs.length) (by omega) (fun j _ => ok.get j) (m + 1) j hj
  have svb1 : ∀ m j, j ≤ xs.length → -4800 ≤ sv (dvs n) (exS xs) j (m + 1) ∧ sv (dvs n) (exS xs) j (m + 1) ≤ 4800 := fun m j hj => by
    have := svb0 m j hj
    omega
  clear svb0
  generalize psum (exL n xs) xs.length = s1 at *
  simp only [i64] at *
  refine good_of_lwp mix Tryz.func16 rfl (by decide) (nt := 82) rfl (rs := [.cell 4 31, .tmp 5]) rfl (Nat.le_of_ble_eq_true rfl) ?_
  (repeat (first|apply zO (by decide +kernel)|apply zP (by decide +kernel)|apply zA|apply zB|apply zF|apply zG|apply zH|apply zI|apply zJ|apply zK|apply zL (by decide)|apply zM|apply zN (by decide)|apply zD|apply zC|apply zE|((first|apply l_go rfl|apply c_dec); (case hs => (simp (disch := first|omega|exact kD rfl|exact kX rfl) only [smZ, tyA, simprocAttr, bl, i64, smT, smE, t1, t2]; exact rfl)); first|refine c_bt ?_|refine c_bf ?_|show lrun _ _ _ _ _ _ _ _ _)|(apply l_call rfl (by decide) rfl; (case hc => (simp (disch := first|omega|exact kD rfl|exact kX rfl) only [smZ, tyA, simprocAttr, bl, i64, smT, smE, t1, t2]; exact rfl)); (case hg => assumption))))
  refine w_loop (α := {m : Nat // m ≤ N}) (fun m => st 82 (lk [(1, i64 prec), (2, .ptr 0 0), (4, .ptr 1 0), (7, i64 h), (8, .sl xs.length (ec (divL n))), (9, nV 2 m.1), (10, i64 (m.1 + 1 : Nat))]) (lkH ((0, ⟨24, [i64 n, .sl xs.length (ec xs)], false⟩) :: (1, ⟨31, [i64 0, nilL], false⟩) :: nB 2 m.1 (qc (cQ (etaC n xs N) m.1)))) 3) (fun m => N - m.1) ⟨0, by omega⟩ ?_ ?_
  · simp only [nV_zero, nB_zero]
    (refine Sub.heapL [0,1,99] rfl (by decide) ?_ (by simp only [List.forall_mem_cons, List.not_mem_nil, false_imp_iff, implies_true, and_true]; decide) ?_ ?_; all_goals (first | (simp only [plainC, smF, dg, renL, renLs, simprocAttr, bl, i64, smT, smE]; done) | (simp only [smF, dg, renL, renLs, simprocAttr, bl, i64, smT, smE]; (repeat' apply And.intro); all_goals rfl) | (simp only [smF, dg, renL, renLs, simprocAttr, bl, i64, smT, smE]) | skip))
    all_goals (first | done | simp)
  · rintro ⟨m, hm⟩
    simp only [st]
    have svb := svb1 m
    by_cases hmN : m < N
    · by_cases h0 : m = 0
      · simp only [nV_of h0, nB_of h0]
        have hlq := cQ_len (etaC n xs N) m
        (repeat (first|apply zO (by decide +kernel)|apply zP (by decide +kernel)|apply zA|apply zB|apply zF|apply zG|apply zH|apply zI|apply zJ|apply zK|apply zL (by decide)|apply zM|apply zN (by decide)|apply zD|apply zC|apply zE|((first|apply l_go rfl|apply c_dec); (case hs => (simp (disch := first|omega|exact kD rfl|exact kX rfl) only [smZ, tyA, simprocAttr, bl, i64, smT, smE]; exact rfl)); first|refine c_bt ?_|refine c_bf ?_|show lrun _ _ _ _ _ _ _ _ _)|(apply l_call rfl (by decide) rfl; (case hc => (simp (disch := first|omega|exact kD rfl|exact kX rfl) only [smZ, tyA, simprocAttr, bl, i64, smT, smE]; exact rfl)); (case hg => assumption))))
        refine w_loop (α := {j : Nat // j ≤ xs.length}) (fun j => st 82 (lk [(1, i64 prec), (2, .ptr 0 0), (4, .ptr 1 0), (7, i64 h), (8, .sl xs.length (ec (divL n))), (9, nilL), (10, i64 (m + 1 : Nat)), (11, i64 (sv (dvs n) (exS xs) j.1 (m + 1))), (12, i64 j.1)]) (lkH [(0, ⟨24, [i64 n, .sl xs.length (ec xs)], false⟩), (1, ⟨31, [i64 0, nilL], false⟩)]) 3) (fun j => xs.length - j.1) ⟨0, by omega⟩ ?_ ?_
        · (refine Sub.heapL [0,1,99] rfl (by decide) ?_ (by simp only [List.forall_mem_cons, List.not_mem_nil, false_imp_iff, implies_true, and_true]; decide) ?_ ?_; all_goals (first | (simp only [plainC, smF, dg, renL, renLs, simprocAttr, bl, i64, smT, smE]; done) | (simp only [smF, dg, renL, renLs, simprocAttr, bl, i64, smT, smE]; (repeat' apply And.intro); all_goals rfl) | (simp only [smF, dg, renL, renLs, simprocAttr, bl, i64, smT, smE]) | skip))
          all_goals (first | done | simp [sv_zero])
        · rintro ⟨j, hj⟩
          simp only [st]
          by_cases hjn : j < xs.length
          · have b1 := svb j hj
            obtain ⟨d, e1, e2, e3, e4, e5⟩ := divL_get (n := n) (k := j) (hl ▸ hjn)
            have hd : dvs n j = d := e5
            have c0 := ok.get j
            by_cases hdv : (m + 1) % d = 0
            · have es : sv (dvs n) (exS xs) (j + 1) (m + 1) = sv (dvs n) (exS xs) j (m + 1) + xs.getD j 0 := by rw [sv_succ, hd, if_pos hdv]; rfl
              generalize sv (dvs n) (exS xs) j (m + 1) = S at *
              generalize hx : xs.getD j 0 = x at *
              (repeat (first|apply zO (by decide +kernel)|apply zP (by decide +kernel)|apply zA|apply zB|apply zF|apply zG|apply zH|apply zI|apply zJ|apply zK|apply zL (by decide)|apply zM|apply zN (by decide)|apply zD|apply zC|apply zE|((first|apply l_go rfl|apply c_dec); (case hs => (simp (disch := first|omega|exact kD rfl|exact kX rfl) only [smZ, tyA, simprocAttr, bl, i64, smT, smE, e1, hx]; exact rfl)); first|refine c_bt ?_|refine c_bf ?_|show lrun _ _ _ _ _ _ _ _ _)|(apply l_call rfl (by decide) rfl; (case hc => (simp (disch := first|omega|exact kD rfl|exact kX rfl) only [smZ, tyA, simprocAttr, bl, i64, smT, smE, e1, hx]; exact rfl)); (case hg => assumption))))
              refine ⟨⟨j + 1, by omega⟩, ?_, by simp only; omega⟩
              (refine Sub.heapL [0,1,99] rfl (by decide) ?_ (by simp only [List.forall_mem_cons, List.not_mem_nil, false_imp_iff, implies_true, and_true]; decide) ?_ ?_; all_goals (first | (simp only [plainC, smF, dg, renL, renLs, simprocAttr, bl, i64, smT, smE]; done) | (simp only [smF, dg, renL, renLs, simprocAttr, bl, i64, smT, smE]; (repeat' apply And.intro); all_goals rfl) | (simp only [smF, dg, renL, renLs, simprocAttr, bl, i64, smT, smE]) | skip))
              all_goals (first | done | simp [es])
            · have es : sv (dvs n) (exS xs) (j + 1) (m + 1) = sv (dvs n) (exS xs) j (m + 1) := by rw [sv_succ, hd, if_neg hdv, Int.add_zero]
              (repeat (first|apply zO (by decide +kernel)|apply zP (by decide +kernel)|apply zA|apply zB|apply zF|apply zG|apply zH|apply zI|apply zJ|apply zK|apply zL (by decide)|apply zM|apply zN (by decide)|apply zD|apply zC|apply zE|((first|apply l_go rfl|apply c_dec); (case hs => (simp (disch := first|omega|exact kD rfl|exact kX rfl) only [smZ, tyA, simprocAttr, bl, i64, smT, smE, e1]; exact rfl)); first|refine c_bt ?_|refine c_bf ?_|show lrun _ _ _ _ _ _ _ _ _)|(apply l_call rfl (by decide) rfl; (case hc => (simp (disch := first|omega|exact kD rfl|exact kX rfl) only [smZ, tyA, simprocAttr, bl, i64, smT, smE, e1]; exact rfl)); (case hg => assumption))))
              refine ⟨⟨j + 1, by omega⟩, ?_, by simp only; omega⟩
              (refine Sub.heapL [0,1,99] rfl (by decide) ?_ (by simp only [List.forall_mem_cons, List.not_mem_nil, false_imp_iff, implies_true, and_true]; decide) ?_ ?_; all_goals (first | (simp only [plainC, smF, dg, renL, renLs, simprocAttr, bl, i64, smT, smE]; done) | (simp only [smF, dg, renL, renLs, simprocAttr, bl, i64, smT, smE]; (repeat' apply And.intro); all_goals rfl) | (simp only [smF, dg, renL, renLs, simprocAttr, bl, i64, smT, smE]) | skip))
              all_goals (first | done | simp [es])
          · obtain rfl : j = xs.length := by omega
            have eg : (etaC n xs N).getD m 0 = sv (dvs n) (exS xs) xs.length (m + 1) := etaC_get hmN
            have b1 := etaC_getD_bd ok N m
            have happ := cQ_succ (etaC n xs N) m
            rw [← eg]
            have r1 := baseQ_good ((etaC n xs N).getD m 0) (by omega)
            generalize (etaC n xs N).getD m 0 = v at *
            generalize ((v : Int) : Rat) = w at *
            simp only [encQ_sm, i64] at r1
            (repeat (first|apply zO (by decide +kernel)|apply zP (by decide +kernel)|apply zA|apply zB|apply zF|apply zG|apply zH|apply zI|apply zJ|apply zK|apply zL (by decide)|apply zM|apply zN (by decide)|apply zD|apply zC|apply zE|((first|apply l_go rfl|apply c_dec); (case hs => (simp (disch := first|omega|exact kD rfl|exact kX rfl) only [smZ, tyA, simprocAttr, bl, i64, smT, smE]; exact rfl)); first|refine c_bt ?_|refine c_bf ?_|show lrun _ _ _ _ _ _ _ _ _)|(apply l_call rfl (by decide) rfl; (case hc => (simp (disch := first|omega|exact kD rfl|exact kX rfl) only [smZ, tyA, simprocAttr, bl, i64, smT, smE]; exact rfl)); (case hg => assumption))))
            refine ⟨⟨m + 1, by omega⟩, ?_, by simp only; omega⟩
            (subst h0; simp only [nV_succ, nB_succ]; (refine Sub.heapL [0,1,11] rfl (by decide) ?_ (by simp only [List.forall_mem_cons, List.not_mem_nil, false_imp_iff, implies_true, and_true]; decide) ?_ ?_; all_goals (first | (simp only [plainC, smF, dg, renL, renLs, simprocAttr, bl, i64, smT, smE]; done) | (simp only [smF, dg, renL, renLs, simprocAttr, bl, i64, smT, smE]; (repeat' apply And.intro); all_goals rfl) | (simp only [smF, dg, renL, renLs, simprocAttr, bl, i64, smT, smE]) | skip)); have e : cQ (etaC n xs N) 1 = [w] := happ; rw [e, ← qc_one]; exact ⟨trivial, trivial, rfl⟩)
      · simp only [nV_ne h0, nB_ne h0]
        have hlq := cQ_len (etaC n xs N) m
        (repeat (first|apply zO (by decide +kernel)|apply zP (by decide +kernel)|apply zA|apply zB|apply zF|apply zG|apply zH|apply zI|apply zJ|apply zK|apply zL (by decide)|apply zM|apply zN (by decide)|apply zD|apply zC|apply zE|((first|apply l_go rfl|apply c_dec); (case hs => (simp (disch := first|omega|exact kD rfl|exact kX rfl) only [smZ, tyA, simprocAttr, bl, i64, smT, smE]; exact rfl)); first|refine c_bt ?_|refine c_bf ?_|show lrun _ _ _ _ _ _ _ _ _)|(apply l_call rfl (by decide) rfl; (case hc => (simp (disch := first|omega|exact kD rfl|exact kX rfl) only [smZ, tyA, simprocAttr, bl, i64, smT, smE]; exact rfl)); (case hg => assumption))))
        refine w_loop (α := {j : Nat // j ≤ xs.length}) (fun j => st 82 (lk [(1, i64 prec), (2, .ptr 0 0), (4, .ptr 1 0), (7, i64 h), (8, .sl xs.length (ec (divL n))), (9, .own 2 0 m 4), (10, i64 (m + 1 : Nat)), (11, i64 (sv (dvs n) (exS xs) j.1 (m + 1))), (12, i64 j.1)]) (lkH [(0, ⟨24, [i64 n, .sl xs.length (ec xs)], false⟩), (1, ⟨31, [i64 0, nilL], false⟩), (2, ⟨46, qc (cQ (etaC n xs N) m), false⟩)]) 3) (fun j => xs.length - j.1) ⟨0, by omega⟩ ?_ ?_
        · (refine Sub.heapL [0,1,2] rfl (by decide) ?_ (by simp only [List.forall_mem_cons, List.not_mem_nil, false_imp_iff, implies_true, and_true]; decide) ?_ ?_; all_goals (first | (simp only [plainC, smF, dg, renL, renLs, simprocAttr, bl, i64, smT, smE]; done) | (simp only [smF, dg, renL, renLs, simprocAttr, bl, i64, smT, smE]; (repeat' apply And.intro); all_goals rfl) | (simp only [smF, dg, renL, renLs, simprocAttr, bl, i64, smT, smE]) | skip))
          all_goals (first | done | simp [sv_zero])
        · rintro ⟨j, hj⟩
          simp only [st]
          by_cases hjn : j < xs.length
          · have b1 := svb j hj
            obtain ⟨d, e1, e2, e3, e4, e5⟩ := divL_get (n := n) (k := j) (hl ▸ hjn)
            have hd : dvs n j = d := e5
            have c0 := ok.get j
            by_cases hdv : (m + 1) % d = 0
            · have es : sv (dvs n) (exS xs) (j + 1) (m + 1) = sv (dvs n) (exS xs) j (m + 1) + xs.getD j 0 := by rw [sv_succ, hd, if_pos hdv]; rfl
              generalize sv (dvs n) (exS xs) j (m + 1) = S at *
              generalize hx : xs.getD j 0 = x at *
              (repeat (first|apply zO (by decide +kernel)|apply zP (by decide +kernel)|apply zA|apply zB|apply zF|apply zG|apply zH|apply zI|apply zJ|apply zK|apply zL (by decide)|apply zM|apply zN (by decide)|apply zD|apply zC|apply zE|((first|apply l_go rfl|apply c_dec); (case hs => (simp (disch := first|omega|exact kD rfl|exact kX rfl) only [smZ, tyA, simprocAttr, bl, i64, smT, smE, e1, hx]; exact rfl)); first|refine c_bt ?_|refine c_bf ?_|show lrun _ _ _ _ _ _ _ _ _)|(apply l_call rfl (by decide) rfl; (case hc => (simp (disch := first|omega|exact kD rfl|exact kX rfl) only [smZ, tyA, simprocAttr, bl, i64, smT, smE, e1, hx]; exact rfl)); (case hg => assumption))))
              refine ⟨⟨j + 1, by omega⟩, ?_, by simp only; omega⟩
              (refine Sub.heapL [0,1,2] rfl (by decide) ?_ (by simp only [List.forall_mem_cons, List.not_mem_nil, false_imp_iff, implies_true, and_true]; decide) ?_ ?_; all_goals (first | (simp only [plainC, smF, dg, renL, renLs, simprocAttr, bl, i64, smT, smE]; done) | (simp only [smF, dg, renL, renLs, simprocAttr, bl, i64, smT, smE]; (repeat' apply And.intro); all_goals rfl) | (simp only [smF, dg, renL, renLs, simprocAttr, bl, i64, smT, smE]) | skip))
              all_goals (first | done | simp [es])
            · have es : sv (dvs n) (exS xs) (j + 1) (m + 1) = sv (dvs n) (exS xs) j (m + 1) := by rw [sv_succ, hd, if_neg hdv, Int.add_zero]
              (repeat (first|apply zO (by decide +kernel)|apply zP (by decide +kernel)|apply zA|apply zB|apply zF|apply zG|apply zH|apply zI|apply zJ|apply zK|apply zL (by decide)|apply zM|apply zN (by decide)|apply zD|apply zC|apply zE|((first|apply l_go rfl|apply c_dec); (case hs => (simp (disch := first|omega|exact kD rfl|exact kX rfl) only [smZ, tyA, simprocAttr, bl, i64, smT, smE, e1]; exact rfl)); first|refine c_bt ?_|refine c_bf ?_|show lrun _ _ _ _ _ _ _ _ _)|(apply l_call rfl (by decide) rfl; (case hc => (simp (disch := first|omega|exact kD rfl|exact kX rfl) only [smZ, tyA, simprocAttr, bl, i64, smT, smE, e1]; exact rfl)); (case hg => assumption))))
              refine ⟨⟨j + 1, by omega⟩, ?_, by simp only; omega⟩
              (refine Sub.heapL [0,1,2] rfl (by decide) ?_ (by simp only [List.forall_mem_cons, List.not_mem_nil, false_imp_iff, implies_true, and_true]; decide) ?_ ?_; all_goals (first | (simp only [plainC, smF, dg, renL, renLs, simprocAttr, bl, i64, smT, smE]; done) | (simp only [smF, dg, renL, renLs, simprocAttr, bl, i64, smT, smE]; (repeat' apply And.intro); all_goals rfl) | (simp only [smF, dg, renL, renLs, simprocAttr, bl, i64, smT, smE]) | skip))
              all_goals (first | done | simp [es])
          · obtain rfl : j = xs.length := by omega
            have eg : (etaC n xs N).getD m 0 = sv (dvs n) (exS xs) xs.length (m + 1) := etaC_get hmN
            have b1 := etaC_getD_bd ok N m
            have happ := cQ_succ (etaC n xs N) m
            rw [← eg]
            have r1 := baseQ_good ((etaC n xs N).getD m 0) (by omega)
            generalize (etaC n xs N).getD m 0 = v at *
            generalize ((v : Int) : Rat) = w at *
            simp only [encQ_sm, i64] at r1
            (repeat (first|apply zO (by decide +kernel)|apply zP (by decide +kernel)|apply zA|apply zB|apply zF|apply zG|apply zH|apply zI|apply zJ|apply zK|apply zL (by decide)|apply zM|apply zN (by decide)|apply zD|apply zC|apply zE|((first|apply l_go rfl|apply c_dec); (case hs => (simp (disch := first|omega|exact kD rfl|exact kX rfl) only [smZ, tyA, simprocAttr, bl, i64, smT, smE]; exact rfl)); first|refine c_bt ?_|refine c_bf ?_|show lrun _ _ _ _ _ _ _ _ _)|(apply l_call rfl (by decide) rfl; (case hc => (simp (disch := first|omega|exact kD rfl|exact kX rfl) only [smZ, tyA, simprocAttr, bl, i64, smT, smE]; exact rfl)); (case hg => assumption))))
            refine ⟨⟨m + 1, by omega⟩, ?_, by simp only; omega⟩
            (simp only [nV_succ, nB_succ]; (refine Sub.heapL [0,1,11] rfl (by decide) ?_ (by simp only [List.forall_mem_cons, List.not_mem_nil, false_imp_iff, implies_true, and_true]; decide) ?_ ?_; all_goals (first | (simp only [plainC, smF, dg, renL, renLs, simprocAttr, bl, i64, smT, smE]; done) | (simp only [smF, dg, renL, renLs, simprocAttr, bl, i64, smT, smE]; (repeat' apply And.intro); all_goals rfl) | (simp only [smF, dg, renL, renLs, simprocAttr, bl, i64, smT, smE]) | skip)); rw [happ, ← qc_app]; exact ⟨trivial, trivial, rfl⟩)
    · obtain rfl : m = N := by omega
      have hlq := cQ_len (etaC n xs m) m
      by_cases h0 : m = 0
      · simp only [nV_of h0, nB_of h0]
        subst h0
        have hq : qc (cQ (etaC n xs 0) 0) = [] := rfl
        rw [hq] at kp
        (repeat (first|apply zO (by decide +kernel)|apply zP (by decide +kernel)|apply zA|apply zB|apply zF|apply zG|apply zH|apply zI|apply zJ|apply zK|apply zL (by decide)|apply zM|apply zN (by decide)|apply zD|apply zC|apply zE|((first|apply l_go rfl|apply c_dec); (case hs => (simp (disch := first|omega|exact kD rfl|exact kX rfl) only [smZ, tyA, simprocAttr, bl, i64, smT, smE]; exact rfl)); first|refine c_bt ?_|refine c_bf ?_|show lrun _ _ _ _ _ _ _ _ _)|(apply l_call rfl (by decide) rfl; (case hc => (simp (disch := first|omega|exact kD rfl|exact kX rfl) only [smZ, tyA, simprocAttr, bl, i64, smT, smE]; exact rfl)); (case hg => assumption))))
        ((first | apply g_ret | apply g_end); case hres => (simp only [resL, rOs, rO, Option.map_some]; simp (disch := first|omega|exact kD rfl|exact kX rfl) only [smZ, tyA, simprocAttr, bl, i64, smT, smE]; exact rfl))
        simp (disch := first|omega|exact kD rfl|exact kX rfl) only [smZ, tyA, simprocAttr, bl, i64, smT, smE]
      · simp only [nV_ne h0, nB_ne h0]
        (repeat (first|apply zO (by decide +kernel)|apply zP (by decide +kernel)|apply zA|apply zB|apply zF|apply zG|apply zH|apply zI|apply zJ|apply zK|apply zL (by decide)|apply zM|apply zN (by decide)|apply zD|apply zC|apply zE|((first|apply l_go rfl|apply c_dec); (case hs => (simp (disch := first|omega|exact kD rfl|exact kX rfl) only [smZ, tyA, simprocAttr, bl, i64, smT, smE]; exact rfl)); first|refine c_bt ?_|refine c_bf ?_|show lrun _ _ _ _ _ _ _ _ _)|(apply l_call rfl (by decide) rfl; (case hc => (simp (disch := first|omega|exact kD rfl|exact kX rfl) only [smZ, tyA, simprocAttr, bl, i64, smT, smE]; exact rfl)); (case hg => assumption))))
        ((first | apply g_ret | apply g_end); case hres => (simp only [resL, rOs, rO, Option.map_some]; simp (disch := first|omega|exact kD rfl|exact kX rfl) only [smZ, tyA, simprocAttr, bl, i64, smT, smE]; exact rfl))
        simp (disch := first|omega|exact kD rfl|exact kX rfl) only [smZ, tyA, simprocAttr, bl, i64, smT, smE]
end Go.Proofs.YtbajpjjbaffnnaaGreat
