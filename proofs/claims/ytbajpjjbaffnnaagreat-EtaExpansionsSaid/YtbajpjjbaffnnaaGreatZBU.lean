/- Contracts of functions of the program, and what proves them (texts: X3 X4 X5). -/
import Derived.Test.YtbajpjjbaffnnaaGreatZBT
set_option linter.all false
namespace Go.Proofs.YtbajpjjbaffnnaaGreat
open Go Go.Lg Go.Num
set_option maxRecDepth 100000
set_option maxHeartbeats 8000000
attribute [local irreducible] Go.Lg.lrun Go.Lg.lwp Go.Lg.exThen Go.Lg.exBlk Go.Lg.keep Go.Lg.goodPost sg mg sS qs sv svM spM oc mC dc
theorem rsums_good {c : List Int} {a : Nat → Rat} (P : ProdOk c a) : PureGood Tryz.prog 133 [.sl c.length (qc (cQ c c.length))] (.sl c.length (qc (sQ c c.length))) := by
  obtain ⟨N, hN⟩ : ∃ N, c.length = N := ⟨_, rfl⟩
  have P1 := P.len
  have hl := cQ_len c N
  rw [hN] at P1 ⊢
  refine good_of_lwp mix Tryz.func133 rfl (by decide) (nt := 38) rfl (rs := [.tmp 2]) rfl (Nat.le_of_ble_eq_true rfl) ?_
  (repeat (first|apply zO (by decide +kernel)|apply zP (by decide +kernel)|apply zA|apply zB|apply zF|apply zG|apply zH|apply zI|apply zJ|apply zK|apply zL (by decide)|apply zM|apply zN (by decide)|apply zD|apply zC|apply zE|((first|apply l_go rfl|apply c_dec); (case hs => (simp (disch := first|omega|exact kD rfl|exact kX rfl) only [smZ, tyA, simprocAttr, bl, i64, smT]; exact rfl)); first|refine c_bt ?_|refine c_bf ?_|show lrun _ _ _ _ _ _ _ _ _)|(apply l_call rfl (by decide) rfl; (case hc => (simp (disch := first|omega|exact kD rfl|exact kX rfl) only [smZ, tyA, simprocAttr, bl, i64, smT]; exact rfl)); (case hg => assumption))))
  refine w_loop (α := {m : Nat // m ≤ N}) (fun m => st 38 (lk [(0, .sl N (qc (cQ c N))), (2, nilL), (3, nV 0 m.1), (4, i64 (m.1 + 1 : Nat))]) (lkH (nB 0 m.1 (qc (sQ c m.1)))) 1) (fun m => N - m.1) ⟨0, by omega⟩ ?_ ?_
  · simp only [nV_zero, nB_zero]
    (refine Sub.plain ?_; simp only [smF, dg, renL, renLs, simprocAttr, bl, i64, smT])
    all_goals (first | done | simp)
  · rintro ⟨m, hm⟩
    simp only [st]
    by_cases hmN : m < N
    · by_cases h0 : m = 0
      · simp only [nV_of h0, nB_of h0]
        have r0 : PureGood Tryz.prog 22 [i64 0] (encQ ((sv (fun j => j + 1) (dc c) 0 (m + 1) : Int) : Rat)) := by rw [sv_zero]; exact baseQ_good 0 (by omega)
        have hlq := sQ_len c (m)
        simp only [encQ_sm, i64] at r0
        (repeat (first|apply zO (by decide +kernel)|apply zP (by decide +kernel)|apply zA|apply zB|apply zF|apply zG|apply zH|apply zI|apply zJ|apply zK|apply zL (by decide)|apply zM|apply zN (by decide)|apply zD|apply zC|apply zE|((first|apply l_go rfl|apply c_dec); (case hs => (simp (disch := first|omega|exact kD rfl|exact kX rfl) only [smZ, tyA, simprocAttr, bl, i64, smT]; exact rfl)); first|refine c_bt ?_|refine c_bf ?_|show lrun _ _ _ _ _ _ _ _ _)|(apply l_call rfl (by decide) rfl; (case hc => (simp (disch := first|omega|exact kD rfl|exact kX rfl) only [smZ, tyA, simprocAttr, bl, i64, smT]; exact rfl)); (case hg => assumption))))
        refine w_loop (α := {j : Nat // j ≤ m + 1}) (fun j => st 38 (lk [(0, .sl N (qc (cQ c N))), (2, nilL), (3, nilL), (4, i64 (m + 1 : Nat)), (5, .ptr 0 0), (6, i64 (j.1 + 1 : Nat))]) (lkH [(0, ⟨46, [sg (((sv (fun j => j + 1) (dc c) j.1 (m + 1) : Int) : Rat)).num, mg (((sv (fun j => j + 1) (dc c) j.1 (m + 1) : Int) : Rat)).num, sg ((((sv (fun j => j + 1) (dc c) j.1 (m + 1) : Int) : Rat)).den : Int), mg ((((sv (fun j => j + 1) (dc c) j.1 (m + 1) : Int) : Rat)).den : Int)], false⟩)]) (0 + 1)) (fun j => m + 1 - j.1) ⟨0, by omega⟩ ?_ ?_
        · (refine Sub.heapL [6] rfl (by decide) ?_ (by simp only [List.forall_mem_cons, List.not_mem_nil, false_imp_iff, implies_true, and_true]; decide) ?_ ?_; all_goals (first | (simp only [plainC, smF, dg, renL, renLs, simprocAttr, bl, i64, smT]; done) | (simp only [smF, dg, renL, renLs, simprocAttr, bl, i64, smT]; (repeat' apply And.intro); all_goals rfl) | (simp only [smF, dg, renL, renLs, simprocAttr, bl, i64, smT]) | skip))
          all_goals (first | done | simp)
        · rintro ⟨j, hj⟩
          simp only [st]
          by_cases hjn : j < m + 1
          · have b1 := P.svb (k := j) (by omega) (m + 1)
            by_cases hdv : (m + 1) % (j + 1) = 0
            · have es : sv (fun j => j + 1) (dc c) (j + 1) (m + 1) = sv (fun j => j + 1) (dc c) j (m + 1) + dc c j := by rw [sv_succ, if_pos hdv]
              have e0 : (((j + 1 : Nat) : Int) - 1).toNat = j := by omega
              have e1 : (cQ c N).getD j 0 = ((c.getD j 0 : Int) : Rat) := cQ_get (by omega)
              have c1 := P.cj j
              have c2 := P.dcb (j := j) (by omega)
              have hdc : ((((j + 1 : Nat) : Int)) : Rat) * ((c.getD j 0 : Int) : Rat) = ((dc c j : Int) : Rat) := by
                rw [← Rat.intCast_mul, dc]
              have b2 := lq_i64 (z := ((j + 1 : Nat) : Int)) (by omega)
              have b3 := lq_i64 (z := c.getD j 0) (by omega)
              have b4 := lq_i64 (z := dc c j) (by omega)
              have b5 := lq_i64 (z := sv (fun j => j + 1) (dc c) j (m + 1)) (by omega)
              have r1 := baseQ_good ((j + 1 : Nat) : Int) (by omega)
              have r2 := rqmul_good ((((j + 1 : Nat) : Int)) : Rat) ((c.getD j 0 : Int) : Rat) (by omega) (by omega)
              rw [hdc] at r2
              clear hdc
              have r3 := rqadd_good ((sv (fun j => j + 1) (dc c) j (m + 1) : Int) : Rat) ((dc c j : Int) : Rat) (by omega) (by omega)
              rw [← Rat.intCast_add, ← es] at r3
              generalize ((dc c j : Int) : Rat) = x at *
              generalize c.getD j 0 = cj at *
              simp only [encQ_sm, i64] at r1 r2 r3
              (repeat (first|apply zO (by decide +kernel)|apply zP (by decide +kernel)|apply zA|apply zB|apply zF|apply zG|apply zH|apply zI|apply zJ|apply zK|apply zL (by decide)|apply zM|apply zN (by decide)|apply zD|apply zC|apply zE|((first|apply l_go rfl|apply c_dec); (case hs => (simp (disch := first|omega|exact kD rfl|exact kX rfl) only [smZ, tyA, simprocAttr, bl, i64, smT, e0, e1]; exact rfl)); first|refine c_bt ?_|refine c_bf ?_|show lrun _ _ _ _ _ _ _ _ _)|(apply l_call rfl (by decide) rfl; (case hc => (simp (disch := first|omega|exact kD rfl|exact kX rfl) only [smZ, tyA, simprocAttr, bl, i64, smT, e0, e1]; exact rfl)); (case hg => assumption))))
              refine ⟨⟨j + 1, by omega⟩, ?_, by simp only; omega⟩
              (refine Sub.heapL [0] rfl (by decide) ?_ (by simp only [List.forall_mem_cons, List.not_mem_nil, false_imp_iff, implies_true, and_true]; decide) ?_ ?_; all_goals (first | (simp only [plainC, smF, dg, renL, renLs, simprocAttr, bl, i64, smT]; done) | (simp only [smF, dg, renL, renLs, simprocAttr, bl, i64, smT]; (repeat' apply And.intro); all_goals rfl) | (simp only [smF, dg, renL, renLs, simprocAttr, bl, i64, smT]) | skip))
              all_goals (first | done | simp)
            · have es : sv (fun j => j + 1) (dc c) (j + 1) (m + 1) = sv (fun j => j + 1) (dc c) j (m + 1) := by rw [sv_succ, if_neg hdv, Int.add_zero]
              (repeat (first|apply zO (by decide +kernel)|apply zP (by decide +kernel)|apply zA|apply zB|apply zF|apply zG|apply zH|apply zI|apply zJ|apply zK|apply zL (by decide)|apply zM|apply zN (by decide)|apply zD|apply zC|apply zE|((first|apply l_go rfl|apply c_dec); (case hs => (simp (disch := first|omega|exact kD rfl|exact kX rfl) only [smZ, tyA, simprocAttr, bl, i64, smT]; exact rfl)); first|refine c_bt ?_|refine c_bf ?_|show lrun _ _ _ _ _ _ _ _ _)|(apply l_call rfl (by decide) rfl; (case hc => (simp (disch := first|omega|exact kD rfl|exact kX rfl) only [smZ, tyA, simprocAttr, bl, i64, smT]; exact rfl)); (case hg => assumption))))
              refine ⟨⟨j + 1, by omega⟩, ?_, by simp only; omega⟩
              (refine Sub.heapL [0] rfl (by decide) ?_ (by simp only [List.forall_mem_cons, List.not_mem_nil, false_imp_iff, implies_true, and_true]; decide) ?_ ?_; all_goals (first | (simp only [plainC, smF, dg, renL, renLs, simprocAttr, bl, i64, smT]; done) | (simp only [smF, dg, renL, renLs, simprocAttr, bl, i64, smT]; (repeat' apply And.intro); all_goals rfl) | (simp only [smF, dg, renL, renLs, simprocAttr, bl, i64, smT]) | skip))
              all_goals (first | done | simp [es])
          · obtain rfl : j = m + 1 := by omega
            have hsS : sS c (m + 1) = sv (fun j => j + 1) (dc c) (m + 1) (m + 1) := by
              unfold sS
              exact sv_ge (by omega) (by omega)
            have happ := sQ_succ c (m)
            rw [hsS] at happ
            generalize ((sv (fun j => j + 1) (dc c) (m + 1) (m + 1) : Int) : Rat) = x at *
            (repeat (first|apply zO (by decide +kernel)|apply zP (by decide +kernel)|apply zA|apply zB|apply zF|apply zG|apply zH|apply zI|apply zJ|apply zK|apply zL (by decide)|apply zM|apply zN (by decide)|apply zD|apply zC|apply zE|((first|apply l_go rfl|apply c_dec); (case hs => (simp (disch := first|omega|exact kD rfl|exact kX rfl) only [smZ, tyA, simprocAttr, bl, i64, smT]; exact rfl)); first|refine c_bt ?_|refine c_bf ?_|show lrun _ _ _ _ _ _ _ _ _)|(apply l_call rfl (by decide) rfl; (case hc => (simp (disch := first|omega|exact kD rfl|exact kX rfl) only [smZ, tyA, simprocAttr, bl, i64, smT]; exact rfl)); (case hg => assumption))))
            refine ⟨⟨m + 1, by omega⟩, ?_, by simp only; omega⟩
            (subst h0; simp only [nV_succ, nB_succ]; (refine Sub.heapL [7] rfl (by decide) ?_ (by simp only [List.forall_mem_cons, List.not_mem_nil, false_imp_iff, implies_true, and_true]; decide) ?_ ?_; all_goals (first | (simp only [plainC, smF, dg, renL, renLs, simprocAttr, bl, i64, smT]; done) | (simp only [smF, dg, renL, renLs, simprocAttr, bl, i64, smT]; (repeat' apply And.intro); all_goals rfl) | (simp only [smF, dg, renL, renLs, simprocAttr, bl, i64, smT]) | skip)); have e : sQ c 1 = [x] := happ; rw [e, ← qc_one])
      · simp only [nV_ne h0, nB_ne h0]
        have r0 : PureGood Tryz.prog 22 [i64 0] (encQ ((sv (fun j => j + 1) (dc c) 0 (m + 1) : Int) : Rat)) := by rw [sv_zero]; exact baseQ_good 0 (by omega)
        have hlq := sQ_len c (m)
        simp only [encQ_sm, i64] at r0
        (repeat (first|apply zO (by decide +kernel)|apply zP (by decide +kernel)|apply zA|apply zB|apply zF|apply zG|apply zH|apply zI|apply zJ|apply zK|apply zL (by decide)|apply zM|apply zN (by decide)|apply zD|apply zC|apply zE|((first|apply l_go rfl|apply c_dec); (case hs => (simp (disch := first|omega|exact kD rfl|exact kX rfl) only [smZ, tyA, simprocAttr, bl, i64, smT]; exact rfl)); first|refine c_bt ?_|refine c_bf ?_|show lrun _ _ _ _ _ _ _ _ _)|(apply l_call rfl (by decide) rfl; (case hc => (simp (disch := first|omega|exact kD rfl|exact kX rfl) only [smZ, tyA, simprocAttr, bl, i64, smT]; exact rfl)); (case hg => assumption))))
        refine w_loop (α := {j : Nat // j ≤ m + 1}) (fun j => st 38 (lk [(0, .sl N (qc (cQ c N))), (2, nilL), (3, .own 0 0 m 4), (4, i64 (m + 1 : Nat)), (5, .ptr 1 0), (6, i64 (j.1 + 1 : Nat))]) (lkH [(0, ⟨46, qc (sQ c m), false⟩),(1, ⟨46, [sg (((sv (fun j => j + 1) (dc c) j.1 (m + 1) : Int) : Rat)).num, mg (((sv (fun j => j + 1) (dc c) j.1 (m + 1) : Int) : Rat)).num, sg ((((sv (fun j => j + 1) (dc c) j.1 (m + 1) : Int) : Rat)).den : Int), mg ((((sv (fun j => j + 1) (dc c) j.1 (m + 1) : Int) : Rat)).den : Int)], false⟩)]) (1 + 1)) (fun j => m + 1 - j.1) ⟨0, by omega⟩ ?_ ?_
        · (refine Sub.heapL [0,6] rfl (by decide) ?_ (by simp only [List.forall_mem_cons, List.not_mem_nil, false_imp_iff, implies_true, and_true]; decide) ?_ ?_; all_goals (first | (simp only [plainC, smF, dg, renL, renLs, simprocAttr, bl, i64, smT]; done) | (simp only [smF, dg, renL, renLs, simprocAttr, bl, i64, smT]; (repeat' apply And.intro); all_goals rfl) | (simp only [smF, dg, renL, renLs, simprocAttr, bl, i64, smT]) | skip))
          all_goals (first | done | simp)
        · rintro ⟨j, hj⟩
          simp only [st]
          by_cases hjn : j < m + 1
          · have b1 := P.svb (k := j) (by omega) (m + 1)
            by_cases hdv : (m + 1) % (j + 1) = 0
            · have es : sv (fun j => j + 1) (dc c) (j + 1) (m + 1) = sv (fun j => j + 1) (dc c) j (m + 1) + dc c j := by rw [sv_succ, if_pos hdv]
              have e0 : (((j + 1 : Nat) : Int) - 1).toNat = j := by omega
              have e1 : (cQ c N).getD j 0 = ((c.getD j 0 : Int) : Rat) := cQ_get (by omega)
              have c1 := P.cj j
              have c2 := P.dcb (j := j) (by omega)
              have hdc : ((((j + 1 : Nat) : Int)) : Rat) * ((c.getD j 0 : Int) : Rat) = ((dc c j : Int) : Rat) := by
                rw [← Rat.intCast_mul, dc]
              have b2 := lq_i64 (z := ((j + 1 : Nat) : Int)) (by omega)
              have b3 := lq_i64 (z := c.getD j 0) (by omega)
              have b4 := lq_i64 (z := dc c j) (by omega)
              have b5 := lq_i64 (z := sv (fun j => j + 1) (dc c) j (m + 1)) (by omega)
              have r1 := baseQ_good ((j + 1 : Nat) : Int) (by omega)
              have r2 := rqmul_good ((((j + 1 : Nat) : Int)) : Rat) ((c.getD j 0 : Int) : Rat) (by omega) (by omega)
              rw [hdc] at r2
              clear hdc
              have r3 := rqadd_good ((sv (fun j => j + 1) (dc c) j (m + 1) : Int) : Rat) ((dc c j : Int) : Rat) (by omega) (by omega)
              rw [← Rat.intCast_add, ← es] at r3
              generalize ((dc c j : Int) : Rat) = x at *
              generalize c.getD j 0 = cj at *
              simp only [encQ_sm, i64] at r1 r2 r3
              (repeat (first|apply zO (by decide +kernel)|apply zP (by decide +kernel)|apply zA|apply zB|apply zF|apply zG|apply zH|apply zI|apply zJ|apply zK|apply zL (by decide)|apply zM|apply zN (by decide)|apply zD|apply zC|apply zE|((first|apply l_go rfl|apply c_dec); (case hs => (simp (disch := first|omega|exact kD rfl|exact kX rfl) only [smZ, tyA, simprocAttr, bl, i64, smT, e0, e1]; exact rfl)); first|refine c_bt ?_|refine c_bf ?_|show lrun _ _ _ _ _ _ _ _ _)|(apply l_call rfl (by decide) rfl; (case hc => (simp (disch := first|omega|exact kD rfl|exact kX rfl) only [smZ, tyA, simprocAttr, bl, i64, smT, e0, e1]; exact rfl)); (case hg => assumption))))
              refine ⟨⟨j + 1, by omega⟩, ?_, by simp only; omega⟩
              (refine Sub.heapL [0,1] rfl (by decide) ?_ (by simp only [List.forall_mem_cons, List.not_mem_nil, false_imp_iff, implies_true, and_true]; decide) ?_ ?_; all_goals (first | (simp only [plainC, smF, dg, renL, renLs, simprocAttr, bl, i64, smT]; done) | (simp only [smF, dg, renL, renLs, simprocAttr, bl, i64, smT]; (repeat' apply And.intro); all_goals rfl) | (simp only [smF, dg, renL, renLs, simprocAttr, bl, i64, smT]) | skip))
              all_goals (first | done | simp)
            · have es : sv (fun j => j + 1) (dc c) (j + 1) (m + 1) = sv (fun j => j + 1) (dc c) j (m + 1) := by rw [sv_succ, if_neg hdv, Int.add_zero]
              (repeat (first|apply zO (by decide +kernel)|apply zP (by decide +kernel)|apply zA|apply zB|apply zF|apply zG|apply zH|apply zI|apply zJ|apply zK|apply zL (by decide)|apply zM|apply zN (by decide)|apply zD|apply zC|apply zE|((first|apply l_go rfl|apply c_dec); (case hs => (simp (disch := first|omega|exact kD rfl|exact kX rfl) only [smZ, tyA, simprocAttr, bl, i64, smT]; exact rfl)); first|refine c_bt ?_|refine c_bf ?_|show lrun _ _ _ _ _ _ _ _ _)|(apply l_call rfl (by decide) rfl; (case hc => (simp (disch := first|omega|exact kD rfl|exact kX rfl) only [smZ, tyA, simprocAttr, bl, i64, smT]; exact rfl)); (case hg => assumption))))
              refine ⟨⟨j + 1, by omega⟩, ?_, by simp only; omega⟩
              (refine Sub.heapL [0,1] rfl (by decide) ?_ (by simp only [List.forall_mem_cons, List.not_mem_nil, false_imp_iff, implies_true, and_true]; decide) ?_ ?_; all_goals (first | (simp only [plainC, smF, dg, renL, renLs, simprocAttr, bl, i64, smT]; done) | (simp only [smF, dg, renL, renLs, simprocAttr, bl, i64, smT]; (repeat' apply And.intro); all_goals rfl) | (simp only [smF, dg, renL, renLs, simprocAttr, bl, i64, smT]) | skip))
              all_goals (first | done | simp [es])
          · obtain rfl : j = m + 1 := by omega
            have hsS : sS c (m + 1) = sv (fun j => j + 1) (dc c) (m + 1) (m + 1) := by
              unfold sS
              exact sv_ge (by omega) (by omega)
            have happ := sQ_succ c (m)
            rw [hsS] at happ
            generalize ((sv (fun j => j + 1) (dc c) (m + 1) (m + 1) : Int) : Rat) = x at *
            (repeat (first|apply zO (by decide +kernel)|apply zP (by decide +kernel)|apply zA|apply zB|apply zF|apply zG|apply zH|apply zI|apply zJ|apply zK|apply zL (by decide)|apply zM|apply zN (by decide)|apply zD|apply zC|apply zE|((first|apply l_go rfl|apply c_dec); (case hs => (simp (disch := first|omega|exact kD rfl|exact kX rfl) only [smZ, tyA, simprocAttr, bl, i64, smT]; exact rfl)); first|refine c_bt ?_|refine c_bf ?_|show lrun _ _ _ _ _ _ _ _ _)|(apply l_call rfl (by decide) rfl; (case hc => (simp (disch := first|omega|exact kD rfl|exact kX rfl) only [smZ, tyA, simprocAttr, bl, i64, smT]; exact rfl)); (case hg => assumption))))
            refine ⟨⟨m + 1, by omega⟩, ?_, by simp only; omega⟩
            (simp only [nV_succ, nB_succ]; (refine Sub.heapL [8] rfl (by decide) ?_ (by simp only [List.forall_mem_cons, List.not_mem_nil, false_imp_iff, implies_true, and_true]; decide) ?_ ?_; all_goals (first | (simp only [plainC, smF, dg, renL, renLs, simprocAttr, bl, i64, smT]; done) | (simp only [smF, dg, renL, renLs, simprocAttr, bl, i64, smT]; (repeat' apply And.intro); all_goals rfl) | (simp only [smF, dg, renL, renLs, simprocAttr, bl, i64, smT]) | skip)); rw [happ, ← qc_app])
    · obtain rfl : m = N := by omega
      rcases m with _ | m
      · simp only [nV_zero, nB_zero]
        (repeat (first|apply zO (by decide +kernel)|apply zP (by decide +kernel)|apply zA|apply zB|apply zF|apply zG|apply zH|apply zI|apply zJ|apply zK|apply zL (by decide)|apply zM|apply zN (by decide)|apply zD|apply zC|apply zE|((first|apply l_go rfl|apply c_dec); (case hs => (simp (disch := first|omega|exact kD rfl|exact kX rfl) only [smZ, tyA, simprocAttr, bl, i64, smT]; exact rfl)); first|refine c_bt ?_|refine c_bf ?_|show lrun _ _ _ _ _ _ _ _ _)|(apply l_call rfl (by decide) rfl; (case hc => (simp (disch := first|omega|exact kD rfl|exact kX rfl) only [smZ, tyA, simprocAttr, bl, i64, smT]; exact rfl)); (case hg => assumption))))
        ((first | apply g_ret | apply g_end); case hres => (simp only [resL, rOs, rO, Option.map_some]; simp (disch := first|omega|exact kD rfl|exact kX rfl) only [smZ, tyA, simprocAttr, bl, i64, smT]; exact rfl))
        simp (disch := first|omega|exact kD rfl|exact kX rfl) only [smZ, tyA, simprocAttr, bl, i64, smT]
        rfl
      · simp only [nV_succ, nB_succ]
        have hlq := sQ_len c (m + 1)
        (repeat (first|apply zO (by decide +kernel)|apply zP (by decide +kernel)|apply zA|apply zB|apply zF|apply zG|apply zH|apply zI|apply zJ|apply zK|apply zL (by decide)|apply zM|apply zN (by decide)|apply zD|apply zC|apply zE|((first|apply l_go rfl|apply c_dec); (case hs => (simp (disch := first|omega|exact kD rfl|exact kX rfl) only [smZ, tyA, simprocAttr, bl, i64, smT]; exact rfl)); first|refine c_bt ?_|refine c_bf ?_|show lrun _ _ _ _ _ _ _ _ _)|(apply l_call rfl (by decide) rfl; (case hc => (simp (disch := first|omega|exact kD rfl|exact kX rfl) only [smZ, tyA, simprocAttr, bl, i64, smT]; exact rfl)); (case hg => assumption))))
        ((first | apply g_ret | apply g_end); case hres => (simp only [resL, rOs, rO, Option.map_some]; simp (disch := first|omega|exact kD rfl|exact kX rfl) only [smZ, tyA, simprocAttr, bl, i64, smT]; exact rfl))
        simp (disch := first|omega|exact kD rfl|exact kX rfl) only [smZ, tyA, simprocAttr, bl, i64, smT]
end Go.Proofs.YtbajpjjbaffnnaaGreat

namespace Go.Proofs.YtbajpjjbaffnnaaGreat
open Go Go.Lg Go.Num
set_option maxRecDepth 100000
set_option maxHeartbeats 8000000
attribute [local irreducible] Go.Lg.lrun Go.Lg.lwp Go.Lg.exThen Go.Lg.exBlk Go.Lg.keep Go.Lg.goodPost sg mg sS qs sv svM spM oc mC dc
theorem rzero_good (q : Rat) (hq : lq q ≤ 1000) (h : q.num ≠ 0) : PureGood Tryz.prog 113 [encQ q] (bl false) := by
  have r1 := rqnorm_good q (by omega)
  have hl : (digs q.num.natAbs).length ≠ 0 := by
    intro e
    have h2 := digs_eq_nil.1 (List.eq_nil_of_length_eq_zero e)
    omega
  have hl2 : (digs q.num.natAbs).length ≤ 1000 := by unfold lq len at hq; omega
  simp only [encQ_sm] at *
  refine good_of_lwp mix Tryz.func113 rfl (by decide) (nt := 9) rfl (rs := [.tmp 2]) rfl (Nat.le_of_ble_eq_true rfl) ?_
  (repeat (first|apply zO (by decide +kernel)|apply zP (by decide +kernel)|apply zA|apply zB|apply zF|apply zG|apply zH|apply zI|apply zJ|apply zK|apply zL (by decide)|apply zM|apply zN (by decide)|apply zD|apply zC|apply zE|((first|apply l_go rfl|apply c_dec); (case hs => (simp (disch := first|omega|exact kD rfl|exact kX rfl) only [smZ, tyA, simprocAttr, bl, i64, smT, lenL_mg]; exact rfl)); first|refine c_bt ?_|refine c_bf ?_|show lrun _ _ _ _ _ _ _ _ _)|(apply l_call rfl (by decide) rfl; (case hc => (simp (disch := first|omega|exact kD rfl|exact kX rfl) only [smZ, tyA, simprocAttr, bl, i64, smT, lenL_mg]; exact rfl)); (case hg => assumption))))
  ((first | apply g_ret | apply g_end); case hres => (simp only [resL, rOs, rO, Option.map_some]; simp (disch := first|omega|exact kD rfl|exact kX rfl) only [smZ, tyA, simprocAttr, bl, i64, smT, lenL_mg]; exact rfl))
  simp (disch := first|omega|exact kD rfl|exact kX rfl) only [smZ, tyA, simprocAttr, bl, i64, smT, lenL_mg]
theorem rResult_good (h : Int) (a : Nat → Rat) (N : Nat) (h1 : -100 ≤ h) (hN : 1 ≤ N) (h2 : h + N ≤ 1000) (a0 : a 0 = 1) (ba : ∀ i, i < N → lq (a i) ≤ 1000) : PureGood Tryz.prog 134 [i64 h, .sl N (qc (aP a N))] (.tup [.agg [i64 h, .sl N (qc (aP a N))], i64 0]) := by
  have e0 : (aP a N).getD 0 0 = a 0 := aP_get (by omega)
  have hl := aP_len a N
  have b0 := ba 0 (by omega)
  have g1 := rzero_good (a 0) (by omega) (by rw [a0]; decide)
  clear a0
  simp only [encQ_sm, i64, bl] at g1 ⊢
  refine good_of_lwp mix Tryz.func134 rfl (by decide) (nt := 68) rfl (rs := [.cell 4 31, .tmp 5]) rfl (Nat.le_of_ble_eq_true rfl) ?_
  (repeat (first|apply zO (by decide +kernel)|apply zP (by decide +kernel)|apply zA|apply zB|apply zF|apply zG|apply zH|apply zI|apply zJ|apply zK|apply zL (by decide)|apply zM|apply zN (by decide)|apply zD|apply zC|apply zE|((first|apply l_go rfl|apply c_dec); (case hs => (simp (disch := first|omega|exact kD rfl|exact kX rfl) only [smZ, tyA, simprocAttr, bl, i64, smT, e0, Int.sub_zero, Int.add_zero]; exact rfl)); first|refine c_bt ?_|refine c_bf ?_|show lrun _ _ _ _ _ _ _ _ _)|(apply l_call rfl (by decide) rfl; (case hc => (simp (disch := first|omega|exact kD rfl|exact kX rfl) only [smZ, tyA, simprocAttr, bl, i64, smT, e0, Int.sub_zero, Int.add_zero]; exact rfl)); (case hg => assumption))))
  refine w_loop (α := Unit) (fun _ => st 68 (lk [(0, i64 h), (1, .sl N (qc (aP a N))), (4, .ptr 0 0), (6, i64 (h + N)), (7, i64 0)]) (lkH [(0, ⟨31, [i64 0, nilL], false⟩)]) 1) (fun _ => 0) () ?_ ?_
  · (refine Sub.heap1 0 ?_ (by simp only [smF, dg, renL, renLs, simprocAttr, bl, i64, smT, e0, Int.sub_zero, Int.add_zero]; exact rfl) ?_ ?_; all_goals (first | exact dgs_plain _ | with_reducible rfl | (simp only [smF, dg, renL, renLs, simprocAttr, bl, i64, smT, e0, Int.sub_zero, Int.add_zero]; done) | (simp only [smF, dg, renL, renLs, simprocAttr, bl, i64, smT, e0, Int.sub_zero, Int.add_zero]) | skip))
    all_goals (first | exact ⟨rfl, rfl⟩ | simp)
  · rintro ⟨⟩
    simp only [st]
    (repeat (first|apply zO (by decide +kernel)|apply zP (by decide +kernel)|apply zA|apply zB|apply zF|apply zG|apply zH|apply zI|apply zJ|apply zK|apply zL (by decide)|apply zM|apply zN (by decide)|apply zD|apply zC|apply zE|((first|apply l_go rfl|apply c_dec); (case hs => (simp (disch := first|omega|exact kD rfl|exact kX rfl) only [smZ, tyA, simprocAttr, bl, i64, smT, e0, Int.sub_zero, Int.add_zero]; exact rfl)); first|refine c_bt ?_|refine c_bf ?_|show lrun _ _ _ _ _ _ _ _ _)|(apply l_call rfl (by decide) rfl; (case hc => (simp (disch := first|omega|exact kD rfl|exact kX rfl) only [smZ, tyA, simprocAttr, bl, i64, smT, e0, Int.sub_zero, Int.add_zero]; exact rfl)); (case hg => assumption))))
    refine w_loop (α := {i : Nat // i ≤ N}) (fun i => st 68 (lk [(1, .sl N (qc (aP a N))), (4, .ptr 0 0), (8, .ptr 1 0), (9, i64 i.1)]) (lkH ((0, ⟨31, [i64 0, nilL], false⟩) :: (1, ⟨31, [i64 h, nV 2 i.1], false⟩) :: nB 2 i.1 (qc (aP a i.1)))) 3) (fun i => N - i.1) ⟨0, by omega⟩ ?_ ?_
    · simp only [nV_zero, nB_zero]
      (refine Sub.heapR [0,24,25] rfl (by decide) ?_ (by simp only [List.forall_mem_cons, List.not_mem_nil, false_imp_iff, implies_true, and_true]; decide) ?_; all_goals (first | (simp only [smF, dg, renL, renLs, simprocAttr, bl, i64, smT]; done) | (simp only [smF, dg, renL, renLs, simprocAttr, bl, i64, smT, Option.some.injEq, Blk.mk.injEq, true_and, and_true]; first | done | (repeat' (first | apply And.intro | (refine ⟨_, rfl, ?_⟩; simp only [smF, dg, renL, renLs, simprocAttr, bl, i64, smT]; first | done | rfl)))) | skip))
    · rintro ⟨i, hi⟩
      simp only [st]
      by_cases hlt : i < N
      · by_cases hi0 : i = 0
        · simp only [nV_of hi0, nB_of hi0]
          have e1 : (aP a N).getD (i) 0 = a (i) := aP_get hlt
          have hl2 := aP_len a (i)
          have b1 := ba (i) hlt
          have g2 := rqnorm_good (a (i)) (by omega)
          have happ := aP_succ a (i)
          generalize hai : a (i) = ai at *
          simp only [encQ_sm] at g2
          (repeat (first|apply zO (by decide +kernel)|apply zP (by decide +kernel)|apply zA|apply zB|apply zF|apply zG|apply zH|apply zI|apply zJ|apply zK|apply zL (by decide)|apply zM|apply zN (by decide)|apply zD|apply zC|apply zE|((first|apply l_go rfl|apply c_dec); (case hs => (simp (disch := first|omega|exact kD rfl|exact kX rfl) only [smZ, tyA, simprocAttr, bl, i64, smT, e1]; exact rfl)); first|refine c_bt ?_|refine c_bf ?_|show lrun _ _ _ _ _ _ _ _ _)|(apply l_call rfl (by decide) rfl; (case hc => (simp (disch := first|omega|exact kD rfl|exact kX rfl) only [smZ, tyA, simprocAttr, bl, i64, smT, e1]; exact rfl)); (case hg => assumption))))
          refine ⟨⟨i + 1, by omega⟩, ?_, by simp only; omega⟩
          (subst hi0; simp only [nV_succ, nB_succ]; (refine Sub.heapR [0,1,15] rfl (by decide) ?_ (by simp only [List.forall_mem_cons, List.not_mem_nil, false_imp_iff, implies_true, and_true]; decide) ?_; all_goals (first | (simp only [smF, dg, renL, renLs, simprocAttr, bl, i64, smT]; done) | (simp only [smF, dg, renL, renLs, simprocAttr, bl, i64, smT, Option.some.injEq, Blk.mk.injEq, true_and, and_true]; first | done | (repeat' (first | apply And.intro | (refine ⟨_, rfl, ?_⟩; simp only [smF, dg, renL, renLs, simprocAttr, bl, i64, smT]; first | done | rfl)))) | skip)); have e : aP a 1 = [ai] := happ; rw [e, ← qc_one]; exact ⟨_, rfl, rfl⟩)
        · simp only [nV_ne hi0, nB_ne hi0]
          have e1 : (aP a N).getD (i) 0 = a (i) := aP_get hlt
          have hl2 := aP_len a (i)
          have b1 := ba (i) hlt
          have g2 := rqnorm_good (a (i)) (by omega)
          have happ := aP_succ a (i)
          generalize hai : a (i) = ai at *
          simp only [encQ_sm] at g2
          (repeat (first|apply zO (by decide +kernel)|apply zP (by decide +kernel)|apply zA|apply zB|apply zF|apply zG|apply zH|apply zI|apply zJ|apply zK|apply zL (by decide)|apply zM|apply zN (by decide)|apply zD|apply zC|apply zE|((first|apply l_go rfl|apply c_dec); (case hs => (simp (disch := first|omega|exact kD rfl|exact kX rfl) only [smZ, tyA, simprocAttr, bl, i64, smT, e1]; exact rfl)); first|refine c_bt ?_|refine c_bf ?_|show lrun _ _ _ _ _ _ _ _ _)|(apply l_call rfl (by decide) rfl; (case hc => (simp (disch := first|omega|exact kD rfl|exact kX rfl) only [smZ, tyA, simprocAttr, bl, i64, smT, e1]; exact rfl)); (case hg => assumption))))
          refine ⟨⟨i + 1, by omega⟩, ?_, by simp only; omega⟩
          (simp only [nV_succ, nB_succ]; (refine Sub.heapR [0,1,15] rfl (by decide) ?_ (by simp only [List.forall_mem_cons, List.not_mem_nil, false_imp_iff, implies_true, and_true]; decide) ?_; all_goals (first | (simp only [smF, dg, renL, renLs, simprocAttr, bl, i64, smT]; done) | (simp only [smF, dg, renL, renLs, simprocAttr, bl, i64, smT, Option.some.injEq, Blk.mk.injEq, true_and, and_true]; first | done | (repeat' (first | apply And.intro | (refine ⟨_, rfl, ?_⟩; simp only [smF, dg, renL, renLs, simprocAttr, bl, i64, smT]; first | done | rfl)))) | skip)); rw [happ, ← qc_app]; exact ⟨_, rfl, rfl⟩)
      · obtain rfl : i = N := by omega
        have hi0 : i ≠ 0 := by omega
        simp only [nV_ne hi0, nB_ne hi0]
        (repeat (first|apply zO (by decide +kernel)|apply zP (by decide +kernel)|apply zA|apply zB|apply zF|apply zG|apply zH|apply zI|apply zJ|apply zK|apply zL (by decide)|apply zM|apply zN (by decide)|apply zD|apply zC|apply zE|((first|apply l_go rfl|apply c_dec); (case hs => (simp (disch := first|omega|exact kD rfl|exact kX rfl) only [smZ, tyA, simprocAttr, bl, i64, smT]; exact rfl)); first|refine c_bt ?_|refine c_bf ?_|show lrun _ _ _ _ _ _ _ _ _)|(apply l_call rfl (by decide) rfl; (case hc => (simp (disch := first|omega|exact kD rfl|exact kX rfl) only [smZ, tyA, simprocAttr, bl, i64, smT]; exact rfl)); (case hg => assumption))))
        ((first | apply g_ret | apply g_end); case hres => (simp only [resL, rOs, rO, Option.map_some]; simp (disch := first|omega|exact kD rfl|exact kX rfl) only [smZ, tyA, simprocAttr, bl, i64, smT]; exact rfl))
        simp (disch := first|omega|exact kD rfl|exact kX rfl) only [smZ, tyA, simprocAttr, bl, i64, smT]
end Go.Proofs.YtbajpjjbaffnnaaGreat

namespace Go.Proofs.YtbajpjjbaffnnaaGreat
open Go Go.Lg Go.Num
set_option maxRecDepth 100000
set_option maxHeartbeats 8000000
attribute [local irreducible] Go.Lg.lrun Go.Lg.lwp Go.Lg.exThen Go.Lg.exBlk Go.Lg.keep Go.Lg.goodPost sg mg sS qs sv svM spM oc mC dc
theorem rprod_good {c : List Int} {a : Nat → Rat} (P : ProdOk c a) (h : Int) (h1 : -100 ≤ h) (h2 : h + c.length + 1 ≤ 1000) :
    PureGood Tryz.prog 69 [i64 h, .sl c.length (qc (cQ c c.length))] (.tup [.agg [i64 h, .sl (c.length + 1) (qc (aP a (c.length + 1)))], i64 0]) := by
  have ks := rsums_good P
  obtain ⟨N, hN⟩ : ∃ N, c.length = N := ⟨_, rfl⟩
  have P1 := P.len
  have hl := cQ_len c N
  have hls := sQ_len c N
  have k1 := baseQ_good 1 (by omega)
  rw [show ((1 : Int) : Rat) = a 0 by rw [P.a0]; rfl] at k1
  have kb := rResult_good h a (N + 1) h1 (by omega) (by omega) P.a0 (fun i hi => P.ba i (by omega))
  rw [hN] at h2 P1 ks ⊢
  simp only [encQ_sm, i64] at *
  refine good_of_lwp mix Tryz.func69 rfl (by decide) (nt := 68) rfl (rs := [.cell 4 31, .tmp 5]) rfl (Nat.le_of_ble_eq_true rfl) ?_
  (repeat (first|apply zO (by decide +kernel)|apply zP (by decide +kernel)|apply zA|apply zB|apply zF|apply zG|apply zH|apply zI|apply zJ|apply zK|apply zL (by decide)|apply zM|apply zN (by decide)|apply zD|apply zC|apply zE|((first|apply l_go rfl|apply c_dec); (case hs => (simp (disch := first|omega|exact kD rfl|exact kX rfl) only [smZ, tyA, simprocAttr, bl, i64, smT]; exact rfl)); first|refine c_bt ?_|refine c_bf ?_|show lrun _ _ _ _ _ _ _ _ _)|(apply l_call rfl (by decide) rfl; (case hc => (simp (disch := first|omega|exact kD rfl|exact kX rfl) only [smZ, tyA, simprocAttr, bl, i64, smT]; exact rfl)); (case hg => assumption))))
  refine w_loop (α := {m : Nat // 1 ≤ m ∧ m ≤ N + 1}) (fun m => st 68 (lk [(0, i64 h), (1, .sl N (qc (cQ c N))), (4, .ptr 0 0), (6, .sl N (qc (sQ c N))), (7, .own 1 0 m.1 4), (8, i64 m.1)]) (lkH [(0, ⟨31, [i64 0, nilL], false⟩), (1, ⟨46, qc (aP a m.1), false⟩)]) 2) (fun m => N + 1 - m.1) ⟨1, by omega, by omega⟩ ?_ ?_
  · (refine Sub.heapL [0,20] rfl (by decide) ?_ (by simp only [List.forall_mem_cons, List.not_mem_nil, false_imp_iff, implies_true, and_true]; decide) ?_ ?_; all_goals (first | (simp only [plainC, smF, dg, renL, renLs, simprocAttr, bl, i64, smT]; done) | (simp only [smF, dg, renL, renLs, simprocAttr, bl, i64, smT]; (repeat' apply And.intro); all_goals rfl) | (simp only [smF, dg, renL, renLs, simprocAttr, bl, i64, smT]) | skip))
    rw [show aP a 1 = [a 0] from rfl, ← qc_one]
    exact ⟨trivial, rfl⟩
  · rintro ⟨m, hm1, hm2⟩
    simp only [st]
    have hla := aP_len a m
    by_cases hmN : m ≤ N
    · have r0 : PureGood Tryz.prog 22 [i64 0] (encQ (qs (sS c) a m 0)) := by
        rw [qs_zero]
        exact baseQ_good 0 (by omega)
      simp only [encQ_sm, i64] at r0
      (repeat (first|apply zO (by decide +kernel)|apply zP (by decide +kernel)|apply zA|apply zB|apply zF|apply zG|apply zH|apply zI|apply zJ|apply zK|apply zL (by decide)|apply zM|apply zN (by decide)|apply zD|apply zC|apply zE|((first|apply l_go rfl|apply c_dec); (case hs => (simp (disch := first|omega|exact kD rfl|exact kX rfl) only [smZ, tyA, simprocAttr, bl, i64, smT]; exact rfl)); first|refine c_bt ?_|refine c_bf ?_|show lrun _ _ _ _ _ _ _ _ _)|(apply l_call rfl (by decide) rfl; (case hc => (simp (disch := first|omega|exact kD rfl|exact kX rfl) only [smZ, tyA, simprocAttr, bl, i64, smT]; exact rfl)); (case hg => assumption))))
      refine w_loop (α := {i : Nat // i ≤ m}) (fun i => st 68 (lk [(0, i64 h), (1, .sl N (qc (cQ c N))), (4, .ptr 0 0), (6, .sl N (qc (sQ c N))), (7, .own 1 0 m 4), (8, i64 m), (9, .ptr 2 0), (10, i64 ((i.1 : Int) + 1))]) (lkH [(0, ⟨31, [i64 0, nilL], false⟩), (1, ⟨46, qc (aP a m), false⟩), (2, ⟨46, [sg (qs (sS c) a m i.1).num, mg (qs (sS c) a m i.1).num, sg ((qs (sS c) a m i.1).den : Int), mg ((qs (sS c) a m i.1).den : Int)], false⟩)]) 3) (fun i => m - i.1) ⟨0, by omega⟩ ?_ ?_
      · (refine Sub.heapL [0,1,7] rfl (by decide) ?_ (by simp only [List.forall_mem_cons, List.not_mem_nil, false_imp_iff, implies_true, and_true]; decide) ?_ ?_; all_goals (first | (simp only [plainC, smF, dg, renL, renLs, simprocAttr, bl, i64, smT]; done) | (simp only [smF, dg, renL, renLs, simprocAttr, bl, i64, smT]; (repeat' apply And.intro); all_goals rfl) | (simp only [smF, dg, renL, renLs, simprocAttr, bl, i64, smT]) | skip))
        all_goals (first | done | simp)
      · rintro ⟨i, hi⟩
        simp only [st]
        by_cases him : i < m
        · have e0 : ((i : Int) + 1 - 1).toNat = i := by omega
          have e2 : (sQ c N).getD i 0 = ((sS c (i + 1) : Int) : Rat) := sQ_get (by omega)
          have e3 : ((m : Int) - ((i : Int) + 1)).toNat = m - 1 - i := by omega
          have e4 : (aP a m).getD (m - 1 - i) 0 = a (m - 1 - i) := aP_get (by omega)
          have b1 := P.bq m i hm1 (by omega) (by omega)
          have b2 := P.ba (m - 1 - i) (by omega)
          have b3 := P.svb (k := c.length) (Nat.le_refl _) (i + 1)
          have b4 := lq_i64 (z := sS c (i + 1)) (by unfold sS; omega)
          have b5 := lq_mul ((sS c (i + 1) : Int) : Rat) (a (m - 1 - i))
          have r2 := rqmul_good ((sS c (i + 1) : Int) : Rat) (a (m - 1 - i)) (by omega) (by omega)
          have r3 := rqadd_good (qs (sS c) a m i) (((sS c (i + 1) : Int) : Rat) * a (m - 1 - i)) (by omega) (by omega)
          rw [← qs_succ] at r3
          generalize ((sS c (i + 1) : Int) : Rat) * a (m - 1 - i) = y at *
          generalize a (m - 1 - i) = ai at *
          generalize ((sS c (i + 1) : Int) : Rat) = si at *
          simp only [encQ_sm] at r2 r3
          (repeat (first|apply zO (by decide +kernel)|apply zP (by decide +kernel)|apply zA|apply zB|apply zF|apply zG|apply zH|apply zI|apply zJ|apply zK|apply zL (by decide)|apply zM|apply zN (by decide)|apply zD|apply zC|apply zE|((first|apply l_go rfl|apply c_dec); (case hs => (simp (disch := first|omega|exact kD rfl|exact kX rfl) only [smZ, tyA, simprocAttr, bl, i64, smT, e0, e2, e3, e4]; exact rfl)); first|refine c_bt ?_|refine c_bf ?_|show lrun _ _ _ _ _ _ _ _ _)|(apply l_call rfl (by decide) rfl; (case hc => (simp (disch := first|omega|exact kD rfl|exact kX rfl) only [smZ, tyA, simprocAttr, bl, i64, smT, e0, e2, e3, e4]; exact rfl)); (case hg => assumption))))
          refine ⟨⟨i + 1, by omega⟩, ?_, by simp only; omega⟩
          (refine Sub.heapL [0,1,2] rfl (by decide) ?_ (by simp only [List.forall_mem_cons, List.not_mem_nil, false_imp_iff, implies_true, and_true]; decide) ?_ ?_; all_goals (first | (simp only [plainC, smF, dg, renL, renLs, simprocAttr, bl, i64, smT]; done) | (simp only [smF, dg, renL, renLs, simprocAttr, bl, i64, smT]; (repeat' apply And.intro); all_goals rfl) | (simp only [smF, dg, renL, renLs, simprocAttr, bl, i64, smT]) | skip))
          all_goals (first | done | simp)
        · obtain rfl : i = m := by omega
          have r1 := frac_good (-1) (i : Int) (by omega) (by omega)
          have b1 := P.bq i i hm1 (by omega) (by omega)
          have b3 : lq (Rat.divInt (-1) (i : Int)) ≤ 3 := by
            obtain ⟨h1, h2⟩ := lq_divInt (n := -1) (d := (i : Int)) (by omega)
            have h3 : len (-1) ≤ 1 := len_pow_lt (e := 1) (by decide)
            have h4 : len (i : Int) ≤ 1 := len_pow_lt (e := 1) (by omega)
            unfold lq
            omega
          have r2 := rqmul_good (Rat.divInt (-1) (i : Int)) (qs (sS c) a i i) (by omega) (by omega)
          rw [frac_step hm1, ← P.step i hm1 (by omega)] at r2
          have happ := aP_succ a i
          generalize a i = ai at *
          generalize Rat.divInt (-1) (i : Int) = fr at *
          simp only [encQ_sm, i64] at r1 r2
          (repeat (first|apply zO (by decide +kernel)|apply zP (by decide +kernel)|apply zA|apply zB|apply zF|apply zG|apply zH|apply zI|apply zJ|apply zK|apply zL (by decide)|apply zM|apply zN (by decide)|apply zD|apply zC|apply zE|((first|apply l_go rfl|apply c_dec); (case hs => (simp (disch := first|omega|exact kD rfl|exact kX rfl) only [smZ, tyA, simprocAttr, bl, i64, smT]; exact rfl)); first|refine c_bt ?_|refine c_bf ?_|show lrun _ _ _ _ _ _ _ _ _)|(apply l_call rfl (by decide) rfl; (case hc => (simp (disch := first|omega|exact kD rfl|exact kX rfl) only [smZ, tyA, simprocAttr, bl, i64, smT]; exact rfl)); (case hg => assumption))))
          refine ⟨⟨i + 1, by omega, by omega⟩, ?_, by simp only; omega⟩
          (refine Sub.heapL [0,12] rfl (by decide) ?_ (by simp only [List.forall_mem_cons, List.not_mem_nil, false_imp_iff, implies_true, and_true]; decide) ?_ ?_; all_goals (first | (simp only [plainC, smF, dg, renL, renLs, simprocAttr, bl, i64, smT]; done) | (simp only [smF, dg, renL, renLs, simprocAttr, bl, i64, smT]; (repeat' apply And.intro); all_goals rfl) | (simp only [smF, dg, renL, renLs, simprocAttr, bl, i64, smT]) | skip))
          rw [happ, ← qc_app]
          exact ⟨trivial, rfl⟩
    · obtain rfl : m = N + 1 := by omega
      (repeat (first|apply zO (by decide +kernel)|apply zP (by decide +kernel)|apply zA|apply zB|apply zF|apply zG|apply zH|apply zI|apply zJ|apply zK|apply zL (by decide)|apply zM|apply zN (by decide)|apply zD|apply zC|apply zE|((first|apply l_go rfl|apply c_dec); (case hs => (simp (disch := first|omega|exact kD rfl|exact kX rfl) only [smZ, tyA, simprocAttr, bl, i64, smT]; exact rfl)); first|refine c_bt ?_|refine c_bf ?_|show lrun _ _ _ _ _ _ _ _ _)|(apply l_call rfl (by decide) rfl; (case hc => (simp (disch := first|omega|exact kD rfl|exact kX rfl) only [smZ, tyA, simprocAttr, bl, i64, smT]; exact rfl)); (case hg => assumption))))
      ((first | apply g_ret | apply g_end); case hres => (simp only [resL, rOs, rO, Option.map_some]; simp (disch := first|omega|exact kD rfl|exact kX rfl) only [smZ, tyA, simprocAttr, bl, i64, smT]; exact rfl))
      simp (disch := first|omega|exact kD rfl|exact kX rfl) only [smZ, tyA, simprocAttr, bl, i64, smT]
end Go.Proofs.YtbajpjjbaffnnaaGreat
