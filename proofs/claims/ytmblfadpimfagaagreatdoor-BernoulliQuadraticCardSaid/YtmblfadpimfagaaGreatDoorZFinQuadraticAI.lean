/- Contracts of functions of the program, and what proves them (texts: KQ D9). -/
import Derived.Test.YtmblfadpimfagaaGreatDoorZFinQuadraticAB
import Derived.Test.YtmblfadpimfagaaGreatDoorZFinQuadraticAC
import Derived.Test.YtmblfadpimfagaaGreatDoorZFinQuadraticAD
import Derived.Test.YtmblfadpimfagaaGreatDoorZFinQuadraticAE
import Derived.Test.YtmblfadpimfagaaGreatDoorZFinQuadraticAF
import Derived.Test.YtmblfadpimfagaaGreatDoorZFinQuadraticAG
import Derived.Test.YtmblfadpimfagaaGreatDoorZFinQuadraticAH
set_option linter.all false
namespace Go.Proofs.YtmblfadpimfagaaGreatDoor
open Go Go.Lg Go.Num
set_option maxRecDepth 100000
theorem kk_all : ∀ d ∈ fdL, chkKs d = true := by
  simp only [fdL, List.forall_mem_cons]
  exact ⟨kkm59, kkm56, kkm55, kkm52, kkm51, kkm47, kkm43, kkm40, kkm39, kkm35, kkm31, kkm24, kkm23, kkm20, kkm19, kkm15, kkm11, kkm8, kkm7, kkm4, kkm3, kkp1, kkp5, kkp8, kkp12, kkp13, kkp17, kkp21, kkp24, kkp28, kkp29, kkp33, kkp37, kkp40, kkp41, kkp44, kkp53, kkp56, kkp57, kkp60, by simp⟩
theorem qq_all : ∀ d ∈ fdL, chkQ d = true := by
  simp only [fdL, List.forall_mem_cons]
  exact ⟨qqm59, qqm56, qqm55, qqm52, qqm51, qqm47, qqm43, qqm40, qqm39, qqm35, qqm31, qqm24, qqm23, qqm20, qqm19, qqm15, qqm11, qqm8, qqm7, qqm4, qqm3, qqp1, qqp5, qqp8, qqp12, qqp13, qqp17, qqp21, qqp24, qqp28, qqp29, qqp33, qqp37, qqp40, qqp41, qqp44, qqp53, qqp56, qqp57, qqp60, by simp⟩
theorem qn_all : ∀ d ∈ nfL, chkN d = true := by
  intro d hd
  have e : nfL = [-60, -58, -57, -54, -53, -50, -49, -48, -46, -45, -44, -42, -41, -38, -37, -36, -34, -33, -32, -30] ++ [-29, -28, -27, -26, -25, -22, -21, -18, -17, -16, -14, -13, -12, -10, -9, -6, -5, -2, -1, 2] ++ [3, 4, 6, 7, 9, 10, 11, 14, 15, 16, 18, 19, 20, 22, 23, 25, 26, 27, 30, 31] ++ [32, 34, 35, 36, 38, 39, 42, 43, 45, 46, 47, 48, 49, 50, 51, 52, 54, 55, 58, 59] := rfl
  rw [e] at hd
  simp only [List.mem_append] at hd
  rcases hd with ((h | h) | h) | h
  · exact List.all_eq_true.1 qn0 d h
  · exact List.all_eq_true.1 qn1 d h
  · exact List.all_eq_true.1 qn2 d h
  · exact List.all_eq_true.1 qn3 d h
end Go.Proofs.YtmblfadpimfagaaGreatDoor

namespace Go.Proofs.YtmblfadpimfagaaGreatDoor
open Go Go.Lg Go.Num
set_option maxRecDepth 100000
set_option maxHeartbeats 4000000
/-- The value of the quadratic character, as the program reckons it. -/
noncomputable def krV (d : Int) (j : Nat) : Int := match ev 51 [i64 d, i64 ((j + 1 : Nat) : Int)] with
  | some (.lit (.int .i64 z)) => z
  | _ => 0
theorem kr_good {d : Int} (hd : d ∈ fdL) {j : Nat} (hj : j < d.natAbs) : PureGood Tryz.prog 51 [i64 d, i64 ((j + 1 : Nat) : Int)] (i64 (krV d j)) ∧ PureGood Tryz.prog 54 [i64 d, i64 ((j + 1 : Nat) : Int)] (i64 (krV d j)) ∧ (krV d j = 1 ∨ krV d j = 0 ∨ krV d j = -1) := by
  have h := List.all_eq_true.1 (kk_all d hd) j (List.mem_range.2 hj)
  unfold chkK at h
  unfold krV
  split at h
  · rename_i z w h1 h2
    rw [h1]
    simp only [Bool.and_eq_true, Bool.or_eq_true, beq_iff_eq] at h
    obtain ⟨rfl, h3⟩ := h
    exact ⟨ev_good h1, ev_good h2, by rcases h3 with (h | h) | h <;> simp [h]⟩
  · cases h
theorem quad_ok {d : Int} (hd : d ∈ fdL) : (∃ m n cs, PureGood Tryz.prog 48 [i64 d] (.tup [.agg [.lit (.int .i64 m), .sl n cs], i64 0])) ∧ ∃ m n cs, PureGood Tryz.prog 52 [i64 d] (.tup [.agg [.lit (.int .i64 m), .sl n cs], i64 0]) := by
  have h := qq_all d hd
  unfold chkQ at h
  split at h
  · rename_i m n cs e m' n' cs' e' h1 h2
    rw [Bool.and_eq_true] at h
    have e1 := Nat.eq_of_beq_eq_true h.1
    have e2 := Nat.eq_of_beq_eq_true h.2
    subst e1
    subst e2
    exact ⟨⟨_, _, _, ev_good h1⟩, ⟨_, _, _, ev_good h2⟩⟩
  · cases h
theorem quad_no {d : Int} (hd : d ∈ nfL) : (∃ m n cs, PureGood Tryz.prog 48 [i64 d] (.tup [.agg [.lit (.int .i64 m), .sl n cs], i64 15])) ∧ ∃ m n cs, PureGood Tryz.prog 52 [i64 d] (.tup [.agg [.lit (.int .i64 m), .sl n cs], i64 15]) := by
  have h := qn_all d hd
  unfold chkN at h
  split at h
  · rename_i m n cs e m' n' cs' e' h1 h2
    rw [Bool.and_eq_true] at h
    have e1 := Nat.eq_of_beq_eq_true h.1
    have e2 := Nat.eq_of_beq_eq_true h.2
    subst e1
    subst e2
    exact ⟨⟨_, _, _, ev_good h1⟩, ⟨_, _, _, ev_good h2⟩⟩
  · cases h
theorem d_part {d : Int} (h0 : d ≠ 0) (h : -60 ≤ d ∧ d ≤ 60) : d ∈ fdL ∨ d ∈ nfL := by
  have key : ((List.range 121).all fun i => decide ((i : Int) - 60 = 0) || fdL.contains ((i : Int) - 60) || nfL.contains ((i : Int) - 60)) = true := by decide +kernel
  have h1 := List.all_eq_true.1 key (d + 60).toNat (List.mem_range.2 (by omega))
  rw [show (((d + 60).toNat : Nat) : Int) - 60 = d by omega] at h1
  simp only [Bool.or_eq_true, decide_eq_true_eq, List.contains_iff_mem] at h1
  rcases h1 with (h1 | h1) | h1
  · exact absurd h1 h0
  · exact .inl h1
  · exact .inr h1
theorem fd_range {d : Int} (hd : d ∈ fdL) : d ≠ 0 ∧ -60 ≤ d ∧ d ≤ 60 := by
  have key : (fdL.all fun d => decide (d ≠ 0 ∧ -60 ≤ d ∧ d ≤ 60)) = true := by decide +kernel
  exact of_decide_eq_true (List.all_eq_true.1 key d hd)
theorem nf_range {d : Int} (hd : d ∈ nfL) : d ≠ 0 ∧ -60 ≤ d ∧ d ≤ 60 := by
  have key : (nfL.all fun d => decide (d ≠ 0 ∧ -60 ≤ d ∧ d ≤ 60)) = true := by decide +kernel
  exact of_decide_eq_true (List.all_eq_true.1 key d hd)
attribute [local irreducible] Go.Lg.lrun Go.Lg.lwp Go.Lg.exThen Go.Lg.exBlk Go.Lg.keep Go.Lg.goodPost sg mg bq bpL horQ pws trm qsum krV
theorem quadratic_good {d : Int} (hd : d ∈ fdL) (k : Nat) (hk1 : 1 ≤ k) (hk : k ≤ 40) : PureGood Tryz.prog 21 [i64 k, i64 d] (.tup [encQ (qsum (krV d) k d.natAbs d.natAbs), i64 0]) := by
  obtain ⟨hd0, hdr⟩ := fd_range hd
  obtain ⟨⟨qm, qn, qcs, h1⟩, _⟩ := quad_ok hd
  have hkr : ∀ j, j < d.natAbs → _ := fun j hj => kr_good hd hj
  have h2 := summands_good k d.natAbs hk1 hk (by omega) (by omega)
  have h3 := qof_good 0 (by omega)
  rw [show ((0 : Int) : Rat) = 0 from rfl] at h3
  have hmx : (if 0 - d > d then 0 - d else d) = (d.natAbs : Int) := by split <;> omega
  have hz := qsum_zero (krV d) k d.natAbs
  have step : ∀ j, j < d.natAbs → PureGood Tryz.prog 51 [i64 d, i64 ((j + 1 : Nat) : Int)] (i64 (krV d j)) ∧ PureGood Tryz.prog 49 [i64 (krV d j)] (encQ (krV d j)) ∧
      PureGood Tryz.prog 30 [encQ (krV d j), encQ (trm k d.natAbs j)] (encQ ((krV d j : Rat) * trm k d.natAbs j)) ∧
      PureGood Tryz.prog 28 [encQ (qsum (krV d) k d.natAbs j), encQ ((krV d j : Rat) * trm k d.natAbs j)] (encQ (qsum (krV d) k d.natAbs (j + 1))) ∧ (krV d j = 1 ∨ krV d j = 0 ∨ krV d j = -1) := by
    intro j hj
    obtain ⟨a1, _, a3⟩ := hkr j hj
    have lt := lq_trm (k := k) (f := d.natAbs) (j := j) hk (by omega) (by omega) hj
    have ls := lq_qsum (c := krV d) (k := k) (f := d.natAbs) (fun j hj => (hkr j hj).2.2) hk (by omega) (by omega) (n := j) (by omega)
    have lk : lq (krV d j : Rat) ≤ 2 := by
      rw [lq_int]
      have := len_pow_lt (a := krV d j) (e := 1) (by omega)
      omega
    have lm := lq_mul (krV d j : Rat) (trm k d.natAbs j)
    refine ⟨a1, qof_good _ (by omega), qmul_good _ _ (by omega) (by omega), ?_, a3⟩
    rw [qsum_succ]
    exact qadd_good _ _ (by omega) (by omega)
  clear hkr
  generalize hf : d.natAbs = f at *
  rw [encF_qc, smd_length] at h2
  have hls := smd_length k f f
  simp only [encQ_sm, i64] at h1 h2 h3 step ⊢
  refine good_of_lwp mix Tryz.func21 rfl (by decide) (nt := 51) rfl (rs := [.cell 4 27, .tmp 5]) rfl (Nat.le_of_ble_eq_true rfl) ?_
  (repeat (first|apply zO (by decide +kernel)|apply zP (by decide +kernel)|apply zA|apply zB|apply zF|apply zG|apply zH|apply zI|apply zJ|apply zK|apply zL (by decide)|apply zM|apply zN (by decide)|apply zD|apply zC|apply zE|((first|apply l_go rfl|apply c_dec); (case hs => (simp (disch := first|omega|exact kD rfl|exact kX rfl) only [smZ, tyA, simprocAttr, bl, i64, smT, hmx]; exact rfl)); first|refine c_bt ?_|refine c_bf ?_|show lrun _ _ _ _ _ _ _ _ _)|(apply l_call rfl (by decide) rfl; (case hc => (simp (disch := first|omega|exact kD rfl|exact kX rfl) only [smZ, tyA, simprocAttr, bl, i64, smT, hmx]; exact rfl)); (case hg => assumption))))
  refine w_loop (α := {j : Nat // j ≤ f}) (fun j => st 51 (lk [(0, i64 k), (1, i64 d), (4, .ptr 0 0), (8, .ptr 1 0), (33, .sl f (qc (smd k f f))), (34, i64 f), (35, i64 j.1)]) (lkH [(0, ⟨27, [bl false, .lit (.slice none 0 0), bl false, .lit (.slice none 0 0)], false⟩), (1, ⟨27, [sg (qsum (krV d) k f j.1).num, mg (qsum (krV d) k f j.1).num, sg ((qsum (krV d) k f j.1).den : Int), mg ((qsum (krV d) k f j.1).den : Int)], false⟩)]) 2) (fun j => f - j.1) ⟨0, by omega⟩ ?_ ?_
  · (refine Sub.heapL [0,19] rfl (by decide) ?_ (by simp only [List.forall_mem_cons, List.not_mem_nil, false_imp_iff, implies_true, and_true]; decide) ?_ ?_; all_goals (first | (simp only [plainC, smF, dg, renL, renLs, simprocAttr, bl, i64, smT]; done) | (simp only [smF, dg, renL, renLs, simprocAttr, bl, i64, smT]) | skip))
    · rw [hz]
      exact ⟨trivial, rfl⟩
    · exact ⟨rfl, rfl, rfl, rfl⟩
  · rintro ⟨j, hj⟩
    simp only [st]
    by_cases hlt : j < f
    · obtain ⟨w1, w2, w3, w4, hz⟩ := step j hlt
      have e1 : (smd k f f).getD j 0 = trm k f j := smd_getD hlt
      have hj1 : ((j + 1 : Nat) : Int) = (j : Int) + 1 := by omega
      rw [hj1] at w1
      generalize trm k f j = T at *
      generalize ((krV d j : Int) : Rat) * T = M at *
      generalize ((krV d j : Int) : Rat) = K at *
      generalize krV d j = z at *
      (repeat (first|apply zO (by decide +kernel)|apply zP (by decide +kernel)|apply zA|apply zB|apply zF|apply zG|apply zH|apply zI|apply zJ|apply zK|apply zL (by decide)|apply zM|apply zN (by decide)|apply zD|apply zC|apply zE|((first|apply l_go rfl|apply c_dec); (case hs => (simp (disch := first|omega|exact kD rfl|exact kX rfl) only [smZ, tyA, simprocAttr, bl, i64, smT, e1]; exact rfl)); first|refine c_bt ?_|refine c_bf ?_|show lrun _ _ _ _ _ _ _ _ _)|(apply l_call rfl (by decide) rfl; (case hc => (simp (disch := first|omega|exact kD rfl|exact kX rfl) only [smZ, tyA, simprocAttr, bl, i64, smT, e1]; exact rfl)); (case hg => assumption))))
      refine ⟨⟨j + 1, by omega⟩, ?_, by simp only; omega⟩
      (refine Sub.heapL [0,1] rfl (by decide) ?_ (by simp only [List.forall_mem_cons, List.not_mem_nil, false_imp_iff, implies_true, and_true]; decide) ?_ ?_; all_goals (first | (simp only [plainC, smF, dg, renL, renLs, simprocAttr, bl, i64, smT]; done) | (simp only [smF, dg, renL, renLs, simprocAttr, bl, i64, smT]) | skip))
      exact ⟨rfl, rfl, rfl, rfl⟩
    · obtain rfl : j = f := by omega
      (repeat (first|apply zO (by decide +kernel)|apply zP (by decide +kernel)|apply zA|apply zB|apply zF|apply zG|apply zH|apply zI|apply zJ|apply zK|apply zL (by decide)|apply zM|apply zN (by decide)|apply zD|apply zC|apply zE|((first|apply l_go rfl|apply c_dec); (case hs => (simp (disch := first|omega|exact kD rfl|exact kX rfl) only [smZ, tyA, simprocAttr, bl, i64, smT]; exact rfl)); first|refine c_bt ?_|refine c_bf ?_|show lrun _ _ _ _ _ _ _ _ _)|(apply l_call rfl (by decide) rfl; (case hc => (simp (disch := first|omega|exact kD rfl|exact kX rfl) only [smZ, tyA, simprocAttr, bl, i64, smT]; exact rfl)); (case hg => assumption))))
      ((first | apply g_ret | apply g_end); case hres => (simp only [resL, rOs, rO, Option.map_some]; simp (disch := first|omega|exact kD rfl|exact kX rfl) only [smZ, tyA, simprocAttr, bl, i64, smT]; exact rfl))
      simp (disch := first|omega|exact kD rfl|exact kX rfl) only [smZ, tyA, simprocAttr, bl, i64, smT]
theorem rQuadratic_good {d : Int} (hd : d ∈ fdL) (k : Nat) (hk1 : 1 ≤ k) (hk : k ≤ 40) : PureGood Tryz.prog 22 [i64 k, i64 d] (.tup [encQ (qsum (krV d) k d.natAbs d.natAbs), i64 0]) := by
  obtain ⟨hd0, hdr⟩ := fd_range hd
  obtain ⟨_, ⟨qm, qn, qcs, h1⟩⟩ := quad_ok hd
  have hkr : ∀ j, j < d.natAbs → _ := fun j hj => kr_good hd hj
  have h2 := rparts_good k d.natAbs hk1 hk (by omega) (by omega)
  have h3 := baseQ_good 0 (by omega)
  rw [show ((0 : Int) : Rat) = 0 from rfl] at h3
  have hmx : (if 0 - d > d then 0 - d else d) = (d.natAbs : Int) := by split <;> omega
  have hz := qsum_zero (krV d) k d.natAbs
  have step : ∀ j, j < d.natAbs → PureGood Tryz.prog 54 [i64 d, i64 ((j + 1 : Nat) : Int)] (i64 (krV d j)) ∧
      ((krV d j = 1 ∧ PureGood Tryz.prog 55 [encQ (qsum (krV d) k d.natAbs j), encQ (trm k d.natAbs j)] (encQ (qsum (krV d) k d.natAbs (j + 1)))) ∨
       (krV d j = -1 ∧ PureGood Tryz.prog 56 [encQ (qsum (krV d) k d.natAbs j), encQ (trm k d.natAbs j)] (encQ (qsum (krV d) k d.natAbs (j + 1)))) ∨
       (krV d j = 0 ∧ qsum (krV d) k d.natAbs (j + 1) = qsum (krV d) k d.natAbs j)) := by
    intro j hj
    obtain ⟨_, a1, a3⟩ := hkr j hj
    have lt := lq_trm (k := k) (f := d.natAbs) (j := j) hk (by omega) (by omega) hj
    have ls := lq_qsum (c := krV d) (k := k) (f := d.natAbs) (fun j hj => (hkr j hj).2.2) hk (by omega) (by omega) (n := j) (by omega)
    refine ⟨a1, ?_⟩
    rcases a3 with h | h | h
    · refine .inl ⟨h, ?_⟩
      have := rqadd_good (qsum (krV d) k d.natAbs j) (trm k d.natAbs j) (by omega) (by omega)
      rwa [show qsum (krV d) k d.natAbs j + trm k d.natAbs j = qsum (krV d) k d.natAbs (j + 1) by rw [qsum_succ, h]; show _ = _ + (1 : Rat) * _; rw [Rat.one_mul]] at this
    · refine .inr (.inr ⟨h, ?_⟩)
      rw [qsum_succ, h]
      show _ + (0 : Rat) * _ = _
      rw [Rat.zero_mul, Rat.add_zero]
    · refine .inr (.inl ⟨h, ?_⟩)
      have := rqsub_good (qsum (krV d) k d.natAbs j) (trm k d.natAbs j) (by omega) (by omega)
      rwa [show qsum (krV d) k d.natAbs j - trm k d.natAbs j = qsum (krV d) k d.natAbs (j + 1) by rw [qsum_succ, h]; show _ = _ + (-1 : Rat) * _; rw [Rat.neg_mul, Rat.one_mul, Rat.sub_eq_add_neg]] at this
  clear hkr
  generalize hf : d.natAbs = f at *
  rw [encF_qc, smd_length] at h2
  have hls := smd_length k f f
  simp only [encQ_sm, i64] at h1 h2 h3 step ⊢
  refine good_of_lwp mix Tryz.func22 rfl (by decide) (nt := 62) rfl (rs := [.cell 4 27, .tmp 5]) rfl (Nat.le_of_ble_eq_true rfl) ?_
  (repeat (first|apply zO (by decide +kernel)|apply zP (by decide +kernel)|apply zA|apply zB|apply zF|apply zG|apply zH|apply zI|apply zJ|apply zK|apply zL (by decide)|apply zM|apply zN (by decide)|apply zD|apply zC|apply zE|((first|apply l_go rfl|apply c_dec); (case hs => (simp (disch := first|omega|exact kD rfl|exact kX rfl) only [smZ, tyA, simprocAttr, bl, i64, smT, hmx]; exact rfl)); first|refine c_bt ?_|refine c_bf ?_|show lrun _ _ _ _ _ _ _ _ _)|(apply l_call rfl (by decide) rfl; (case hc => (simp (disch := first|omega|exact kD rfl|exact kX rfl) only [smZ, tyA, simprocAttr, bl, i64, smT, hmx]; exact rfl)); (case hg => assumption))))
  refine w_loop (α := {j : Nat // j ≤ f}) (fun j => st 62 (lk [(0, i64 k), (1, i64 d), (4, .ptr 0 0), (8, .ptr 1 0), (9, .sl f (qc (smd k f f))), (10, i64 ((j.1 + 1 : Nat) : Int))]) (lkH [(0, ⟨27, [bl false, .lit (.slice none 0 0), bl false, .lit (.slice none 0 0)], false⟩), (1, ⟨27, [sg (qsum (krV d) k f j.1).num, mg (qsum (krV d) k f j.1).num, sg ((qsum (krV d) k f j.1).den : Int), mg ((qsum (krV d) k f j.1).den : Int)], false⟩)]) 2) (fun j => f - j.1) ⟨0, by omega⟩ ?_ ?_
  · (refine Sub.heapL [0,19] rfl (by decide) ?_ (by simp only [List.forall_mem_cons, List.not_mem_nil, false_imp_iff, implies_true, and_true]; decide) ?_ ?_; all_goals (first | (simp only [plainC, smF, dg, renL, renLs, simprocAttr, bl, i64, smT]; done) | (simp only [smF, dg, renL, renLs, simprocAttr, bl, i64, smT]) | skip))
    · rw [hz]
      exact ⟨trivial, rfl⟩
    · exact ⟨rfl, rfl, rfl, rfl⟩
  · rintro ⟨j, hj⟩
    simp only [st]
    by_cases hlt : j < f
    · obtain ⟨w1, hc⟩ := step j hlt
      have e1 : (smd k f f).getD j 0 = trm k f j := smd_getD hlt
      have hjn : (((j + 1 : Nat) : Int) - 1).toNat = j := by omega
      generalize hJ : j + 1 = J at *
      generalize trm k f j = T at *
      rcases hc with ⟨hz1, w2⟩ | ⟨hz1, w2⟩ | ⟨hz1, w2⟩
      · rw [hz1] at w1
        (repeat (first|apply zO (by decide +kernel)|apply zP (by decide +kernel)|apply zA|apply zB|apply zF|apply zG|apply zH|apply zI|apply zJ|apply zK|apply zL (by decide)|apply zM|apply zN (by decide)|apply zD|apply zC|apply zE|((first|apply l_go rfl|apply c_dec); (case hs => (simp (disch := first|omega|exact kD rfl|exact kX rfl) only [smZ, tyA, simprocAttr, bl, i64, smT, e1, hjn]; exact rfl)); first|refine c_bt ?_|refine c_bf ?_|show lrun _ _ _ _ _ _ _ _ _)|(apply l_call rfl (by decide) rfl; (case hc => (simp (disch := first|omega|exact kD rfl|exact kX rfl) only [smZ, tyA, simprocAttr, bl, i64, smT, e1, hjn]; exact rfl)); (case hg => assumption))))
        refine ⟨⟨J, by omega⟩, ?_, by simp only; omega⟩
        (refine Sub.heapL [0,1] rfl (by decide) ?_ (by simp only [List.forall_mem_cons, List.not_mem_nil, false_imp_iff, implies_true, and_true]; decide) ?_ ?_; all_goals (first | (simp only [plainC, smF, dg, renL, renLs, simprocAttr, bl, i64, smT]; done) | (simp only [smF, dg, renL, renLs, simprocAttr, bl, i64, smT]) | skip))
        exact ⟨rfl, rfl, rfl, rfl⟩
      · rw [hz1] at w1
        (repeat (first|apply zO (by decide +kernel)|apply zP (by decide +kernel)|apply zA|apply zB|apply zF|apply zG|apply zH|apply zI|apply zJ|apply zK|apply zL (by decide)|apply zM|apply zN (by decide)|apply zD|apply zC|apply zE|((first|apply l_go rfl|apply c_dec); (case hs => (simp (disch := first|omega|exact kD rfl|exact kX rfl) only [smZ, tyA, simprocAttr, bl, i64, smT, e1, hjn]; exact rfl)); first|refine c_bt ?_|refine c_bf ?_|show lrun _ _ _ _ _ _ _ _ _)|(apply l_call rfl (by decide) rfl; (case hc => (simp (disch := first|omega|exact kD rfl|exact kX rfl) only [smZ, tyA, simprocAttr, bl, i64, smT, e1, hjn]; exact rfl)); (case hg => assumption))))
        refine ⟨⟨J, by omega⟩, ?_, by simp only; omega⟩
        (refine Sub.heapL [0,1] rfl (by decide) ?_ (by simp only [List.forall_mem_cons, List.not_mem_nil, false_imp_iff, implies_true, and_true]; decide) ?_ ?_; all_goals (first | (simp only [plainC, smF, dg, renL, renLs, simprocAttr, bl, i64, smT]; done) | (simp only [smF, dg, renL, renLs, simprocAttr, bl, i64, smT]) | skip))
        exact ⟨rfl, rfl, rfl, rfl⟩
      · rw [hz1] at w1
        (repeat (first|apply zO (by decide +kernel)|apply zP (by decide +kernel)|apply zA|apply zB|apply zF|apply zG|apply zH|apply zI|apply zJ|apply zK|apply zL (by decide)|apply zM|apply zN (by decide)|apply zD|apply zC|apply zE|((first|apply l_go rfl|apply c_dec); (case hs => (simp (disch := first|omega|exact kD rfl|exact kX rfl) only [smZ, tyA, simprocAttr, bl, i64, smT]; exact rfl)); first|refine c_bt ?_|refine c_bf ?_|show lrun _ _ _ _ _ _ _ _ _)|(apply l_call rfl (by decide) rfl; (case hc => (simp (disch := first|omega|exact kD rfl|exact kX rfl) only [smZ, tyA, simprocAttr, bl, i64, smT]; exact rfl)); (case hg => assumption))))
        refine ⟨⟨J, by omega⟩, ?_, by simp only; omega⟩
        rw [w2]
        (refine Sub.heapL [0,1] rfl (by decide) ?_ (by simp only [List.forall_mem_cons, List.not_mem_nil, false_imp_iff, implies_true, and_true]; decide) ?_ ?_; all_goals (first | (simp only [plainC, smF, dg, renL, renLs, simprocAttr, bl, i64, smT]; done) | (simp only [smF, dg, renL, renLs, simprocAttr, bl, i64, smT]) | skip))
        exact ⟨rfl, rfl, rfl, rfl⟩
    · obtain rfl : j = f := by omega
      (repeat (first|apply zO (by decide +kernel)|apply zP (by decide +kernel)|apply zA|apply zB|apply zF|apply zG|apply zH|apply zI|apply zJ|apply zK|apply zL (by decide)|apply zM|apply zN (by decide)|apply zD|apply zC|apply zE|((first|apply l_go rfl|apply c_dec); (case hs => (simp (disch := first|omega|exact kD rfl|exact kX rfl) only [smZ, tyA, simprocAttr, bl, i64, smT]; exact rfl)); first|refine c_bt ?_|refine c_bf ?_|show lrun _ _ _ _ _ _ _ _ _)|(apply l_call rfl (by decide) rfl; (case hc => (simp (disch := first|omega|exact kD rfl|exact kX rfl) only [smZ, tyA, simprocAttr, bl, i64, smT]; exact rfl)); (case hg => assumption))))
      ((first | apply g_ret | apply g_end); case hres => (simp only [resL, rOs, rO, Option.map_some]; simp (disch := first|omega|exact kD rfl|exact kX rfl) only [smZ, tyA, simprocAttr, bl, i64, smT]; exact rfl))
      simp (disch := first|omega|exact kD rfl|exact kX rfl) only [smZ, tyA, simprocAttr, bl, i64, smT]
/-- The zero value of a fraction, with an error. -/
def errQ (e : Int) : LV := .tup [.agg [.lit (.bool false), .sl 0 [], .lit (.bool false), .sl 0 []], i64 e]
theorem quad_range {d : Int} (hd : -9223372036854775808 ≤ d ∧ d ≤ 9223372036854775807) (h : d = 0 ∨ d < -60 ∨ 60 < d) : PureGood Tryz.prog 48 [i64 d] (.tup [.agg [i64 0, .sl 0 []], i64 2]) ∧ PureGood Tryz.prog 52 [i64 d] (.tup [.agg [i64 0, .sl 0 []], i64 2]) := by
  simp only [i64]
  by_cases h1 : d = 0
  · subst h1
    constructor
    · refine good_of_lwp mix Tryz.func48 rfl (by decide) (nt := 37) rfl (rs := [.cell 2 85, .tmp 3]) rfl (Nat.le_of_ble_eq_true rfl) ?_
      (repeat (first|apply zO (by decide +kernel)|apply zP (by decide +kernel)|apply zA|apply zB|apply zF|apply zG|apply zH|apply zI|apply zJ|apply zK|apply zL (by decide)|apply zM|apply zN (by decide)|apply zD|apply zC|apply zE|((first|apply l_go rfl|apply c_dec); (case hs => (simp (disch := first|omega|exact kD rfl|exact kX rfl) only [smZ, tyA, simprocAttr, bl, i64, smT]; exact rfl)); first|refine c_bt ?_|refine c_bf ?_|show lrun _ _ _ _ _ _ _ _ _)|(apply l_call rfl (by decide) rfl; (case hc => (simp (disch := first|omega|exact kD rfl|exact kX rfl) only [smZ, tyA, simprocAttr, bl, i64, smT]; exact rfl)); (case hg => assumption))))
      ((first | apply g_ret | apply g_end); case hres => (simp only [resL, rOs, rO, Option.map_some]; simp (disch := first|omega|exact kD rfl|exact kX rfl) only [smZ, tyA, simprocAttr, bl, i64, smT]; exact rfl))
      simp (disch := first|omega|exact kD rfl|exact kX rfl) only [smZ, tyA, simprocAttr, bl, i64, smT]
    · refine good_of_lwp mix Tryz.func52 rfl (by decide) (nt := 65) rfl (rs := [.cell 2 85, .tmp 3]) rfl (Nat.le_of_ble_eq_true rfl) ?_
      (repeat (first|apply zO (by decide +kernel)|apply zP (by decide +kernel)|apply zA|apply zB|apply zF|apply zG|apply zH|apply zI|apply zJ|apply zK|apply zL (by decide)|apply zM|apply zN (by decide)|apply zD|apply zC|apply zE|((first|apply l_go rfl|apply c_dec); (case hs => (simp (disch := first|omega|exact kD rfl|exact kX rfl) only [smZ, tyA, simprocAttr, bl, i64, smT]; exact rfl)); first|refine c_bt ?_|refine c_bf ?_|show lrun _ _ _ _ _ _ _ _ _)|(apply l_call rfl (by decide) rfl; (case hc => (simp (disch := first|omega|exact kD rfl|exact kX rfl) only [smZ, tyA, simprocAttr, bl, i64, smT]; exact rfl)); (case hg => assumption))))
      ((first | apply g_ret | apply g_end); case hres => (simp only [resL, rOs, rO, Option.map_some]; simp (disch := first|omega|exact kD rfl|exact kX rfl) only [smZ, tyA, simprocAttr, bl, i64, smT]; exact rfl))
      simp (disch := first|omega|exact kD rfl|exact kX rfl) only [smZ, tyA, simprocAttr, bl, i64, smT]
  by_cases h2 : d < -60
  · constructor
    · refine good_of_lwp mix Tryz.func48 rfl (by decide) (nt := 37) rfl (rs := [.cell 2 85, .tmp 3]) rfl (Nat.le_of_ble_eq_true rfl) ?_
      (repeat (first|apply zO (by decide +kernel)|apply zP (by decide +kernel)|apply zA|apply zB|apply zF|apply zG|apply zH|apply zI|apply zJ|apply zK|apply zL (by decide)|apply zM|apply zN (by decide)|apply zD|apply zC|apply zE|((first|apply l_go rfl|apply c_dec); (case hs => (simp (disch := first|omega|exact kD rfl|exact kX rfl) only [smZ, tyA, simprocAttr, bl, i64, smT]; exact rfl)); first|refine c_bt ?_|refine c_bf ?_|show lrun _ _ _ _ _ _ _ _ _)|(apply l_call rfl (by decide) rfl; (case hc => (simp (disch := first|omega|exact kD rfl|exact kX rfl) only [smZ, tyA, simprocAttr, bl, i64, smT]; exact rfl)); (case hg => assumption))))
      ((first | apply g_ret | apply g_end); case hres => (simp only [resL, rOs, rO, Option.map_some]; simp (disch := first|omega|exact kD rfl|exact kX rfl) only [smZ, tyA, simprocAttr, bl, i64, smT]; exact rfl))
      simp (disch := first|omega|exact kD rfl|exact kX rfl) only [smZ, tyA, simprocAttr, bl, i64, smT]
    · refine good_of_lwp mix Tryz.func52 rfl (by decide) (nt := 65) rfl (rs := [.cell 2 85, .tmp 3]) rfl (Nat.le_of_ble_eq_true rfl) ?_
      (repeat (first|apply zO (by decide +kernel)|apply zP (by decide +kernel)|apply zA|apply zB|apply zF|apply zG|apply zH|apply zI|apply zJ|apply zK|apply zL (by decide)|apply zM|apply zN (by decide)|apply zD|apply zC|apply zE|((first|apply l_go rfl|apply c_dec); (case hs => (simp (disch := first|omega|exact kD rfl|exact kX rfl) only [smZ, tyA, simprocAttr, bl, i64, smT]; exact rfl)); first|refine c_bt ?_|refine c_bf ?_|show lrun _ _ _ _ _ _ _ _ _)|(apply l_call rfl (by decide) rfl; (case hc => (simp (disch := first|omega|exact kD rfl|exact kX rfl) only [smZ, tyA, simprocAttr, bl, i64, smT]; exact rfl)); (case hg => assumption))))
      ((first | apply g_ret | apply g_end); case hres => (simp only [resL, rOs, rO, Option.map_some]; simp (disch := first|omega|exact kD rfl|exact kX rfl) only [smZ, tyA, simprocAttr, bl, i64, smT]; exact rfl))
      simp (disch := first|omega|exact kD rfl|exact kX rfl) only [smZ, tyA, simprocAttr, bl, i64, smT]
  have h3 : 60 < d := by omega
  constructor
  · refine good_of_lwp mix Tryz.func48 rfl (by decide) (nt := 37) rfl (rs := [.cell 2 85, .tmp 3]) rfl (Nat.le_of_ble_eq_true rfl) ?_
    (repeat (first|apply zO (by decide +kernel)|apply zP (by decide +kernel)|apply zA|apply zB|apply zF|apply zG|apply zH|apply zI|apply zJ|apply zK|apply zL (by decide)|apply zM|apply zN (by decide)|apply zD|apply zC|apply zE|((first|apply l_go rfl|apply c_dec); (case hs => (simp (disch := first|omega|exact kD rfl|exact kX rfl) only [smZ, tyA, simprocAttr, bl, i64, smT]; exact rfl)); first|refine c_bt ?_|refine c_bf ?_|show lrun _ _ _ _ _ _ _ _ _)|(apply l_call rfl (by decide) rfl; (case hc => (simp (disch := first|omega|exact kD rfl|exact kX rfl) only [smZ, tyA, simprocAttr, bl, i64, smT]; exact rfl)); (case hg => assumption))))
    ((first | apply g_ret | apply g_end); case hres => (simp only [resL, rOs, rO, Option.map_some]; simp (disch := first|omega|exact kD rfl|exact kX rfl) only [smZ, tyA, simprocAttr, bl, i64, smT]; exact rfl))
    simp (disch := first|omega|exact kD rfl|exact kX rfl) only [smZ, tyA, simprocAttr, bl, i64, smT]
  · refine good_of_lwp mix Tryz.func52 rfl (by decide) (nt := 65) rfl (rs := [.cell 2 85, .tmp 3]) rfl (Nat.le_of_ble_eq_true rfl) ?_
    (repeat (first|apply zO (by decide +kernel)|apply zP (by decide +kernel)|apply zA|apply zB|apply zF|apply zG|apply zH|apply zI|apply zJ|apply zK|apply zL (by decide)|apply zM|apply zN (by decide)|apply zD|apply zC|apply zE|((first|apply l_go rfl|apply c_dec); (case hs => (simp (disch := first|omega|exact kD rfl|exact kX rfl) only [smZ, tyA, simprocAttr, bl, i64, smT]; exact rfl)); first|refine c_bt ?_|refine c_bf ?_|show lrun _ _ _ _ _ _ _ _ _)|(apply l_call rfl (by decide) rfl; (case hc => (simp (disch := first|omega|exact kD rfl|exact kX rfl) only [smZ, tyA, simprocAttr, bl, i64, smT]; exact rfl)); (case hg => assumption))))
    ((first | apply g_ret | apply g_end); case hres => (simp only [resL, rOs, rO, Option.map_some]; simp (disch := first|omega|exact kD rfl|exact kX rfl) only [smZ, tyA, simprocAttr, bl, i64, smT]; exact rfl))
    simp (disch := first|omega|exact kD rfl|exact kX rfl) only [smZ, tyA, simprocAttr, bl, i64, smT]
theorem quadratic_err {k d e : Int} {m : Int} {n : Nat} {cs : List LV} (hk : 1 ≤ k ∧ k ≤ 40) (he : e = 2 ∨ e = 15) (h : PureGood Tryz.prog 48 [i64 d] (.tup [.agg [.lit (.int .i64 m), .sl n cs], i64 e])) : PureGood Tryz.prog 21 [i64 k, i64 d] (errQ e) := by
  simp only [errQ, i64] at *
  refine good_of_lwp mix Tryz.func21 rfl (by decide) (nt := 51) rfl (rs := [.cell 4 27, .tmp 5]) rfl (Nat.le_of_ble_eq_true rfl) ?_
  (repeat (first|apply zO (by decide +kernel)|apply zP (by decide +kernel)|apply zA|apply zB|apply zF|apply zG|apply zH|apply zI|apply zJ|apply zK|apply zL (by decide)|apply zM|apply zN (by decide)|apply zD|apply zC|apply zE|((first|apply l_go rfl|apply c_dec); (case hs => (simp (disch := first|omega|exact kD rfl|exact kX rfl) only [smZ, tyA, simprocAttr, bl, i64, smT]; exact rfl)); first|refine c_bt ?_|refine c_bf ?_|show lrun _ _ _ _ _ _ _ _ _)|(apply l_call rfl (by decide) rfl; (case hc => (simp (disch := first|omega|exact kD rfl|exact kX rfl) only [smZ, tyA, simprocAttr, bl, i64, smT]; exact rfl)); (case hg => assumption))))
  ((first | apply g_ret | apply g_end); case hres => (simp only [resL, rOs, rO, Option.map_some]; simp (disch := first|omega|exact kD rfl|exact kX rfl) only [smZ, tyA, simprocAttr, bl, i64, smT]; exact rfl))
  simp (disch := first|omega|exact kD rfl|exact kX rfl) only [smZ, tyA, simprocAttr, bl, i64, smT]
theorem rQuadratic_err {k d e : Int} {m : Int} {n : Nat} {cs : List LV} (hk : 1 ≤ k ∧ k ≤ 40) (he : e = 2 ∨ e = 15) (h : PureGood Tryz.prog 52 [i64 d] (.tup [.agg [.lit (.int .i64 m), .sl n cs], i64 e])) : PureGood Tryz.prog 22 [i64 k, i64 d] (errQ e) := by
  simp only [errQ, i64] at *
  refine good_of_lwp mix Tryz.func22 rfl (by decide) (nt := 62) rfl (rs := [.cell 4 27, .tmp 5]) rfl (Nat.le_of_ble_eq_true rfl) ?_
  (repeat (first|apply zO (by decide +kernel)|apply zP (by decide +kernel)|apply zA|apply zB|apply zF|apply zG|apply zH|apply zI|apply zJ|apply zK|apply zL (by decide)|apply zM|apply zN (by decide)|apply zD|apply zC|apply zE|((first|apply l_go rfl|apply c_dec); (case hs => (simp (disch := first|omega|exact kD rfl|exact kX rfl) only [smZ, tyA, simprocAttr, bl, i64, smT]; exact rfl)); first|refine c_bt ?_|refine c_bf ?_|show lrun _ _ _ _ _ _ _ _ _)|(apply l_call rfl (by decide) rfl; (case hc => (simp (disch := first|omega|exact kD rfl|exact kX rfl) only [smZ, tyA, simprocAttr, bl, i64, smT]; exact rfl)); (case hg => assumption))))
  ((first | apply g_ret | apply g_end); case hres => (simp only [resL, rOs, rO, Option.map_some]; simp (disch := first|omega|exact kD rfl|exact kX rfl) only [smZ, tyA, simprocAttr, bl, i64, smT]; exact rfl))
  simp (disch := first|omega|exact kD rfl|exact kX rfl) only [smZ, tyA, simprocAttr, bl, i64, smT]
theorem quadratic_k {k d : Int} (hk : k < 1 ∨ 40 < k) : PureGood Tryz.prog 21 [i64 k, i64 d] (errQ 2) ∧ PureGood Tryz.prog 22 [i64 k, i64 d] (errQ 2) := by
  simp only [errQ, i64] at *
  by_cases h1 : k < 1
  · constructor
    · refine good_of_lwp mix Tryz.func21 rfl (by decide) (nt := 51) rfl (rs := [.cell 4 27, .tmp 5]) rfl (Nat.le_of_ble_eq_true rfl) ?_
      (repeat (first|apply zO (by decide +kernel)|apply zP (by decide +kernel)|apply zA|apply zB|apply zF|apply zG|apply zH|apply zI|apply zJ|apply zK|apply zL (by decide)|apply zM|apply zN (by decide)|apply zD|apply zC|apply zE|((first|apply l_go rfl|apply c_dec); (case hs => (simp (disch := first|omega|exact kD rfl|exact kX rfl) only [smZ, tyA, simprocAttr, bl, i64, smT]; exact rfl)); first|refine c_bt ?_|refine c_bf ?_|show lrun _ _ _ _ _ _ _ _ _)|(apply l_call rfl (by decide) rfl; (case hc => (simp (disch := first|omega|exact kD rfl|exact kX rfl) only [smZ, tyA, simprocAttr, bl, i64, smT]; exact rfl)); (case hg => assumption))))
      ((first | apply g_ret | apply g_end); case hres => (simp only [resL, rOs, rO, Option.map_some]; simp (disch := first|omega|exact kD rfl|exact kX rfl) only [smZ, tyA, simprocAttr, bl, i64, smT]; exact rfl))
      simp (disch := first|omega|exact kD rfl|exact kX rfl) only [smZ, tyA, simprocAttr, bl, i64, smT]
    · refine good_of_lwp mix Tryz.func22 rfl (by decide) (nt := 62) rfl (rs := [.cell 4 27, .tmp 5]) rfl (Nat.le_of_ble_eq_true rfl) ?_
      (repeat (first|apply zO (by decide +kernel)|apply zP (by decide +kernel)|apply zA|apply zB|apply zF|apply zG|apply zH|apply zI|apply zJ|apply zK|apply zL (by decide)|apply zM|apply zN (by decide)|apply zD|apply zC|apply zE|((first|apply l_go rfl|apply c_dec); (case hs => (simp (disch := first|omega|exact kD rfl|exact kX rfl) only [smZ, tyA, simprocAttr, bl, i64, smT]; exact rfl)); first|refine c_bt ?_|refine c_bf ?_|show lrun _ _ _ _ _ _ _ _ _)|(apply l_call rfl (by decide) rfl; (case hc => (simp (disch := first|omega|exact kD rfl|exact kX rfl) only [smZ, tyA, simprocAttr, bl, i64, smT]; exact rfl)); (case hg => assumption))))
      ((first | apply g_ret | apply g_end); case hres => (simp only [resL, rOs, rO, Option.map_some]; simp (disch := first|omega|exact kD rfl|exact kX rfl) only [smZ, tyA, simprocAttr, bl, i64, smT]; exact rfl))
      simp (disch := first|omega|exact kD rfl|exact kX rfl) only [smZ, tyA, simprocAttr, bl, i64, smT]
  · have h2 : 40 < k := by omega
    constructor
    · refine good_of_lwp mix Tryz.func21 rfl (by decide) (nt := 51) rfl (rs := [.cell 4 27, .tmp 5]) rfl (Nat.le_of_ble_eq_true rfl) ?_
      (repeat (first|apply zO (by decide +kernel)|apply zP (by decide +kernel)|apply zA|apply zB|apply zF|apply zG|apply zH|apply zI|apply zJ|apply zK|apply zL (by decide)|apply zM|apply zN (by decide)|apply zD|apply zC|apply zE|((first|apply l_go rfl|apply c_dec); (case hs => (simp (disch := first|omega|exact kD rfl|exact kX rfl) only [smZ, tyA, simprocAttr, bl, i64, smT]; exact rfl)); first|refine c_bt ?_|refine c_bf ?_|show lrun _ _ _ _ _ _ _ _ _)|(apply l_call rfl (by decide) rfl; (case hc => (simp (disch := first|omega|exact kD rfl|exact kX rfl) only [smZ, tyA, simprocAttr, bl, i64, smT]; exact rfl)); (case hg => assumption))))
      ((first | apply g_ret | apply g_end); case hres => (simp only [resL, rOs, rO, Option.map_some]; simp (disch := first|omega|exact kD rfl|exact kX rfl) only [smZ, tyA, simprocAttr, bl, i64, smT]; exact rfl))
      simp (disch := first|omega|exact kD rfl|exact kX rfl) only [smZ, tyA, simprocAttr, bl, i64, smT]
    · refine good_of_lwp mix Tryz.func22 rfl (by decide) (nt := 62) rfl (rs := [.cell 4 27, .tmp 5]) rfl (Nat.le_of_ble_eq_true rfl) ?_
      (repeat (first|apply zO (by decide +kernel)|apply zP (by decide +kernel)|apply zA|apply zB|apply zF|apply zG|apply zH|apply zI|apply zJ|apply zK|apply zL (by decide)|apply zM|apply zN (by decide)|apply zD|apply zC|apply zE|((first|apply l_go rfl|apply c_dec); (case hs => (simp (disch := first|omega|exact kD rfl|exact kX rfl) only [smZ, tyA, simprocAttr, bl, i64, smT]; exact rfl)); first|refine c_bt ?_|refine c_bf ?_|show lrun _ _ _ _ _ _ _ _ _)|(apply l_call rfl (by decide) rfl; (case hc => (simp (disch := first|omega|exact kD rfl|exact kX rfl) only [smZ, tyA, simprocAttr, bl, i64, smT]; exact rfl)); (case hg => assumption))))
      ((first | apply g_ret | apply g_end); case hres => (simp only [resL, rOs, rO, Option.map_some]; simp (disch := first|omega|exact kD rfl|exact kX rfl) only [smZ, tyA, simprocAttr, bl, i64, smT]; exact rfl))
      simp (disch := first|omega|exact kD rfl|exact kX rfl) only [smZ, tyA, simprocAttr, bl, i64, smT]
/-- Both return the same. -/
theorem quad_same (k d : Int) (hk : -9223372036854775808 ≤ k ∧ k ≤ 9223372036854775807) (hd : -9223372036854775808 ≤ d ∧ d ≤ 9223372036854775807) :
    ∃ a b e : Int, len a ≤ 1000 ∧ len b ≤ 1000 ∧ PureGood Tryz.prog 21 [i64 k, i64 d] (.tup [.agg [sg a, mg a, sg b, mg b], i64 e]) ∧ PureGood Tryz.prog 22 [i64 k, i64 d] (.tup [.agg [sg a, mg a, sg b, mg b], i64 e]) := by
  have l0 : len 0 ≤ 1000 := by decide +kernel
  have hz : ∀ e, errQ e = .tup [.agg [sg 0, mg 0, sg 0, mg 0], i64 e] := fun e => by rw [errQ, sg0, mg0]
  by_cases h1 : k < 1 ∨ 40 < k
  · have h := quadratic_k (d := d) h1
    rw [hz] at h
    exact ⟨0, 0, 2, l0, l0, h.1, h.2⟩
  by_cases h2 : d = 0 ∨ d < -60 ∨ 60 < d
  · obtain ⟨q1, q2⟩ := quad_range hd h2
    have r1 := quadratic_err (k := k) (by omega) (.inl rfl) q1
    have r2 := rQuadratic_err (k := k) (by omega) (.inl rfl) q2
    rw [hz] at r1 r2
    exact ⟨0, 0, 2, l0, l0, r1, r2⟩
  rcases d_part (d := d) (by omega) (by omega) with h3 | h3
  · obtain ⟨m, rfl⟩ : ∃ m : Nat, k = m := ⟨k.toNat, by omega⟩
    have r1 := quadratic_good h3 m (by omega) (by omega)
    have r2 := rQuadratic_good h3 m (by omega) (by omega)
    have ls := lq_qsum (c := krV d) (k := m) (f := d.natAbs) (fun j hj => (kr_good h3 hj).2.2) (by omega) (by omega) (by omega) (n := d.natAbs) (Nat.le_refl _)
    rw [encQ_sm] at r1 r2
    unfold lq at ls
    exact ⟨_, _, 0, by omega, by omega, r1, r2⟩
  · obtain ⟨⟨_, _, _, q1⟩, ⟨_, _, _, q2⟩⟩ := quad_no h3
    have r1 := quadratic_err (k := k) (by omega) (.inr rfl) q1
    have r2 := rQuadratic_err (k := k) (by omega) (.inr rfl) q2
    rw [hz] at r1 r2
    exact ⟨0, 0, 15, l0, l0, r1, r2⟩
theorem lawQuadratic_good (k d : Int) (hk : -9223372036854775808 ≤ k ∧ k ≤ 9223372036854775807) (hd : -9223372036854775808 ≤ d ∧ d ≤ 9223372036854775807) : PureGood Tryz.prog 5 [i64 k, i64 d] (.lit (.bool true)) := by
  have h0 := awake_good
  obtain ⟨a, b, e, la, lb, h1, h2⟩ := quad_same k d hk hd
  have h3 := sameRatP_good a b a b (by omega) (by omega) (by omega) (by omega)
  rw [show decide (a = a ∧ b = b) = true by simp, bl] at h3
  simp only [i64] at *
  refine good_of_lwp mix Tryz.func5 rfl (by decide) (nt := 31) rfl (rs := [.tmp 4]) rfl (Nat.le_of_ble_eq_true rfl) ?_
  (repeat (first|apply zO (by decide +kernel)|apply zP (by decide +kernel)|apply zA|apply zB|apply zF|apply zG|apply zH|apply zI|apply zJ|apply zK|apply zL (by decide)|apply zM|apply zN (by decide)|apply zD|apply zC|apply zE|((first|apply l_go rfl|apply c_dec); (case hs => (simp (disch := first|omega|exact kD rfl|exact kX rfl) only [smZ, tyA, simprocAttr, bl, i64, smT]; exact rfl)); first|refine c_bt ?_|refine c_bf ?_|show lrun _ _ _ _ _ _ _ _ _)|(apply l_call rfl (by decide) rfl; (case hc => (simp (disch := first|omega|exact kD rfl|exact kX rfl) only [smZ, tyA, simprocAttr, bl, i64, smT]; exact rfl)); (case hg => assumption))))
  ((first | apply g_ret | apply g_end); case hres => (simp only [resL, rOs, rO, Option.map_some]; simp (disch := first|omega|exact kD rfl|exact kX rfl) only [smZ, tyA, simprocAttr, bl, i64, smT]; exact rfl))
  simp (disch := first|omega|exact kD rfl|exact kX rfl) only [smZ, tyA, simprocAttr, bl, i64, smT]
end Go.Proofs.YtmblfadpimfagaaGreatDoor
