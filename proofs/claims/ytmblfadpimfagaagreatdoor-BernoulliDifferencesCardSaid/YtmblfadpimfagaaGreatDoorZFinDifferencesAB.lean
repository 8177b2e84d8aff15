/- Contracts of functions of the program, and what proves them (texts: D6). -/
import Derived.Test.YtmblfadpimfagaaGreatDoorZFinDifferencesAA
set_option linter.all false
namespace Go.Proofs.YtmblfadpimfagaaGreatDoor
open Go Go.Lg Go.Num
set_option maxRecDepth 100000
set_option maxHeartbeats 4000000
attribute [local irreducible] Go.Lg.lrun Go.Lg.lwp Go.Lg.exThen Go.Lg.exBlk Go.Lg.keep Go.Lg.goodPost sg mg bq bpL horQ
theorem lq_qpow (q : Rat) (n : Nat) : lq (q ^ n) ≤ n * lq q + 2 := by
  unfold lq
  rw [Rat.num_pow, Rat.den_pow, Int.natCast_pow, Nat.mul_add]
  have h1 := len_pow q.num n
  have h2 := len_pow (q.den : Int) n
  omega
theorem lawDifferences_good (n x0 x1 : Int) (h : -9223372036854775808 ≤ n ∧ n ≤ 9223372036854775807) (hx0 : -32768 ≤ x0 ∧ x0 ≤ 32767) (hx1 : -32768 ≤ x1 ∧ x1 ≤ 32767) :
    PureGood Tryz.prog 7 [i64 n, .agg [.lit (.int .i16 x0), .lit (.int .i16 x1)]] (.lit (.bool true)) := by
  have h0 := awake_good
  have h1 := Polynomial_good n h
  rw [encPoly] at h1
  by_cases hr : 0 ≤ n ∧ n ≤ 40
  · obtain ⟨m, rfl⟩ : ∃ m : Nat, n = m := ⟨n.toNat, by omega⟩
    have hm : m ≤ 40 := by omega
    rw [if_pos hr, if_pos hr, Int.toNat_natCast] at h1
    obtain ⟨D, hmx⟩ : ∃ D : Int, (if 1 > x1 then 1 else x1) = D := ⟨_, rfl⟩
    have hD : 1 ≤ D ∧ D ≤ 32767 := by rw [← hmx]; split <;> omega
    have hfr := frac_good x0 D (by omega) (by omega)
    have l1 : len x0 ≤ 1 := len_pow_lt (e := 1) (by omega)
    have l2 : len D ≤ 1 := len_pow_lt (e := 1) (by omega)
    have l3 := lq_divInt (n := x0) (d := D) (by omega)
    generalize Rat.divInt x0 D = t at *
    have lt : lq t ≤ 2 := by unfold lq; omega
    have q1 := baseQ_good 1 (by omega)
    rw [show ((1 : Int) : Rat) = 1 from rfl] at q1
    have q0 := baseQ_good 0 (by omega)
    rw [show ((0 : Int) : Rat) = 0 from rfl] at q0
    have lo : lq 1 ≤ 2 := by decide +kernel
    have a1 := qadd_good t 1 (by omega) (by omega)
    have la1 := lq_add t 1
    have s1 := qsub_good 1 t (by omega) (by omega)
    have ls1 := lq_sub 1 t
    obtain ⟨e0, le0⟩ := evalB_good (n := m) (by omega) t (by omega)
    obtain ⟨e1, le1⟩ := evalB_good (n := m) (by omega) (t + 1) (by omega)
    obtain ⟨e2, le2⟩ := evalB_good (n := m) (by omega) (1 - t) (by omega)
    have hdiff := bp_diff (n := m) (by omega) t
    have hrefl := bp_refl (n := m) (by omega) t
    have s2 := qsub_good (horQ (bpL m) (t + 1)) (horQ (bpL m) t) (by omega) (by omega)
    have lw := lq_sub (horQ (bpL m) (t + 1)) (horQ (bpL m) t)
    have sr2 := sameRat_self (horQ (bpL m) t) (by omega)
    rcases m with _ | k
    · have hW : horQ (bpL 0) (t + 1) - horQ (bpL 0) t = 0 := hdiff
      rw [hW] at s2
      rw [if_pos rfl] at hrefl
      rw [hrefl] at e2
      have sr1 := sameRat_self 0 (by decide +kernel)
      clear hdiff hrefl hW lw la1 ls1 l3 le0 le1 le2
      generalize horQ (bpL 0) t = E0 at *
      generalize horQ (bpL 0) (t + 1) = E1 at *
      generalize t + 1 = t1 at *
      generalize 1 - t = t2 at *
      generalize (1 : Rat) = u1 at *
      generalize (0 : Rat) = u0 at *
      generalize hL : bp 0 (0 + 1) = L at *
      have hLl : L.length = 0 + 1 := by rw [← hL]; exact bp_length 0 1
      clear hL
      simp only [encQ_sm, encF_qc, hLl, i64, bl] at *
      refine good_of_lwp mix Tryz.func7 rfl (by decide) (nt := 80) rfl (rs := [.tmp 4]) rfl (Nat.le_of_ble_eq_true rfl) ?_
      (repeat (first|apply zO (by decide +kernel)|apply zP (by decide +kernel)|apply zA|apply zB|apply zF|apply zG|apply zH|apply zI|apply zJ|apply zK|apply zL (by decide)|apply zM|apply zN (by decide)|apply zD|apply zC|apply zE|((first|apply l_go rfl|apply c_dec); (case hs => (simp (disch := first|omega|exact kD rfl|exact kX rfl) only [smZ, tyA, simprocAttr, bl, i64, smT, hmx]; exact rfl)); first|refine c_bt ?_|refine c_bf ?_|show lrun _ _ _ _ _ _ _ _ _)|(apply l_call rfl (by decide) rfl; (case hc => (simp (disch := first|omega|exact kD rfl|exact kX rfl) only [smZ, tyA, simprocAttr, bl, i64, smT, hmx]; exact rfl)); (case hg => assumption))))
      ((first | apply g_ret | apply g_end); case hres => (simp only [resL, rOs, rO, Option.map_some]; simp (disch := first|omega|exact kD rfl|exact kX rfl) only [smZ, tyA, simprocAttr, bl, i64, smT, hmx]; exact rfl))
      simp (disch := first|omega|exact kD rfl|exact kX rfl) only [smZ, tyA, simprocAttr, bl, i64, smT, hmx]
    · have hW : horQ (bpL (k + 1)) (t + 1) - horQ (bpL (k + 1)) t = t ^ k * ((k + 1 : Nat) : Rat) := hdiff
      have hp := qpow_good t k (by omega) (by omega)
      have lp := lq_qpow t k
      have lp2 : k * lq t ≤ 40 * 2 := Nat.mul_le_mul (by omega) lt
      have qn := baseQ_good ((k + 1 : Nat) : Int) (by omega)
      have lqn := lq_small (m := ((k + 1 : Nat) : Int)) (by omega) (by omega)
      rw [show (((k + 1 : Nat) : Int) : Rat) = ((k + 1 : Nat) : Rat) from rfl] at qn lqn
      have mw := qmul_good (t ^ k) ((k + 1 : Nat) : Rat) (by omega) (by omega)
      rw [← hW] at mw
      have sr1 := sameRat_self (horQ (bpL (k + 1)) (t + 1) - horQ (bpL (k + 1)) t) (by omega)
      have ln := qneg_good (-horQ (bpL (k + 1)) t) (by rw [lq_neg]; omega)
      rw [Rat.neg_neg] at ln
      have hk1 : ((k + 1 : Nat) : Int) = (k : Int) + 1 := by omega
      clear hdiff lw la1 ls1 l3 le0 le1 le2 lp lp2
      by_cases hev : (k + 1) % 2 = 0
      · rw [if_pos hev] at hrefl
        rw [hrefl] at e2
        clear hrefl ln hW
        generalize horQ (bpL (k + 1)) (t + 1) - horQ (bpL (k + 1)) t = W at *
        generalize horQ (bpL (k + 1)) t = E0 at *
        generalize horQ (bpL (k + 1)) (t + 1) = E1 at *
        generalize t + 1 = t1 at *
        generalize 1 - t = t2 at *
        generalize t ^ k = tk at *
        generalize ((k + 1 : Nat) : Rat) = nn at *
        generalize (1 : Rat) = u1 at *
        generalize (0 : Rat) = u0 at *
        generalize hL : bp (k + 1) (k + 1 + 1) = L at *
        have hLl : L.length = k + 1 + 1 := by rw [← hL]; exact bp_length (k + 1) (k + 1 + 1)
        clear hL
        simp only [encQ_sm, encF_qc, hLl, i64, bl, hk1] at *
        refine good_of_lwp mix Tryz.func7 rfl (by decide) (nt := 80) rfl (rs := [.tmp 4]) rfl (Nat.le_of_ble_eq_true rfl) ?_
        (repeat (first|apply zO (by decide +kernel)|apply zP (by decide +kernel)|apply zA|apply zB|apply zF|apply zG|apply zH|apply zI|apply zJ|apply zK|apply zL (by decide)|apply zM|apply zN (by decide)|apply zD|apply zC|apply zE|((first|apply l_go rfl|apply c_dec); (case hs => (simp (disch := first|omega|exact kD rfl|exact kX rfl) only [smZ, tyA, simprocAttr, bl, i64, smT, hmx, hk1, Int.add_sub_cancel]; exact rfl)); first|refine c_bt ?_|refine c_bf ?_|show lrun _ _ _ _ _ _ _ _ _)|(apply l_call rfl (by decide) rfl; (case hc => (simp (disch := first|omega|exact kD rfl|exact kX rfl) only [smZ, tyA, simprocAttr, bl, i64, smT, hmx, hk1, Int.add_sub_cancel]; exact rfl)); (case hg => assumption))))
        ((first | apply g_ret | apply g_end); case hres => (simp only [resL, rOs, rO, Option.map_some]; simp (disch := first|omega|exact kD rfl|exact kX rfl) only [smZ, tyA, simprocAttr, bl, i64, smT, hmx, hk1, Int.add_sub_cancel]; exact rfl))
        simp (disch := first|omega|exact kD rfl|exact kX rfl) only [smZ, tyA, simprocAttr, bl, i64, smT, hmx, hk1, Int.add_sub_cancel]
      · rw [if_neg hev] at hrefl
        rw [hrefl] at e2
        clear hrefl hW
        generalize horQ (bpL (k + 1)) (t + 1) - horQ (bpL (k + 1)) t = W at *
        generalize -horQ (bpL (k + 1)) t = F0 at *
        generalize horQ (bpL (k + 1)) t = E0 at *
        generalize horQ (bpL (k + 1)) (t + 1) = E1 at *
        generalize t + 1 = t1 at *
        generalize 1 - t = t2 at *
        generalize t ^ k = tk at *
        generalize ((k + 1 : Nat) : Rat) = nn at *
        generalize (1 : Rat) = u1 at *
        generalize (0 : Rat) = u0 at *
        generalize hL : bp (k + 1) (k + 1 + 1) = L at *
        have hLl : L.length = k + 1 + 1 := by rw [← hL]; exact bp_length (k + 1) (k + 1 + 1)
        clear hL
        simp only [encQ_sm, encF_qc, hLl, i64, bl, hk1] at *
        refine good_of_lwp mix Tryz.func7 rfl (by decide) (nt := 80) rfl (rs := [.tmp 4]) rfl (Nat.le_of_ble_eq_true rfl) ?_
        (repeat (first|apply zO (by decide +kernel)|apply zP (by decide +kernel)|apply zA|apply zB|apply zF|apply zG|apply zH|apply zI|apply zJ|apply zK|apply zL (by decide)|apply zM|apply zN (by decide)|apply zD|apply zC|apply zE|((first|apply l_go rfl|apply c_dec); (case hs => (simp (disch := first|omega|exact kD rfl|exact kX rfl) only [smZ, tyA, simprocAttr, bl, i64, smT, hmx, hk1, Int.add_sub_cancel]; exact rfl)); first|refine c_bt ?_|refine c_bf ?_|show lrun _ _ _ _ _ _ _ _ _)|(apply l_call rfl (by decide) rfl; (case hc => (simp (disch := first|omega|exact kD rfl|exact kX rfl) only [smZ, tyA, simprocAttr, bl, i64, smT, hmx, hk1, Int.add_sub_cancel]; exact rfl)); (case hg => assumption))))
        ((first | apply g_ret | apply g_end); case hres => (simp only [resL, rOs, rO, Option.map_some]; simp (disch := first|omega|exact kD rfl|exact kX rfl) only [smZ, tyA, simprocAttr, bl, i64, smT, hmx, hk1, Int.add_sub_cancel]; exact rfl))
        simp (disch := first|omega|exact kD rfl|exact kX rfl) only [smZ, tyA, simprocAttr, bl, i64, smT, hmx, hk1, Int.add_sub_cancel]
  · rw [if_neg hr, if_neg hr] at h1
    rw [encF_qc] at h1
    simp only [i64, List.length_nil, show qc [] = [] from rfl] at *
    refine good_of_lwp mix Tryz.func7 rfl (by decide) (nt := 80) rfl (rs := [.tmp 4]) rfl (Nat.le_of_ble_eq_true rfl) ?_
    (repeat (first|apply zO (by decide +kernel)|apply zP (by decide +kernel)|apply zA|apply zB|apply zF|apply zG|apply zH|apply zI|apply zJ|apply zK|apply zL (by decide)|apply zM|apply zN (by decide)|apply zD|apply zC|apply zE|((first|apply l_go rfl|apply c_dec); (case hs => (simp (disch := first|omega|exact kD rfl|exact kX rfl) only [smZ, tyA, simprocAttr, bl, i64, smT]; exact rfl)); first|refine c_bt ?_|refine c_bf ?_|show lrun _ _ _ _ _ _ _ _ _)|(apply l_call rfl (by decide) rfl; (case hc => (simp (disch := first|omega|exact kD rfl|exact kX rfl) only [smZ, tyA, simprocAttr, bl, i64, smT]; exact rfl)); (case hg => assumption))))
    ((first | apply g_ret | apply g_end); case hres => (simp only [resL, rOs, rO, Option.map_some]; simp (disch := first|omega|exact kD rfl|exact kX rfl) only [smZ, tyA, simprocAttr, bl, i64, smT]; exact rfl))
    simp (disch := first|omega|exact kD rfl|exact kX rfl) only [smZ, tyA, simprocAttr, bl, i64, smT]
end Go.Proofs.YtmblfadpimfagaaGreatDoor
