/- Contracts of functions of the program, and what proves them (texts: D1n D4 D2 Num7 Num8 D5 Num9 D7 Num10). -/
import Derived.Test.YtmblfadpimfagaaGreatDoorZAM
import Derived.Test.YtmblfadpimfagaaGreatDoorZAO
set_option linter.all false
namespace Go.Num
theorem lq_div (a b : Rat) (hb : b ≠ 0) : lq (a / b) ≤ lq a + lq b := by
  rw [div_divInt]
  have hn : b.num ≠ 0 := fun e => hb (by rw [← Rat.num_divInt_den b, e, Rat.zero_divInt])
  obtain ⟨h1, h2⟩ := lq_divInt (n := a.num * (b.den : Int)) (Int.mul_ne_zero (den_ne a) hn)
  have h4 := len_mul a.num (b.den : Int)
  have h6 := len_mul (a.den : Int) b.num
  unfold lq
  omega
theorem lq_sub (a b : Rat) : lq (a - b) ≤ lq a + lq b + lq a + lq b + 1 := by
  rw [Rat.sub_eq_add_neg]
  have := lq_add a (-b)
  rw [lq_neg] at this
  exact this
end Go.Num
namespace Go.Proofs.YtmblfadpimfagaaGreatDoor
open Go Go.Lg Go.Num
set_option maxRecDepth 100000
set_option maxHeartbeats 4000000
attribute [local irreducible] Go.Lg.lrun Go.Lg.lwp Go.Lg.exThen Go.Lg.exBlk Go.Lg.keep Go.Lg.goodPost sg mg bq
theorem num_in {m : Int} (h0 : 0 ≤ m) (h : m ≤ 60) : PureGood Tryz.prog 11 [i64 m] (.tup [encQ (bq m.toNat), i64 0]) := by
  have h1 := number_good m (by omega)
  rwa [encB, bqN, bqD, if_pos (by omega), if_pos (by omega), if_pos (by omega), ← encQ_sm] at h1
theorem lq_small {m : Int} (h0 : 0 ≤ m) (h : m ≤ 100000) : lq (m : Rat) ≤ 2 := by
  rw [lq_int]
  have := len_pow_lt (a := m) (e := 1) (by omega)
  omega
end Go.Proofs.YtmblfadpimfagaaGreatDoor

namespace Go.Proofs.YtmblfadpimfagaaGreatDoor
open Go Go.Lg Go.Num
set_option maxRecDepth 100000
set_option maxHeartbeats 4000000
theorem lenL_mg (s : LS) (z : Int) : lenL s (mg z) = some (digs z.natAbs).length := rfl
attribute [local irreducible] Go.Lg.lrun Go.Lg.lwp Go.Lg.exThen Go.Lg.exBlk Go.Lg.keep Go.Lg.goodPost sg mg bq
theorem sameRats_self (f : List Rat) (hf : ∀ c ∈ f, lq c ≤ 100000) (hl : f.length ≤ 1000000000) : PureGood Tryz.prog 25 [encF f, encF f] (.lit (.bool true)) := by
  rw [encF_qc]
  refine good_of_lwp mix Tryz.func25 rfl (by decide) (nt := 27) rfl (rs := [.tmp 4]) rfl (Nat.le_of_ble_eq_true rfl) ?_
  (repeat (first|apply zO (by decide +kernel)|apply zP (by decide +kernel)|apply zA|apply zB|apply zF|apply zG|apply zH|apply zI|apply zJ|apply zK|apply zL (by decide)|apply zM|apply zN (by decide)|apply zD|apply zC|apply zE|((first|apply l_go rfl|apply c_dec); (case hs => (simp (disch := first|omega|exact kD rfl|exact kX rfl) only [smZ, tyA, simprocAttr, bl, i64, smT]; exact rfl)); first|refine c_bt ?_|refine c_bf ?_|show lrun _ _ _ _ _ _ _ _ _)|(apply l_call rfl (by decide) rfl; (case hc => (simp (disch := first|omega|exact kD rfl|exact kX rfl) only [smZ, tyA, simprocAttr, bl, i64, smT]; exact rfl)); (case hg => assumption))))
  refine w_loop (α := {k : Nat // k ≤ f.length}) (fun k => st 27 (lk [(0, .sl f.length (qc f)), (1, .sl f.length (qc f)), (4, bl false), (5, i64 k.1)]) (lkH []) 0) (fun k => f.length - k.1) ⟨0, by omega⟩ ?_ ?_
  · (refine Sub.plain ?_; simp only [smF, dg, renL, renLs, simprocAttr, bl, i64, smT])
  · rintro ⟨k, hk⟩
    simp only [st]
    by_cases h : k < f.length
    · have hm : lq (f.getD k 0) ≤ 100000 := by
        have : f.getD k 0 = f[k] := by simp [h]
        rw [this]
        exact hf _ (List.getElem_mem _)
      have hs := sameRat_self (f.getD k 0) (by omega)
      generalize hc : f.getD k 0 = c at *
      rw [encQ_sm] at hs
      (repeat (first|apply zO (by decide +kernel)|apply zP (by decide +kernel)|apply zA|apply zB|apply zF|apply zG|apply zH|apply zI|apply zJ|apply zK|apply zL (by decide)|apply zM|apply zN (by decide)|apply zD|apply zC|apply zE|((first|apply l_go rfl|apply c_dec); (case hs => (simp (disch := first|omega|exact kD rfl|exact kX rfl) only [smZ, tyA, simprocAttr, bl, i64, smT, hc]; exact rfl)); first|refine c_bt ?_|refine c_bf ?_|show lrun _ _ _ _ _ _ _ _ _)|(apply l_call rfl (by decide) rfl; (case hc => (simp (disch := first|omega|exact kD rfl|exact kX rfl) only [smZ, tyA, simprocAttr, bl, i64, smT, hc]; exact rfl)); (case hg => assumption))))
      refine ⟨⟨k + 1, by omega⟩, ?_, by simp only; omega⟩
      (refine Sub.plain ?_; simp only [smF, dg, renL, renLs, simprocAttr, bl, i64, smT])
    · obtain rfl : k = f.length := by omega
      (repeat (first|apply zO (by decide +kernel)|apply zP (by decide +kernel)|apply zA|apply zB|apply zF|apply zG|apply zH|apply zI|apply zJ|apply zK|apply zL (by decide)|apply zM|apply zN (by decide)|apply zD|apply zC|apply zE|((first|apply l_go rfl|apply c_dec); (case hs => (simp (disch := first|omega|exact kD rfl|exact kX rfl) only [smZ, tyA, simprocAttr, bl, i64, smT]; exact rfl)); first|refine c_bt ?_|refine c_bf ?_|show lrun _ _ _ _ _ _ _ _ _)|(apply l_call rfl (by decide) rfl; (case hc => (simp (disch := first|omega|exact kD rfl|exact kX rfl) only [smZ, tyA, simprocAttr, bl, i64, smT]; exact rfl)); (case hg => assumption))))
      ((first | apply g_ret | apply g_end); case hres => (simp only [resL, rOs, rO, Option.map_some]; simp (disch := first|omega|exact kD rfl|exact kX rfl) only [smZ, tyA, simprocAttr, bl, i64, smT]; exact rfl))
      simp (disch := first|omega|exact kD rfl|exact kX rfl) only [smZ, tyA, simprocAttr, bl, i64, smT]
/-- The coefficients of the Bernoulli polynomial. -/
def bp (n k : Nat) : List Rat := (List.range k).map fun j => ((ch n j : Int) : Rat) * bq (n - j)
theorem bp_length (n k : Nat) : (bp n k).length = k := by simp [bp]
theorem bp_succ (n k : Nat) : bp n (k + 1) = bp n k ++ [((ch n k : Int) : Rat) * bq (n - k)] := by simp [bp, List.range_succ]
theorem bp_getD {n k j : Nat} (h : j < k) : (bp n k).getD j 0 = ((ch n j : Int) : Rat) * bq (n - j) := by simp [bp, h]
theorem lq_bpc {n : Nat} (hn : n ≤ 60) (j : Nat) : lq (((ch n j : Int) : Rat) * bq (n - j)) ≤ 30 := by
  have c1 := len_ch (show n ≤ 100 by omega) j
  have c3 := lq_bq (n - j)
  have c4 := lq_mul ((ch n j : Int) : Rat) (bq (n - j))
  have c5 := lq_int (ch n j : Int)
  omega
theorem bp_small {n : Nat} (hn : n ≤ 60) (k : Nat) : ∀ c ∈ bp n k, lq c ≤ 30 := by
  intro c hc
  simp only [bp, List.mem_map] at hc
  obtain ⟨j, _, rfl⟩ := hc
  exact lq_bpc hn j
def encPoly (n : Int) : LV := .tup [encF (if 0 ≤ n ∧ n ≤ 40 then bp n.toNat (n.toNat + 1) else []), i64 (if 0 ≤ n ∧ n ≤ 40 then 0 else 2)]
theorem rPolynomial_good (n : Int) (h : -9223372036854775808 ≤ n ∧ n ≤ 9223372036854775807) : PureGood Tryz.prog 24 [i64 n] (encPoly n) := by
  rw [encPoly]
  by_cases hr : 0 ≤ n ∧ n ≤ 40
  · obtain ⟨m, rfl⟩ : ∃ m : Nat, n = m := ⟨n.toNat, by omega⟩
    have hm : m ≤ 40 := by omega
    rw [if_pos hr, if_pos hr, Int.toNat_natCast, encF_qc, bp_length]
    have g1 := rNumbers_good m (by omega)
    have g2 := rRow_good m (by omega)
    have hl := bn_length (m + 1)
    have hl2 := rowP_length m (m + 1)
    rw [encF_qc, bn_length] at g1
    rw [encL, rowP_length] at g2
    simp only [i64] at g1 g2 ⊢
    have step : ∀ k : Nat, k ≤ m → PureGood Tryz.prog 60 [encI (ch m k)] (encQ ((ch m k : Int) : Rat)) ∧ PureGood Tryz.prog 59 [encQ ((ch m k : Int) : Rat), encQ (bq (m - k))] (encQ (((ch m k : Int) : Rat) * bq (m - k))) ∧
        (rowP m (m + 1)).getD k 0 = (ch m k : Int) ∧ (bn (m + 1)).getD (m - k) 0 = bq (m - k) := by
      intro k hk
      have c1 := len_ch (show m ≤ 100 by omega) k
      have c3 := lq_bq (m - k)
      have c5 := lq_int (ch m k : Int)
      exact ⟨rwhole_good (ch m k) (by omega), rqmul_good ((ch m k : Int) : Rat) (bq (m - k)) (by omega) (by omega), rowP_getD (by omega), bn_getD (by omega)⟩
    have b1 : bp m 1 = [((ch m 0 : Int) : Rat) * bq m] := rfl
    obtain ⟨w1, w2, e1, e2⟩ := step 0 (by omega)
    rw [Nat.sub_zero] at w2 e2
    have hs0 : ((m : Int) - 0).toNat = m := by omega
    generalize ((ch m 0 : Int) : Rat) * bq m = c0 at *
    simp only [encI_sm, encQ_sm] at w1 w2
    refine good_of_lwp mix Tryz.func24 rfl (by decide) (nt := 39) rfl (rs := [.tmp 2, .tmp 3]) rfl (Nat.le_of_ble_eq_true rfl) ?_
    (repeat (first|apply zO (by decide +kernel)|apply zP (by decide +kernel)|apply zA|apply zB|apply zF|apply zG|apply zH|apply zI|apply zJ|apply zK|apply zL (by decide)|apply zM|apply zN (by decide)|apply zD|apply zC|apply zE|((first|apply l_go rfl|apply c_dec); (case hs => (simp (disch := first|omega|exact kD rfl|exact kX rfl) only [smZ, tyA, simprocAttr, bl, i64, smT]; exact rfl)); first|refine c_bt ?_|refine c_bf ?_|show lrun _ _ _ _ _ _ _ _ _)|(apply l_call rfl (by decide) rfl; (case hc => (simp (disch := first|omega|exact kD rfl|exact kX rfl) only [smZ, tyA, simprocAttr, bl, i64, smT]; exact rfl)); (case hg => assumption))))
    refine loop_more (s' := ?_) (fun Φ hΦ => ?_) ?_
    rotate_left
    · (repeat (first|apply zO (by decide +kernel)|apply zP (by decide +kernel)|apply zA|apply zB|apply zF|apply zG|apply zH|apply zI|apply zJ|apply zK|apply zL (by decide)|apply zM|apply zN (by decide)|apply zD|apply zC|apply zE|((first|apply l_go rfl|apply c_dec); (case hs => (simp (disch := first|omega|exact kD rfl|exact kX rfl) only [smZ, tyA, simprocAttr, bl, i64, smT, e1, e2, hs0]; exact rfl)); first|refine c_bt ?_|refine c_bf ?_|show lrun _ _ _ _ _ _ _ _ _)|(apply l_call rfl (by decide) rfl; (case hc => (simp (disch := first|omega|exact kD rfl|exact kX rfl) only [smZ, tyA, simprocAttr, bl, i64, smT, e1, e2, hs0]; exact rfl)); (case hg => assumption))))
      exact hΦ
    refine w_loop (α := {k : Nat // 0 < k ∧ k ≤ m + 1}) (fun k => st 39 (lk [(0, i64 m), (2, nilL), (3, i64 0), (4, .sl (m + 1) (qc (bn (m + 1)))), (5, .sl (m + 1) (ic (rowP m (m + 1)))), (6, .own 0 0 k.1 4), (7, i64 k.1)]) (lkH [(0, ⟨27, qc (bp m k.1), false⟩)]) 1) (fun k => m + 1 - k.1) ⟨1, by omega, by omega⟩ ?_ ?_
    · (refine Sub.heap1 33 ?_ (by simp only [smF, dg, renL, renLs, simprocAttr, bl, i64, smT]; exact rfl) ?_ ?_; all_goals (first | exact dgs_plain _ | with_reducible rfl | (simp only [smF, dg, renL, renLs, simprocAttr, bl, i64, smT]; done) | (simp only [smF, dg, renL, renLs, simprocAttr, bl, i64, smT]) | skip))
      rw [b1, ← qc_one]
    · rintro ⟨k, hk0, hk⟩
      simp only [st]
      have hl3 := bp_length m k
      by_cases hlt : k ≤ m
      · obtain ⟨w1, w2, e1, e2⟩ := step k hlt
        have happ := bp_succ m k
        have hsub : ((m : Int) - (k : Int)).toNat = m - k := by omega
        generalize ((ch m k : Int) : Rat) * bq (m - k) = c0 at *
        simp only [encI_sm, encQ_sm] at w1 w2
        (repeat (first|apply zO (by decide +kernel)|apply zP (by decide +kernel)|apply zA|apply zB|apply zF|apply zG|apply zH|apply zI|apply zJ|apply zK|apply zL (by decide)|apply zM|apply zN (by decide)|apply zD|apply zC|apply zE|((first|apply l_go rfl|apply c_dec); (case hs => (simp (disch := first|omega|exact kD rfl|exact kX rfl) only [smZ, tyA, simprocAttr, bl, i64, smT, e1, e2]; exact rfl)); first|refine c_bt ?_|refine c_bf ?_|show lrun _ _ _ _ _ _ _ _ _)|(apply l_call rfl (by decide) rfl; (case hc => (simp (disch := first|omega|exact kD rfl|exact kX rfl) only [smZ, tyA, simprocAttr, bl, i64, smT, e1, e2]; exact rfl)); (case hg => assumption))))
        refine ⟨⟨k + 1, by omega, by omega⟩, ?_, by simp only; omega⟩
        (refine Sub.heap1 18 ?_ (by simp only [smF, dg, renL, renLs, simprocAttr, bl, i64, smT]; exact rfl) ?_ ?_; all_goals (first | exact dgs_plain _ | with_reducible rfl | (simp only [smF, dg, renL, renLs, simprocAttr, bl, i64, smT]; done) | (simp only [smF, dg, renL, renLs, simprocAttr, bl, i64, smT]) | skip))
        rw [happ, ← qc_app]
      · obtain rfl : k = m + 1 := by omega
        (repeat (first|apply zO (by decide +kernel)|apply zP (by decide +kernel)|apply zA|apply zB|apply zF|apply zG|apply zH|apply zI|apply zJ|apply zK|apply zL (by decide)|apply zM|apply zN (by decide)|apply zD|apply zC|apply zE|((first|apply l_go rfl|apply c_dec); (case hs => (simp (disch := first|omega|exact kD rfl|exact kX rfl) only [smZ, tyA, simprocAttr, bl, i64, smT]; exact rfl)); first|refine c_bt ?_|refine c_bf ?_|show lrun _ _ _ _ _ _ _ _ _)|(apply l_call rfl (by decide) rfl; (case hc => (simp (disch := first|omega|exact kD rfl|exact kX rfl) only [smZ, tyA, simprocAttr, bl, i64, smT]; exact rfl)); (case hg => assumption))))
        ((first | apply g_ret | apply g_end); case hres => (simp only [resL, rOs, rO, Option.map_some]; simp (disch := first|omega|exact kD rfl|exact kX rfl) only [smZ, tyA, simprocAttr, bl, i64, smT]; exact rfl))
        simp (disch := first|omega|exact kD rfl|exact kX rfl) only [smZ, tyA, simprocAttr, bl, i64, smT]
  · rw [if_neg hr, if_neg hr]
    rw [i64] at *
    by_cases hneg : n < 0
    · refine good_of_lwp mix Tryz.func24 rfl (by decide) (nt := 39) rfl (rs := [.tmp 2, .tmp 3]) rfl (Nat.le_of_ble_eq_true rfl) ?_
      (repeat (first|apply zO (by decide +kernel)|apply zP (by decide +kernel)|apply zA|apply zB|apply zF|apply zG|apply zH|apply zI|apply zJ|apply zK|apply zL (by decide)|apply zM|apply zN (by decide)|apply zD|apply zC|apply zE|((first|apply l_go rfl|apply c_dec); (case hs => (simp (disch := first|omega|exact kD rfl|exact kX rfl) only [smZ, tyA, simprocAttr, bl, i64, smT]; exact rfl)); first|refine c_bt ?_|refine c_bf ?_|show lrun _ _ _ _ _ _ _ _ _)|(apply l_call rfl (by decide) rfl; (case hc => (simp (disch := first|omega|exact kD rfl|exact kX rfl) only [smZ, tyA, simprocAttr, bl, i64, smT]; exact rfl)); (case hg => assumption))))
      ((first | apply g_ret | apply g_end); case hres => (simp only [resL, rOs, rO, Option.map_some]; simp (disch := first|omega|exact kD rfl|exact kX rfl) only [smZ, tyA, simprocAttr, bl, i64, smT]; exact rfl))
      simp (disch := first|omega|exact kD rfl|exact kX rfl) only [smZ, tyA, simprocAttr, bl, i64, smT]
      rfl
    · have hgt : 40 < n := by omega
      refine good_of_lwp mix Tryz.func24 rfl (by decide) (nt := 39) rfl (rs := [.tmp 2, .tmp 3]) rfl (Nat.le_of_ble_eq_true rfl) ?_
      (repeat (first|apply zO (by decide +kernel)|apply zP (by decide +kernel)|apply zA|apply zB|apply zF|apply zG|apply zH|apply zI|apply zJ|apply zK|apply zL (by decide)|apply zM|apply zN (by decide)|apply zD|apply zC|apply zE|((first|apply l_go rfl|apply c_dec); (case hs => (simp (disch := first|omega|exact kD rfl|exact kX rfl) only [smZ, tyA, simprocAttr, bl, i64, smT]; exact rfl)); first|refine c_bt ?_|refine c_bf ?_|show lrun _ _ _ _ _ _ _ _ _)|(apply l_call rfl (by decide) rfl; (case hc => (simp (disch := first|omega|exact kD rfl|exact kX rfl) only [smZ, tyA, simprocAttr, bl, i64, smT]; exact rfl)); (case hg => assumption))))
      ((first | apply g_ret | apply g_end); case hres => (simp only [resL, rOs, rO, Option.map_some]; simp (disch := first|omega|exact kD rfl|exact kX rfl) only [smZ, tyA, simprocAttr, bl, i64, smT]; exact rfl))
      simp (disch := first|omega|exact kD rfl|exact kX rfl) only [smZ, tyA, simprocAttr, bl, i64, smT]
      rfl
/-- Without zeros at the end. -/
def trimQ (f : List Rat) : List Rat := (f.reverse.dropWhile (· == 0)).reverse
theorem trimQ_snoc_nz (f : List Rat) {c : Rat} (h : c ≠ 0) : trimQ (f ++ [c]) = f ++ [c] := by
  simp [trimQ, h]
theorem trimQ_snoc_z (f : List Rat) : trimQ (f ++ [0]) = trimQ f := by
  simp [trimQ]
theorem trimQ_nil : trimQ [] = [] := rfl
theorem snoc_of {f : List Rat} (h : 0 < f.length) : f = f.take (f.length - 1) ++ [f.getD (f.length - 1) 0] := by
  have h1 : f.getD (f.length - 1) 0 = f[f.length - 1] := by simp [show f.length - 1 < f.length by omega]
  rw [h1, List.take_append_getElem (by omega), show f.length - 1 + 1 = f.length by omega, List.take_length]
theorem num_z (q : Rat) : q.num = 0 ↔ q = 0 := Rat.num_eq_zero
theorem qc_h1 {l : List Rat} {j : Nat} (h : j < l.length) : ((qc l).drop (j * 4 + 1)).head? = some (mg (l.getD j 0).num) := by
  rw [← List.drop_drop, qc_drop, List.drop_eq_getElem_cons h]
  have : l.getD j 0 = l[j] := by simp [h]
  rw [this]
  simp only [qc, List.flatMap_cons, qcells_sm]
  simp
theorem qc_takes (l : List Rat) (k : Nat) : (qc l).take (k * 4) = qc (l.take k) := by
  by_cases h : k ≤ l.length
  · conv => lhs; rw [← List.take_append_drop k l]
    rw [qc, List.flatMap_append]
    rw [List.take_append_of_le_length (by have := qc_len (l.take k); rw [qc] at this; rw [this, List.length_take]; omega), List.take_of_length_le (by have := qc_len (l.take k); rw [qc] at this; rw [this, List.length_take]; omega)]
    rfl
  · rw [List.take_of_length_le (by rw [qc_len]; omega), List.take_of_length_le (by omega)]
theorem qtrim_good (f : List Rat) (hl : f.length ≤ 1000000000) : PureGood Tryz.prog 137 [encF f] (encF (trimQ f)) := by
  rw [encF_qc]
  refine good_of_lwp mix Tryz.func137 rfl (by decide) (nt := 24) rfl (rs := [.tmp 2]) rfl (Nat.le_of_ble_eq_true rfl) ?_
  (repeat (first|apply zO (by decide +kernel)|apply zP (by decide +kernel)|apply zA|apply zB|apply zF|apply zG|apply zH|apply zI|apply zJ|apply zK|apply zL (by decide)|apply zM|apply zN (by decide)|apply zD|apply zC|apply zE|((first|apply l_go rfl|apply c_dec); (case hs => (simp (disch := first|omega|exact kD rfl|exact kX rfl) only [smZ, tyA, simprocAttr, bl, i64, smT]; exact rfl)); first|refine c_bt ?_|refine c_bf ?_|show lrun _ _ _ _ _ _ _ _ _)|(apply l_call rfl (by decide) rfl; (case hc => (simp (disch := first|omega|exact kD rfl|exact kX rfl) only [smZ, tyA, simprocAttr, bl, i64, smT]; exact rfl)); (case hg => assumption))))
  refine w_loop (α := {g : List Rat // trimQ g = trimQ f ∧ g.length ≤ f.length}) (fun g => st 24 (lk [(0, .sl g.1.length (qc g.1)), (2, nilL)]) (lkH []) 0) (fun g => g.1.length) ⟨f, rfl, Nat.le_refl _⟩ ?_ ?_
  · (refine Sub.plain ?_; simp only [smF, dg, renL, renLs, simprocAttr, bl, i64, smT])
  · rintro ⟨g, hg, hgl⟩
    simp only [st]
    by_cases h0 : 0 < g.length
    · have hg' := snoc_of h0
      have hh := qc_h1 (l := g) (j := g.length - 1) (by omega)
      by_cases hz : g.getD (g.length - 1) 0 = 0
      · have hd : (digs 0).length = 0 := by simp [digs_zero]
        rw [hz, show (0 : Rat).num = 0 from rfl] at hh
        (repeat (first|apply zO (by decide +kernel)|apply zP (by decide +kernel)|apply zA|apply zB|apply zF|apply zG|apply zH|apply zI|apply zJ|apply zK|apply zL (by decide)|apply zM|apply zN (by decide)|apply zD|apply zC|apply zE|((first|apply l_go rfl|apply c_dec); (case hs => (simp (disch := first|omega|exact kD rfl|exact kX rfl) only [smZ, tyA, simprocAttr, bl, i64, smT, lenL_mg, hh, Int.natAbs_zero]; exact rfl)); first|refine c_bt ?_|refine c_bf ?_|show lrun _ _ _ _ _ _ _ _ _)|(apply l_call rfl (by decide) rfl; (case hc => (simp (disch := first|omega|exact kD rfl|exact kX rfl) only [smZ, tyA, simprocAttr, bl, i64, smT, lenL_mg, hh, Int.natAbs_zero]; exact rfl)); (case hg => assumption))))
        rw [hz] at hg'
        have hg2 : trimQ (g.take (g.length - 1)) = trimQ f := by rw [← hg, hg', trimQ_snoc_z, ← hg']
        have hgl2 : (g.take (g.length - 1)).length = g.length - 1 := by rw [List.length_take]; omega
        refine ⟨⟨g.take (g.length - 1), hg2, by omega⟩, ?_, by simp only; omega⟩
        simp only [hgl2, ← qc_takes]
        (refine Sub.plain ?_; simp only [smF, dg, renL, renLs, simprocAttr, bl, i64, smT])
      · have hzn : (g.getD (g.length - 1) 0).num ≠ 0 := fun e => hz ((num_z _).1 e)
        have hd : (digs (g.getD (g.length - 1) 0).num.natAbs).length ≠ 0 := fun e => hzn (by have := digs_eq_nil.1 (List.eq_nil_of_length_eq_zero e); omega)
        have hfin : trimQ g = g := by
          conv => lhs; rw [hg']
          rw [trimQ_snoc_nz _ hz, ← hg']
        rw [← hg, hfin, encF_qc]
        generalize (g.getD (g.length - 1) 0).num = z at *
        (repeat (first|apply zO (by decide +kernel)|apply zP (by decide +kernel)|apply zA|apply zB|apply zF|apply zG|apply zH|apply zI|apply zJ|apply zK|apply zL (by decide)|apply zM|apply zN (by decide)|apply zD|apply zC|apply zE|((first|apply l_go rfl|apply c_dec); (case hs => (simp (disch := first|omega|exact kD rfl|exact kX rfl) only [smZ, tyA, simprocAttr, bl, i64, smT, lenL_mg, hh]; exact rfl)); first|refine c_bt ?_|refine c_bf ?_|show lrun _ _ _ _ _ _ _ _ _)|(apply l_call rfl (by decide) rfl; (case hc => (simp (disch := first|omega|exact kD rfl|exact kX rfl) only [smZ, tyA, simprocAttr, bl, i64, smT, lenL_mg, hh]; exact rfl)); (case hg => assumption))))
        ((first | apply g_ret | apply g_end); case hres => (simp only [resL, rOs, rO, Option.map_some]; simp (disch := first|omega|exact kD rfl|exact kX rfl) only [smZ, tyA, simprocAttr, bl, i64, smT]; exact rfl))
        simp (disch := first|omega|exact kD rfl|exact kX rfl) only [smZ, tyA, simprocAttr, bl, i64, smT]
    · have : g = [] := List.length_eq_zero_iff.1 (by omega)
      subst this
      rw [trimQ_nil] at hg
      rw [← hg]
      (repeat (first|apply zO (by decide +kernel)|apply zP (by decide +kernel)|apply zA|apply zB|apply zF|apply zG|apply zH|apply zI|apply zJ|apply zK|apply zL (by decide)|apply zM|apply zN (by decide)|apply zD|apply zC|apply zE|((first|apply l_go rfl|apply c_dec); (case hs => (simp (disch := first|omega|exact kD rfl|exact kX rfl) only [smZ, tyA, simprocAttr, bl, i64, smT]; exact rfl)); first|refine c_bt ?_|refine c_bf ?_|show lrun _ _ _ _ _ _ _ _ _)|(apply l_call rfl (by decide) rfl; (case hc => (simp (disch := first|omega|exact kD rfl|exact kX rfl) only [smZ, tyA, simprocAttr, bl, i64, smT]; exact rfl)); (case hg => assumption))))
      ((first | apply g_ret | apply g_end); case hres => (simp only [resL, rOs, rO, Option.map_some]; simp (disch := first|omega|exact kD rfl|exact kX rfl) only [smZ, tyA, simprocAttr, bl, i64, smT]; exact rfl))
      simp (disch := first|omega|exact kD rfl|exact kX rfl) only [smZ, tyA, simprocAttr, bl, i64, smT]
      rfl
theorem cyc_length (z : List LV) (n : Nat) : (cyc z n).length = n := by simp [cyc]
def z4 : List LV := [bl false, .lit (.slice none 0 0), bl false, .lit (.slice none 0 0)]
/-- The cells of a row of fractions that is filled as far as k. -/
def fillC (f : List Rat) (k : Nat) : List LV := qc (f.take k) ++ (cyc z4 (f.length * 4)).drop (k * 4)
theorem fillC_zero (f : List Rat) : fillC f 0 = cyc z4 (f.length * 4) := by simp [fillC, qc]
theorem fillC_all (f : List Rat) : fillC f f.length = qc f := by
  rw [fillC, List.take_length, List.drop_of_length_le (by rw [cyc_length]; omega), List.append_nil]
theorem fillC_len {f : List Rat} {k : Nat} (h : k ≤ f.length) : (fillC f k).length = f.length * 4 := by
  rw [fillC, List.length_append, qc_len, List.length_take, List.length_drop, cyc_length]
  omega
theorem fillC_step {f : List Rat} {k : Nat} (h : k < f.length) {c : Rat} (hc : f.getD k 0 = c) : (fillC f k).take (k * 4) ++ [sg c.num, mg c.num, sg (c.den : Int), mg (c.den : Int)] ++ (fillC f k).drop (k * 4 + 4) = fillC f (k + 1) := by
  have e1 : (qc (f.take k)).length = k * 4 := by rw [qc_len, List.length_take]; omega
  have e2 : f.take (k + 1) = f.take k ++ [c] := by
    rw [List.take_succ_eq_append_getElem h]
    have : f.getD k 0 = f[k] := by simp [h]
    rw [← this, hc]
  rw [fillC, List.take_append_of_le_length (by omega), List.take_of_length_le (by omega), List.drop_append, List.drop_of_length_le (by omega), e1, List.nil_append, List.drop_drop, fillC, e2, ← qc_app, show k * 4 + 4 - k * 4 = 4 by omega, show k * 4 + 4 = (k + 1) * 4 by omega]
theorem fillC_plain (f : List Rat) (k : Nat) : ∀ c ∈ fillC f k, plainC c = true := by
  intro c hc
  rcases List.mem_append.1 hc with h | h
  · exact qc_all (Q := fun c => plainC c = true) s9 s10 _ c h
  · have h1 := List.mem_of_mem_drop h
    simp only [cyc, List.mem_map, List.mem_range] at h1
    obtain ⟨i, _, rfl⟩ := h1
    have : i % z4.length < 4 := Nat.mod_lt _ (by decide)
    generalize i % z4.length = j at *
    match j, this with
    | 0, _ => rfl
    | 1, _ => rfl
    | 2, _ => rfl
    | 3, _ => rfl
theorem qpnorm_good (f : List Rat) (hl : f.length ≤ 100000000) (hf : ∀ c ∈ f, lq c ≤ 100000) : PureGood Tryz.prog 104 [encF f] (encF (trimQ f)) := by
  have ht := qtrim_good f (by omega)
  rw [encF_qc] at *
  refine good_of_lwp mix Tryz.func104 rfl (by decide) (nt := 24) rfl (rs := [.tmp 2]) rfl (Nat.le_of_ble_eq_true rfl) ?_
  (repeat (first|apply zO (by decide +kernel)|apply zP (by decide +kernel)|apply zA|apply zB|apply zF|apply zG|apply zH|apply zI|apply zJ|apply zK|apply zL (by decide)|apply zM|apply zN (by decide)|apply zD|apply zC|apply zE|((first|apply l_go rfl|apply c_dec); (case hs => (simp (disch := first|omega|exact kD rfl|exact kX rfl) only [smZ, tyA, simprocAttr, bl, i64, smT]; exact rfl)); first|refine c_bt ?_|refine c_bf ?_|show lrun _ _ _ _ _ _ _ _ _)|(apply l_call rfl (by decide) rfl; (case hc => (simp (disch := first|omega|exact kD rfl|exact kX rfl) only [smZ, tyA, simprocAttr, bl, i64, smT]; exact rfl)); (case hg => assumption))))
  refine w_loop (α := {k : Nat // k ≤ f.length}) (fun k => st 24 (lk [(0, .sl f.length (qc f)), (2, nilL), (3, .own 0 0 f.length 4), (9, .sl f.length (qc f)), (10, i64 f.length), (11, i64 k.1)]) (lkH [(0, ⟨27, fillC f k.1, false⟩)]) 1) (fun k => f.length - k.1) ⟨0, by omega⟩ ?_ ?_
  · (refine Sub.heap1 3 ?_ (by simp only [smF, dg, renL, renLs, simprocAttr, bl, i64, smT]; exact rfl) ?_ ?_; all_goals (first | exact dgs_plain _ | with_reducible rfl | (simp only [smF, dg, renL, renLs, simprocAttr, bl, i64, smT]; done) | (simp only [smF, dg, renL, renLs, simprocAttr, bl, i64, smT]) | skip))
    · rw [fillC_zero]; rfl
    · exact fillC_plain _ _
  · rintro ⟨k, hk⟩
    simp only [st]
    by_cases h : k < f.length
    · have hm : lq (f.getD k 0) ≤ 100000 := by
        have : f.getD k 0 = f[k] := by simp [h]
        rw [this]
        exact hf _ (List.getElem_mem _)
      have hn := qnorm_good (f.getD k 0) (by omega)
      have hfl := fillC_len hk
      generalize hc : f.getD k 0 = c at *
      have hst := fillC_step h hc
      rw [encQ_sm] at hn
      generalize fillC f k = L at *
      (repeat (first|apply zO (by decide +kernel)|apply zP (by decide +kernel)|apply zA|apply zB|apply zF|apply zG|apply zH|apply zI|apply zJ|apply zK|apply zL (by decide)|apply zM|apply zN (by decide)|apply zD|apply zC|apply zE|((first|apply l_go rfl|apply c_dec); (case hs => (simp (disch := first|omega|exact kD rfl|exact kX rfl) only [smZ, tyA, simprocAttr, bl, i64, smT, hc]; exact rfl)); first|refine c_bt ?_|refine c_bf ?_|show lrun _ _ _ _ _ _ _ _ _)|(apply l_call rfl (by decide) rfl; (case hc => (simp (disch := first|omega|exact kD rfl|exact kX rfl) only [smZ, tyA, simprocAttr, bl, i64, smT, hc]; exact rfl)); (case hg => assumption))))
      refine ⟨⟨k + 1, by omega⟩, ?_, by simp only; omega⟩
      (refine Sub.heap1 0 ?_ (by simp only [smF, dg, renL, renLs, simprocAttr, bl, i64, smT]; exact rfl) ?_ ?_; all_goals (first | exact dgs_plain _ | with_reducible rfl | (simp only [smF, dg, renL, renLs, simprocAttr, bl, i64, smT]; done) | (simp only [smF, dg, renL, renLs, simprocAttr, bl, i64, smT]) | skip))
      · exact hst
      · exact fillC_plain _ _
    · obtain rfl : k = f.length := by omega
      rw [fillC_all]
      (repeat (first|apply zO (by decide +kernel)|apply zP (by decide +kernel)|apply zA|apply zB|apply zF|apply zG|apply zH|apply zI|apply zJ|apply zK|apply zL (by decide)|apply zM|apply zN (by decide)|apply zD|apply zC|apply zE|((first|apply l_go rfl|apply c_dec); (case hs => (simp (disch := first|omega|exact kD rfl|exact kX rfl) only [smZ, tyA, simprocAttr, bl, i64, smT]; exact rfl)); first|refine c_bt ?_|refine c_bf ?_|show lrun _ _ _ _ _ _ _ _ _)|(apply l_call rfl (by decide) rfl; (case hc => (simp (disch := first|omega|exact kD rfl|exact kX rfl) only [smZ, tyA, simprocAttr, bl, i64, smT]; exact rfl)); (case hg => assumption))))
      ((first | apply g_ret | apply g_end); case hres => (simp only [resL, rOs, rO, Option.map_some]; simp (disch := first|omega|exact kD rfl|exact kX rfl) only [smZ, tyA, simprocAttr, bl, i64, smT]; exact rfl))
      simp (disch := first|omega|exact kD rfl|exact kX rfl) only [smZ, tyA, simprocAttr, bl, i64, smT]
      rfl
theorem bq_zero_one : bq 0 = 1 := bq0
theorem bp_trim (m : Nat) : trimQ (bp m (m + 1)) = bp m (m + 1) := by
  rw [bp_succ, trimQ_snoc_nz]
  rw [Nat.sub_self, ch_self, bq0]
  decide +kernel
theorem polynomial_good (m : Nat) (hm : m ≤ 60) : PureGood Tryz.prog 57 [i64 m] (encF (bp m (m + 1))) := by
  have hn := qpnorm_good (bp m (m + 1)) (by rw [bp_length]; omega) (fun c hc => by have := bp_small hm (m + 1) c hc; omega)
  rw [bp_trim, encF_qc, bp_length] at hn
  rw [encF_qc, bp_length]
  have g1 := numbers_good m (by omega)
  have g2 := row_good m (by omega)
  have hl := bn_length (m + 1)
  have hl2 := rowP_length m (m + 1)
  rw [encF_qc, bn_length] at g1
  rw [encL, rowP_length] at g2
  simp only [i64] at g1 g2 ⊢
  have step : ∀ k : Nat, k ≤ m → PureGood Tryz.prog 35 [encI (ch m k)] (encQ ((ch m k : Int) : Rat)) ∧ PureGood Tryz.prog 30 [encQ ((ch m k : Int) : Rat), encQ (bq (m - k))] (encQ (((ch m k : Int) : Rat) * bq (m - k))) ∧
      (rowP m (m + 1)).getD k 0 = (ch m k : Int) ∧ (bn (m + 1)).getD (m - k) 0 = bq (m - k) := by
    intro k hk
    have c1 := len_ch (show m ≤ 100 by omega) k
    have c3 := lq_bq (m - k)
    have c5 := lq_int (ch m k : Int)
    exact ⟨whole_good (ch m k) (by omega), qmul_good ((ch m k : Int) : Rat) (bq (m - k)) (by omega) (by omega), rowP_getD (by omega), bn_getD (by omega)⟩
  have b1 : bp m 1 = [((ch m 0 : Int) : Rat) * bq m] := rfl
  obtain ⟨w1, w2, e1, e2⟩ := step 0 (by omega)
  rw [Nat.sub_zero] at w2 e2
  have hs0 : ((m : Int) - 0).toNat = m := by omega
  generalize ((ch m 0 : Int) : Rat) * bq m = c0 at *
  simp only [encI_sm, encQ_sm] at w1 w2
  refine good_of_lwp mix Tryz.func57 rfl (by decide) (nt := 33) rfl (rs := [.tmp 2]) rfl (Nat.le_of_ble_eq_true rfl) ?_
  (repeat (first|apply zO (by decide +kernel)|apply zP (by decide +kernel)|apply zA|apply zB|apply zF|apply zG|apply zH|apply zI|apply zJ|apply zK|apply zL (by decide)|apply zM|apply zN (by decide)|apply zD|apply zC|apply zE|((first|apply l_go rfl|apply c_dec); (case hs => (simp (disch := first|omega|exact kD rfl|exact kX rfl) only [smZ, tyA, simprocAttr, bl, i64, smT]; exact rfl)); first|refine c_bt ?_|refine c_bf ?_|show lrun _ _ _ _ _ _ _ _ _)|(apply l_call rfl (by decide) rfl; (case hc => (simp (disch := first|omega|exact kD rfl|exact kX rfl) only [smZ, tyA, simprocAttr, bl, i64, smT]; exact rfl)); (case hg => assumption))))
  refine loop_more (s' := ?_) (fun Φ hΦ => ?_) ?_
  rotate_left
  · (repeat (first|apply zO (by decide +kernel)|apply zP (by decide +kernel)|apply zA|apply zB|apply zF|apply zG|apply zH|apply zI|apply zJ|apply zK|apply zL (by decide)|apply zM|apply zN (by decide)|apply zD|apply zC|apply zE|((first|apply l_go rfl|apply c_dec); (case hs => (simp (disch := first|omega|exact kD rfl|exact kX rfl) only [smZ, tyA, simprocAttr, bl, i64, smT, e1, e2, hs0]; exact rfl)); first|refine c_bt ?_|refine c_bf ?_|show lrun _ _ _ _ _ _ _ _ _)|(apply l_call rfl (by decide) rfl; (case hc => (simp (disch := first|omega|exact kD rfl|exact kX rfl) only [smZ, tyA, simprocAttr, bl, i64, smT, e1, e2, hs0]; exact rfl)); (case hg => assumption))))
    exact hΦ
  refine w_loop (α := {k : Nat // 0 < k ∧ k ≤ m + 1}) (fun k => st 33 (lk [(0, i64 m), (2, nilL), (3, .sl (m + 1) (qc (bn (m + 1)))), (4, .sl (m + 1) (ic (rowP m (m + 1)))), (5, .own 0 0 k.1 4), (6, i64 k.1)]) (lkH [(0, ⟨27, qc (bp m k.1), false⟩)]) 1) (fun k => m + 1 - k.1) ⟨1, by omega, by omega⟩ ?_ ?_
  · (refine Sub.heap1 26 ?_ (by simp only [smF, dg, renL, renLs, simprocAttr, bl, i64, smT]; exact rfl) ?_ ?_; all_goals (first | exact dgs_plain _ | with_reducible rfl | (simp only [smF, dg, renL, renLs, simprocAttr, bl, i64, smT]; done) | (simp only [smF, dg, renL, renLs, simprocAttr, bl, i64, smT]) | skip))
    rw [b1, ← qc_one]
  · rintro ⟨k, hk0, hk⟩
    simp only [st]
    have hl3 := bp_length m k
    by_cases hlt : k ≤ m
    · obtain ⟨w1, w2, e1, e2⟩ := step k hlt
      have happ := bp_succ m k
      have hsub : ((m : Int) - (k : Int)).toNat = m - k := by omega
      generalize ((ch m k : Int) : Rat) * bq (m - k) = c0 at *
      simp only [encI_sm, encQ_sm] at w1 w2
      (repeat (first|apply zO (by decide +kernel)|apply zP (by decide +kernel)|apply zA|apply zB|apply zF|apply zG|apply zH|apply zI|apply zJ|apply zK|apply zL (by decide)|apply zM|apply zN (by decide)|apply zD|apply zC|apply zE|((first|apply l_go rfl|apply c_dec); (case hs => (simp (disch := first|omega|exact kD rfl|exact kX rfl) only [smZ, tyA, simprocAttr, bl, i64, smT, e1, e2]; exact rfl)); first|refine c_bt ?_|refine c_bf ?_|show lrun _ _ _ _ _ _ _ _ _)|(apply l_call rfl (by decide) rfl; (case hc => (simp (disch := first|omega|exact kD rfl|exact kX rfl) only [smZ, tyA, simprocAttr, bl, i64, smT, e1, e2]; exact rfl)); (case hg => assumption))))
      refine ⟨⟨k + 1, by omega, by omega⟩, ?_, by simp only; omega⟩
      (refine Sub.heap1 18 ?_ (by simp only [smF, dg, renL, renLs, simprocAttr, bl, i64, smT]; exact rfl) ?_ ?_; all_goals (first | exact dgs_plain _ | with_reducible rfl | (simp only [smF, dg, renL, renLs, simprocAttr, bl, i64, smT]; done) | (simp only [smF, dg, renL, renLs, simprocAttr, bl, i64, smT]) | skip))
      rw [happ, ← qc_app]
    · obtain rfl : k = m + 1 := by omega
      (repeat (first|apply zO (by decide +kernel)|apply zP (by decide +kernel)|apply zA|apply zB|apply zF|apply zG|apply zH|apply zI|apply zJ|apply zK|apply zL (by decide)|apply zM|apply zN (by decide)|apply zD|apply zC|apply zE|((first|apply l_go rfl|apply c_dec); (case hs => (simp (disch := first|omega|exact kD rfl|exact kX rfl) only [smZ, tyA, simprocAttr, bl, i64, smT]; exact rfl)); first|refine c_bt ?_|refine c_bf ?_|show lrun _ _ _ _ _ _ _ _ _)|(apply l_call rfl (by decide) rfl; (case hc => (simp (disch := first|omega|exact kD rfl|exact kX rfl) only [smZ, tyA, simprocAttr, bl, i64, smT]; exact rfl)); (case hg => assumption))))
      ((first | apply g_ret | apply g_end); case hres => (simp only [resL, rOs, rO, Option.map_some]; simp (disch := first|omega|exact kD rfl|exact kX rfl) only [smZ, tyA, simprocAttr, bl, i64, smT]; exact rfl))
      simp (disch := first|omega|exact kD rfl|exact kX rfl) only [smZ, tyA, simprocAttr, bl, i64, smT]
theorem Polynomial_good (n : Int) (h : -9223372036854775808 ≤ n ∧ n ≤ 9223372036854775807) : PureGood Tryz.prog 23 [i64 n] (encPoly n) := by
  rw [encPoly]
  by_cases hr : 0 ≤ n ∧ n ≤ 40
  · obtain ⟨m, rfl⟩ : ∃ m : Nat, n = m := ⟨n.toNat, by omega⟩
    rw [if_pos hr, if_pos hr, Int.toNat_natCast, encF_qc, bp_length]
    have g1 := polynomial_good m (by omega)
    rw [encF_qc, bp_length] at g1
    simp only [i64] at *
    refine good_of_lwp mix Tryz.func23 rfl (by decide) (nt := 12) rfl (rs := [.tmp 2, .tmp 3]) rfl (Nat.le_of_ble_eq_true rfl) ?_
    (repeat (first|apply zO (by decide +kernel)|apply zP (by decide +kernel)|apply zA|apply zB|apply zF|apply zG|apply zH|apply zI|apply zJ|apply zK|apply zL (by decide)|apply zM|apply zN (by decide)|apply zD|apply zC|apply zE|((first|apply l_go rfl|apply c_dec); (case hs => (simp (disch := first|omega|exact kD rfl|exact kX rfl) only [smZ, tyA, simprocAttr, bl, i64, smT]; exact rfl)); first|refine c_bt ?_|refine c_bf ?_|show lrun _ _ _ _ _ _ _ _ _)|(apply l_call rfl (by decide) rfl; (case hc => (simp (disch := first|omega|exact kD rfl|exact kX rfl) only [smZ, tyA, simprocAttr, bl, i64, smT]; exact rfl)); (case hg => assumption))))
    ((first | apply g_ret | apply g_end); case hres => (simp only [resL, rOs, rO, Option.map_some]; simp (disch := first|omega|exact kD rfl|exact kX rfl) only [smZ, tyA, simprocAttr, bl, i64, smT]; exact rfl))
    simp (disch := first|omega|exact kD rfl|exact kX rfl) only [smZ, tyA, simprocAttr, bl, i64, smT]
  · rw [if_neg hr, if_neg hr]
    rw [i64] at *
    by_cases hneg : n < 0
    · refine good_of_lwp mix Tryz.func23 rfl (by decide) (nt := 12) rfl (rs := [.tmp 2, .tmp 3]) rfl (Nat.le_of_ble_eq_true rfl) ?_
      (repeat (first|apply zO (by decide +kernel)|apply zP (by decide +kernel)|apply zA|apply zB|apply zF|apply zG|apply zH|apply zI|apply zJ|apply zK|apply zL (by decide)|apply zM|apply zN (by decide)|apply zD|apply zC|apply zE|((first|apply l_go rfl|apply c_dec); (case hs => (simp (disch := first|omega|exact kD rfl|exact kX rfl) only [smZ, tyA, simprocAttr, bl, i64, smT]; exact rfl)); first|refine c_bt ?_|refine c_bf ?_|show lrun _ _ _ _ _ _ _ _ _)|(apply l_call rfl (by decide) rfl; (case hc => (simp (disch := first|omega|exact kD rfl|exact kX rfl) only [smZ, tyA, simprocAttr, bl, i64, smT]; exact rfl)); (case hg => assumption))))
      ((first | apply g_ret | apply g_end); case hres => (simp only [resL, rOs, rO, Option.map_some]; simp (disch := first|omega|exact kD rfl|exact kX rfl) only [smZ, tyA, simprocAttr, bl, i64, smT]; exact rfl))
      simp (disch := first|omega|exact kD rfl|exact kX rfl) only [smZ, tyA, simprocAttr, bl, i64, smT]
      rfl
    · have hgt : 40 < n := by omega
      refine good_of_lwp mix Tryz.func23 rfl (by decide) (nt := 12) rfl (rs := [.tmp 2, .tmp 3]) rfl (Nat.le_of_ble_eq_true rfl) ?_
      (repeat (first|apply zO (by decide +kernel)|apply zP (by decide +kernel)|apply zA|apply zB|apply zF|apply zG|apply zH|apply zI|apply zJ|apply zK|apply zL (by decide)|apply zM|apply zN (by decide)|apply zD|apply zC|apply zE|((first|apply l_go rfl|apply c_dec); (case hs => (simp (disch := first|omega|exact kD rfl|exact kX rfl) only [smZ, tyA, simprocAttr, bl, i64, smT]; exact rfl)); first|refine c_bt ?_|refine c_bf ?_|show lrun _ _ _ _ _ _ _ _ _)|(apply l_call rfl (by decide) rfl; (case hc => (simp (disch := first|omega|exact kD rfl|exact kX rfl) only [smZ, tyA, simprocAttr, bl, i64, smT]; exact rfl)); (case hg => assumption))))
      ((first | apply g_ret | apply g_end); case hres => (simp only [resL, rOs, rO, Option.map_some]; simp (disch := first|omega|exact kD rfl|exact kX rfl) only [smZ, tyA, simprocAttr, bl, i64, smT]; exact rfl))
      simp (disch := first|omega|exact kD rfl|exact kX rfl) only [smZ, tyA, simprocAttr, bl, i64, smT]
      rfl
theorem lawPolynomials_good (n : Int) (h : -9223372036854775808 ≤ n ∧ n ≤ 9223372036854775807) : PureGood Tryz.prog 6 [i64 n] (.lit (.bool true)) := by
  have h0 := awake_good
  have h1 := Polynomial_good n h
  have h2 := rPolynomial_good n h
  have h3 : PureGood Tryz.prog 25 [encF (if 0 ≤ n ∧ n ≤ 40 then bp n.toNat (n.toNat + 1) else []), encF (if 0 ≤ n ∧ n ≤ 40 then bp n.toNat (n.toNat + 1) else [])] (.lit (.bool true)) := by
    split
    · refine sameRats_self _ (fun c hc => ?_) ?_
      · have := bp_small (n := n.toNat) (by omega) _ c hc
        omega
      · rw [bp_length]; omega
    · exact sameRats_self [] (by simp) (by simp)
  rw [encPoly] at h1 h2
  generalize (if 0 ≤ n ∧ n ≤ 40 then bp n.toNat (n.toNat + 1) else []) = f at *
  generalize (if 0 ≤ n ∧ n ≤ 40 then 0 else 2 : Int) = e at *
  simp only [encF_qc, i64] at *
  refine good_of_lwp mix Tryz.func6 rfl (by decide) (nt := 27) rfl (rs := [.tmp 2]) rfl (Nat.le_of_ble_eq_true rfl) ?_
  (repeat (first|apply zO (by decide +kernel)|apply zP (by decide +kernel)|apply zA|apply zB|apply zF|apply zG|apply zH|apply zI|apply zJ|apply zK|apply zL (by decide)|apply zM|apply zN (by decide)|apply zD|apply zC|apply zE|((first|apply l_go rfl|apply c_dec); (case hs => (simp (disch := first|omega|exact kD rfl|exact kX rfl) only [smZ, tyA, simprocAttr, bl, i64, smT]; exact rfl)); first|refine c_bt ?_|refine c_bf ?_|show lrun _ _ _ _ _ _ _ _ _)|(apply l_call rfl (by decide) rfl; (case hc => (simp (disch := first|omega|exact kD rfl|exact kX rfl) only [smZ, tyA, simprocAttr, bl, i64, smT]; exact rfl)); (case hg => assumption))))
  ((first | apply g_ret | apply g_end); case hres => (simp only [resL, rOs, rO, Option.map_some]; simp (disch := first|omega|exact kD rfl|exact kX rfl) only [smZ, tyA, simprocAttr, bl, i64, smT]; exact rfl))
  simp (disch := first|omega|exact kD rfl|exact kX rfl) only [smZ, tyA, simprocAttr, bl, i64, smT]
end Go.Proofs.YtmblfadpimfagaaGreatDoor

namespace Go.Proofs.YtmblfadpimfagaaGreatDoor
open Go Go.Lg Go.Num
set_option maxRecDepth 100000
set_option maxHeartbeats 4000000
attribute [local irreducible] Go.Lg.lrun Go.Lg.lwp Go.Lg.exThen Go.Lg.exBlk Go.Lg.keep Go.Lg.goodPost sg mg bq
theorem frac_good (n d : Int) (hn : -4294967296 ≤ n ∧ n ≤ 4294967296) (hd : 1 ≤ d ∧ d ≤ 4294967296) : PureGood Tryz.prog 26 [i64 n, i64 d] (encQ (Rat.divInt n d)) := by
  have hp := divInt_parts (n := n) (d := d) (by omega)
  rw [if_neg (by omega)] at hp
  have hg0 : Int.gcd n d ≠ 0 := fun e => by have := (Int.gcd_eq_zero_iff.1 e).2; omega
  have hgn : ((Int.gcd n d : Nat) : Int) ∣ n := Int.gcd_dvd_left ..
  have hG : Int.gcd n d = Nat.gcd n.natAbs d.natAbs := rfl
  have hdn : (d.natAbs : Int) = d := by omega
  rw [encQ_sm, hp.1, hp.2, hdn]
  clear hp
  have hq1 := Int.natAbs_ediv_le_natAbs n ((Int.gcd n d : Nat) : Int)
  have hq2 := Int.natAbs_ediv_le_natAbs d ((Int.gcd n d : Nat) : Int)
  have z1 := baseZ_good (n / ((Int.gcd n d : Nat) : Int)) (by omega)
  have z2 := baseZ_good (d / ((Int.gcd n d : Nat) : Int)) (by omega)
  have ht : n.tdiv ((Int.gcd n d : Nat) : Int) = n / ((Int.gcd n d : Nat) : Int) := Int.tdiv_eq_ediv_of_dvd hgn
  rw [hG] at hgn hq1 hq2 z1 z2 ht ⊢
  rw [hG] at hg0
  obtain ⟨m, hm⟩ : ∃ m : Nat, d = m := ⟨d.toNat, by omega⟩
  subst hm
  rw [Int.natAbs_natCast] at hq2 z1 z2 ht hg0 ⊢
  have hmx : (if 0 - n > n then 0 - n else n) = (n.natAbs : Int) := by split <;> omega
  rw [Int.natAbs_natCast] at hgn hq1 hG
  generalize hgg : Nat.gcd n.natAbs m = g at *
  simp only [encI_sm, i64] at *
  refine good_of_lwp mix Tryz.func26 rfl (by decide) (nt := 33) rfl (rs := [.cell 4 27]) rfl (Nat.le_of_ble_eq_true rfl) ?_
  (repeat (first|apply zO (by decide +kernel)|apply zP (by decide +kernel)|((fail_if_success refine is_bl ?_); apply zA)|apply zB|apply zF|apply zG|apply zH|apply zI|apply zJ|apply zK|apply zL (by decide)|apply zM|apply zN (by decide)|apply zD|apply zC|apply zE|((first|apply l_go rfl|apply c_dec); (case hs => (simp (disch := first|omega|exact kD rfl|exact kX rfl) only [smZ, tyA, simprocAttr, bl, i64, smS, hmx]; exact rfl)); first|refine c_bt ?_|refine c_bf ?_|show lrun _ _ _ _ _ _ _ _ _)))
  apply w_seq
  apply w_block
  refine w_loop (α := {p : Nat × Nat // Nat.gcd p.1 p.2 = g ∧ p.1 ≤ 4294967296 ∧ p.2 ≤ 4294967296}) (fun p => st 33 (lk [(0, i64 n), (1, i64 m), (4, .ptr 0 0), (5, i64 p.1.1), (6, i64 p.1.2)]) (lkH [(0, ⟨27, [bl false, .lit (.slice none 0 0), bl false, .lit (.slice none 0 0)], false⟩)]) 1) (fun p => p.1.2) ⟨(n.natAbs, m), hgg, by simp only; omega, by simp only; omega⟩ ?_ ?_
  · (refine Sub.heapL [0] rfl (by decide) ?_ (by simp only [List.forall_mem_cons, List.not_mem_nil, false_imp_iff, implies_true, and_true]; decide) ?_ ?_; all_goals (first | (simp only [plainC, smF, dg, renL, renLs, simprocAttr, bl, i64, smS]; done) | (simp only [smF, dg, renL, renLs, simprocAttr, bl, i64, smS]) | skip))
  · rintro ⟨⟨x, y⟩, hg, hx, hy⟩
    simp only at hg hx hy
    simp only [st]
    by_cases hy0 : y = 0
    · subst hy0
      rw [Nat.gcd_zero_right] at hg
      subst hg
      have hx0 : ¬ (x : Int) = 0 := by omega
      (repeat (first|apply zO (by decide +kernel)|apply zP (by decide +kernel)|apply zA|apply zB|apply zF|apply zG|apply zH|apply zI|apply zJ|apply zK|apply zL (by decide)|apply zM|apply zN (by decide)|apply zD|apply zC|apply zE|((first|apply l_go rfl|apply c_dec); (case hs => (simp (disch := first|omega|exact kD rfl|exact kX rfl) only [smZ, tyA, simprocAttr, bl, i64, smS, ht]; exact rfl)); first|refine c_bt ?_|refine c_bf ?_|show lrun _ _ _ _ _ _ _ _ _)|(apply l_call rfl (by decide) rfl; (case hc => (simp (disch := first|omega|exact kD rfl|exact kX rfl) only [smZ, tyA, simprocAttr, bl, i64, smS, ht]; exact rfl)); (case hg => assumption))))
      ((first | apply g_ret | apply g_end); case hres => (simp only [resL, rOs, rO, Option.map_some]; simp (disch := first|omega|exact kD rfl|exact kX rfl) only [smZ, tyA, simprocAttr, bl, i64, smS, ht]; exact rfl))
      simp (disch := first|omega|exact kD rfl|exact kX rfl) only [smZ, tyA, simprocAttr, bl, i64, smS, ht]
    · have hmod : x % y < y := Nat.mod_lt _ (by omega)
      have hy1 : ¬ (y : Int) = 0 := by omega
      (repeat (first|apply zO (by decide +kernel)|apply zP (by decide +kernel)|apply zA|apply zB|apply zF|apply zG|apply zH|apply zI|apply zJ|apply zK|apply zL (by decide)|apply zM|apply zN (by decide)|apply zD|apply zC|apply zE|((first|apply l_go rfl|apply c_dec); (case hs => (simp (disch := first|omega|exact kD rfl|exact kX rfl) only [smZ, tyA, simprocAttr, bl, i64, smS]; exact rfl)); first|refine c_bt ?_|refine c_bf ?_|show lrun _ _ _ _ _ _ _ _ _)|(apply l_call rfl (by decide) rfl; (case hc => (simp (disch := first|omega|exact kD rfl|exact kX rfl) only [smZ, tyA, simprocAttr, bl, i64, smS]; exact rfl)); (case hg => assumption))))
      refine ⟨⟨(y, x % y), ?_, hy, by simp only; omega⟩, ?_, hmod⟩
      · simp only
        rw [← hg, Nat.gcd_comm x y, Nat.gcd_rec y x, Nat.gcd_comm]
      · (refine Sub.heapL [0] rfl (by decide) ?_ (by simp only [List.forall_mem_cons, List.not_mem_nil, false_imp_iff, implies_true, and_true]; decide) ?_ ?_; all_goals (first | (simp only [plainC, smF, dg, renL, renLs, simprocAttr, bl, i64, smS]; done) | (simp only [smF, dg, renL, renLs, simprocAttr, bl, i64, smS]) | skip))
end Go.Proofs.YtmblfadpimfagaaGreatDoor

namespace Go.Num
/-- Horner's rule, the leading coefficient first; with fractions, with integers. -/
def horQ (f : List Rat) (x : Rat) : Rat := f.foldr (fun c acc => acc * x + c) 0
def horI (f : List Int) (x : Rat) : Rat := f.foldr (fun (c : Int) (acc : Rat) => acc * x + (c : Rat)) 0
theorem horI_nil (x : Rat) : horI [] x = 0 := rfl
theorem horI_cons (c : Int) (f : List Int) (x : Rat) : horI (c :: f) x = horI f x * x + (c : Rat) := rfl
theorem horQ_scale (L : Int) (x : Rat) : ∀ l : List Int, horQ (l.map fun u => Rat.divInt u L) x = horI l x * (L : Rat)⁻¹
  | [] => by
    show (0 : Rat) = 0 * _
    rw [Rat.zero_mul]
  | u :: l => by
    show horQ (l.map fun u => Rat.divInt u L) x * x + Rat.divInt u L = _
    rw [horQ_scale L x l, horI_cons, Rat.divInt_eq_div, Rat.div_def]
    generalize (L : Rat)⁻¹ = s
    grind
def addL : List Int → List Int → List Int
  | [], b => b
  | a, [] => a
  | x :: a, y :: b => (x + y) :: addL a b
theorem horI_add (x : Rat) : ∀ a b : List Int, horI (addL a b) x = horI a x + horI b x
  | [], b => by rw [addL, horI_nil, Rat.zero_add]
  | c :: a, [] => by rw [addL, horI_nil, Rat.add_zero]; simp
  | c :: a, d :: b => by
    rw [addL, horI_cons, horI_cons, horI_cons, horI_add x a b, Rat.intCast_add]
    grind
def negL (l : List Int) : List Int := l.map fun u => -u
theorem horI_neg (x : Rat) : ∀ l : List Int, horI (negL l) x = -horI l x
  | [] => by show (0 : Rat) = -0; rw [Rat.neg_zero]
  | c :: l => by
    show horI (negL l) x * x + ((-c : Int) : Rat) = _
    rw [horI_neg x l, horI_cons, Rat.intCast_neg]
    grind
theorem horI_zero_cons (f : List Int) (x : Rat) : horI (0 :: f) x = horI f x * x := by
  rw [horI_cons]
  show _ + (0 : Rat) = _
  rw [Rat.add_zero]
theorem horI_one (c : Int) (x : Rat) : horI [c] x = (c : Rat) := by
  rw [horI_cons, horI_nil, Rat.zero_mul, Rat.zero_add]
/-- f(x + 1) and f(1 - x). -/
def shiftL : List Int → List Int
  | [] => []
  | c :: f => addL [c] (addL (0 :: shiftL f) (shiftL f))
def reflL : List Int → List Int
  | [] => []
  | c :: f => addL [c] (addL (reflL f) (negL (0 :: reflL f)))
theorem horI_shift (x : Rat) : ∀ f : List Int, horI (shiftL f) x = horI f (x + 1)
  | [] => rfl
  | c :: f => by
    rw [shiftL, horI_add, horI_add, horI_one, horI_zero_cons, horI_shift x f, horI_cons]
    grind
theorem horI_refl (x : Rat) : ∀ f : List Int, horI (reflL f) x = horI f (1 - x)
  | [] => rfl
  | c :: f => by
    rw [reflL, horI_add, horI_add, horI_one, horI_neg, horI_zero_cons, horI_refl x f, horI_cons]
    grind
theorem horI_mono (c : Int) (x : Rat) : ∀ k : Nat, horI (List.replicate k 0 ++ [c]) x = (c : Rat) * x ^ k
  | 0 => by rw [List.replicate_zero, List.nil_append, horI_one, Rat.pow_zero, Rat.mul_one]
  | k + 1 => by
    rw [List.replicate_succ, List.cons_append, horI_zero_cons, horI_mono c x k, Rat.pow_succ]
    grind
/-- The coefficients of the Bernoulli polynomial, times the common denominator. -/
def ipB (n : Nat) : List Int := List.zipWith (fun (c : Nat) (u : Int) => (c : Int) * u) (prow n) (bU.take (n + 1)).reverse
theorem prow_length (n : Nat) : (prow n).length = n + 1 := by
  have h1 := prow_get n n
  have h2 := prow_get n (n + 1)
  rw [if_pos (Nat.le_refl _)] at h1
  rw [if_neg (by omega)] at h2
  obtain ⟨h3, _⟩ := List.getElem?_eq_some_iff.1 h1
  have := List.getElem?_eq_none_iff.1 h2
  omega
def bpL (n : Nat) : List Rat := (List.range (n + 1)).map fun j => ((ch n j : Int) : Rat) * bq (n - j)
theorem bpL_eq {n : Nat} (hn : n ≤ 60) : bpL n = (ipB n).map fun u => Rat.divInt u bL := by
  have hU : bU.length = 61 := rfl
  apply List.ext_getElem?
  intro j
  rw [bpL, List.getElem?_map, List.getElem?_map, ipB, List.getElem?_zipWith, prow_get]
  by_cases hj : j ≤ n
  · rw [if_pos hj, List.getElem?_range (by omega), List.getElem?_reverse (by rw [List.length_take, hU]; omega), List.length_take, hU, Nat.min_eq_left (by omega), List.getElem?_take, if_pos (by omega)]
    have e : bU[n + 1 - 1 - j]? = some (bU.getD (n - j) 0) := by
      rw [show n + 1 - 1 - j = n - j by omega]
      simp [show n - j < bU.length by omega]
    rw [e]
    simp only [Option.map_some]
    congr 1
    rw [bq, Rat.divInt_eq_div, Rat.divInt_eq_div, Rat.intCast_mul, Rat.div_def, Rat.div_def, Rat.mul_assoc]
  · rw [if_neg hj, List.getElem?_eq_none (by simp; omega)]
    rfl
def chkD (n : Nat) : Bool := decide (shiftL (ipB n) = addL (ipB n) (match n with
  | 0 => []
  | k + 1 => List.replicate k 0 ++ [((k + 1 : Nat) : Int) * bL]))
def chkR (n : Nat) : Bool := decide (reflL (ipB n) = if n % 2 = 0 then ipB n else negL (ipB n))
theorem chkD_all : ((List.range 42).all chkD) = true := by decide +kernel
theorem chkR_all : ((List.range 42).all chkR) = true := by decide +kernel
end Go.Num

namespace Go.Num
theorem bLq_ne : (bL : Rat) ≠ 0 := by decide
theorem horI_diff {n : Nat} (hn : n ≤ 41) (x : Rat) : horI (ipB n) (x + 1) = horI (ipB n) x + (match n with
    | 0 => 0
    | k + 1 => ((k + 1 : Nat) : Rat) * (bL : Rat) * x ^ k) := by
  have h := List.all_eq_true.1 chkD_all n (List.mem_range.2 (by omega))
  unfold chkD at h
  rw [← horI_shift, of_decide_eq_true h, horI_add]
  congr 1
  cases n with
  | zero => rfl
  | succ k =>
    show horI (List.replicate k 0 ++ [((k + 1 : Nat) : Int) * bL]) x = _
    rw [horI_mono, Rat.intCast_mul]
    rfl
theorem bp_diff {n : Nat} (hn : n ≤ 41) (x : Rat) : horQ (bpL n) (x + 1) - horQ (bpL n) x = match n with
    | 0 => 0
    | k + 1 => x ^ k * ((k + 1 : Nat) : Rat) := by
  rw [bpL_eq (by omega), horQ_scale, horQ_scale, horI_diff hn]
  have h2 : (bL : Rat) * (bL : Rat)⁻¹ = 1 := Rat.mul_inv_cancel _ bLq_ne
  generalize (bL : Rat)⁻¹ = s at *
  generalize (bL : Rat) = L at *
  generalize horI (ipB n) x = h
  cases n with
  | zero =>
    show (h + 0) * s - h * s = 0
    grind
  | succ k =>
    show (h + ((k + 1 : Nat) : Rat) * L * x ^ k) * s - h * s = x ^ k * ((k + 1 : Nat) : Rat)
    generalize ((k + 1 : Nat) : Rat) = c
    generalize x ^ k = y
    grind
theorem bp_refl {n : Nat} (hn : n ≤ 41) (x : Rat) : horQ (bpL n) (1 - x) = if n % 2 = 0 then horQ (bpL n) x else -horQ (bpL n) x := by
  have h := List.all_eq_true.1 chkR_all n (List.mem_range.2 (by omega))
  unfold chkR at h
  have h := of_decide_eq_true h
  rw [bpL_eq (by omega), horQ_scale, horQ_scale, ← horI_refl, h]
  split
  · rfl
  · rw [horI_neg, Rat.neg_mul]
theorem ipB_small : ((List.range 42).all fun n => (ipB n).all fun u => Nat.ble (u.natAbs + 1) (2 ^ 255)) = true := by decide +kernel
theorem ipB_len {n : Nat} (hn : n ≤ 41) : ∀ u ∈ ipB n, len u ≤ 8 := by
  intro u hu
  have h := List.all_eq_true.1 (List.all_eq_true.1 ipB_small n (List.mem_range.2 (by omega))) u hu
  exact len_pow_lt (e := 8) (Nat.lt_of_lt_of_le (Nat.le_of_ble_eq_true h) (Nat.pow_le_pow_right (by omega) (by omega)))
theorem form_step {H D a d c : Rat} (hD : D ≠ 0) (hd : d ≠ 0) : H / D * (a / d) + c = (H * a + c * (D * d)) / (D * d) := by
  rw [Rat.div_def, Rat.div_def, Rat.div_def]
  have h1 : D * D⁻¹ = 1 := Rat.mul_inv_cancel _ hD
  have h2 : d * d⁻¹ = 1 := Rat.mul_inv_cancel _ hd
  have h3 : (D * d) * (D * d)⁻¹ = 1 := Rat.mul_inv_cancel _ (fun e => by
    rcases Rat.mul_eq_zero.1 e with h | h
    · exact hD h
    · exact hd h)
  have h4 : (D * d)⁻¹ = D⁻¹ * d⁻¹ := by
    generalize (D * d)⁻¹ = t at *
    generalize D⁻¹ = u at *
    generalize d⁻¹ = v at *
    grind
  rw [h4]
  generalize D⁻¹ = u at *
  generalize d⁻¹ = v at *
  grind
theorem horI_form {A C : Nat} {x : Rat} (h1 : len x.num ≤ A) (h2 : len (x.den : Int) ≤ A) : ∀ l : List Int, (∀ u ∈ l, len u ≤ C) → ∃ H : Int, horI l x = Rat.divInt H ((x.den : Int) ^ l.length) ∧ len H ≤ C + l.length * (A + 1) + 1
  | [], _ => ⟨0, by rw [Rat.zero_divInt]; rfl, by rw [show len 0 = 0 by simp [len, digs_zero]]; omega⟩
  | c :: f, hC => by
    obtain ⟨H, e, hH⟩ := horI_form h1 h2 f (fun u hu => hC u (by simp [hu]))
    have hc := hC c (by simp)
    refine ⟨H * x.num + c * ((x.den : Int) ^ f.length * (x.den : Int)), ?_, ?_⟩
    · rw [horI_cons, e]
      have hd : ((x.den : Int) : Rat) ≠ 0 := by
        intro h
        have : (x.den : Int) = 0 := by exact_mod_cast h
        have := x.den_nz
        omega
      have hD : (((x.den : Int) ^ f.length : Int) : Rat) ≠ 0 := by
        intro h
        have h5 : (x.den : Int) ^ f.length = 0 := by exact_mod_cast h
        have h6 : (x.den : Int) ≠ 0 := by have := x.den_nz; omega
        exact Int.pow_ne_zero h6 h5
      conv => lhs; arg 1; arg 2; rw [← Rat.num_divInt_den x]
      rw [List.length_cons, Int.pow_succ, Rat.divInt_eq_div, Rat.divInt_eq_div, Rat.divInt_eq_div, Rat.intCast_add, Rat.intCast_mul, Rat.intCast_mul, Rat.intCast_mul]
      exact form_step hD hd
    · have l1 := len_add (H * x.num) (c * ((x.den : Int) ^ f.length * (x.den : Int)))
      have l2 := len_mul H x.num
      have l3 := len_mul c ((x.den : Int) ^ f.length * (x.den : Int))
      have l4 := len_mul ((x.den : Int) ^ f.length) (x.den : Int)
      have l5 := len_pow (x.den : Int) f.length
      have l6 : f.length * len (x.den : Int) ≤ f.length * A := Nat.mul_le_mul_left _ h2
      rw [List.length_cons, Nat.succ_mul]
      rw [Nat.mul_add, Nat.mul_one] at hH ⊢
      omega
theorem lq_horI {A C : Nat} {x : Rat} (hx : lq x ≤ A) (l : List Int) (hC : ∀ u ∈ l, len u ≤ C) : lq (horI l x) ≤ C + l.length * (A + 1) + 1 + (l.length * A + 1) := by
  unfold lq at hx
  obtain ⟨H, e, hH⟩ := horI_form (A := A) (C := C) (x := x) (by omega) (by omega) l hC
  have hd : (x.den : Int) ^ l.length ≠ 0 := Int.pow_ne_zero (by have := x.den_nz; omega)
  obtain ⟨a1, a2⟩ := lq_divInt (n := H) hd
  have l5 := len_pow (x.den : Int) l.length
  have l6 : l.length * len (x.den : Int) ≤ l.length * A := Nat.mul_le_mul_left _ (by omega)
  rw [e]
  unfold lq
  omega
theorem lq_bLinv : lq ((bL : Rat)⁻¹) ≤ 10 := by decide +kernel
theorem lq_horB {A n k : Nat} {x : Rat} (hx : lq x ≤ A) (hA : A ≤ 1000) (hn : n ≤ 41) : lq (horQ ((bpL n).drop k) x) ≤ 100000 := by
  rw [bpL_eq (by omega), ← List.map_drop, horQ_scale]
  have h1 := lq_horI hx ((ipB n).drop k) (C := 8) (fun u hu => ipB_len hn u (List.mem_of_mem_drop hu))
  have h2 := lq_mul (horI ((ipB n).drop k) x) ((bL : Rat)⁻¹)
  have h3 := lq_bLinv
  have hl : ((ipB n).drop k).length ≤ 42 := by
    have : (ipB n).length ≤ 42 := by
      rw [ipB, List.length_zipWith, prow_length]
      omega
    rw [List.length_drop]
    omega
  have h4 : ((ipB n).drop k).length * (A + 1) ≤ 42 * 1001 := Nat.mul_le_mul hl (by omega)
  have h5 : ((ipB n).drop k).length * A ≤ 42 * 1000 := Nat.mul_le_mul hl hA
  omega
end Go.Num

namespace Go.Proofs.YtmblfadpimfagaaGreatDoor
open Go Go.Lg Go.Num
set_option maxRecDepth 100000
set_option maxHeartbeats 4000000
attribute [local irreducible] Go.Lg.lrun Go.Lg.lwp Go.Lg.exThen Go.Lg.exBlk Go.Lg.keep Go.Lg.goodPost sg mg bq
theorem pow_unit3 {z : Int} (h : z.natAbs ≤ 1) (n : Nat) : z ^ (if n = 0 then 0 else 2 + n % 2) = z ^ n := by
  have h3 : z = 0 ∨ z = 1 ∨ z = -1 := by omega
  by_cases h0 : n = 0
  · subst h0; rfl
  · rw [if_neg h0]
    rcases h3 with rfl | rfl | rfl
    · rw [Int.zero_pow (by omega), Int.zero_pow h0]
    · rw [Int.one_pow, Int.one_pow]
    · have key : ∀ k : Nat, (-1 : Int) ^ (2 * k) = 1 := fun k => by rw [Int.pow_mul]; show (1 : Int) ^ k = 1; exact Int.one_pow
      rcases Nat.mod_two_eq_zero_or_one n with h | h
      · rw [h]
        conv => rhs; rw [show n = 2 * (n / 2) by omega, key]
        rfl
      · rw [h]
        conv => rhs; rw [show n = 2 * (n / 2) + 1 by omega, Int.pow_succ, key]
        rfl
theorem qpow_good (q : Rat) (n : Nat) (hn : n ≤ 100) (hq : lq q ≤ 50) : PureGood Tryz.prog 29 [encQ q, i64 n] (.tup [encQ (q ^ n), i64 0]) := by
  have h1 := qnorm_good q (by omega)
  have h2 := qbits_good q (by omega)
  have hb : qbits q = max (nbits q.num.natAbs) (nbits q.den) := rfl
  have l1 : len q.num ≤ 50 := by unfold lq at hq; omega
  have l2 : len (q.den : Int) ≤ 50 := by unfold lq at hq; omega
  have b1 := nbits_len q.num.natAbs
  have b2 := nbits_len q.den
  have e2 : (digs q.den).length ≤ 50 := by unfold len at l2; rwa [Int.natAbs_natCast] at l2
  have e1 : (digs q.num.natAbs).length ≤ 50 := l1
  have hbb : qbits q ≤ 1600 := by omega
  have hdiv : ∀ s : Nat, s ≤ 1600 → 1 < s → n ≤ 1048576 / s := fun s h1 h2 => (Nat.le_div_iff_mul_le (by omega)).2 (by have : n * s ≤ 100 * 1600 := Nat.mul_le_mul hn h1; omega)
  by_cases hs : qbits q ≤ 1
  · have n1 := nbits_lt q.num.natAbs
    have n2 := nbits_lt q.den
    have t1 : 2 ^ nbits q.num.natAbs ≤ 2 ^ 1 := Nat.pow_le_pow_right (by omega) (by omega)
    have t2 : 2 ^ nbits q.den ≤ 2 ^ 1 := Nat.pow_le_pow_right (by omega) (by omega)
    have u1 : q.num.natAbs ≤ 1 := by omega
    have u2 : q.den = 1 := by have := q.den_nz; omega
    have hqn : q = (q.num : Rat) := by apply Rat.ext <;> simp [u2]
    have hpw := pow_unit3 u1 n
    have hpq : ((q.num ^ n : Int) : Rat) = q ^ n := by rw [Rat.intCast_pow, ← hqn]
    have hln : len (q.num ^ n) ≤ 1 := by
      have : (q.num ^ n).natAbs ≤ 1 := by rw [Int.natAbs_pow]; exact Nat.le_trans (Nat.pow_le_pow_left u1 n) (by rw [Nat.one_pow]; omega)
      exact len_pow_lt (e := 1) (by omega)
    have w1 := whole_good (q.num ^ n) (by omega)
    rw [hpq] at w1
    have hnb : nbits q.num.natAbs ≤ 1 := by omega
    by_cases h0 : n = 0
    · subst h0
      have p1 := pow_good q.num 0 (by omega) (.inl hnb) (by omega)
      rw [Int.natCast_zero] at *
      generalize q ^ 0 = r at *
      generalize qbits q = S at *
      clear hqn hpq hpw
      simp only [encQ_sm, encI_sm, i64] at *
      refine good_of_lwp mix Tryz.func29 rfl (by decide) (nt := 83) rfl (rs := [.cell 4 27, .tmp 5]) rfl (Nat.le_of_ble_eq_true rfl) ?_
      (repeat (first|apply zO (by decide +kernel)|apply zP (by decide +kernel)|apply zA|apply zB|apply zF|apply zG|apply zH|apply zI|apply zJ|apply zK|apply zL (by decide)|apply zM|apply zN (by decide)|apply zD|apply zC|apply zE|((first|apply l_go rfl|apply c_dec); (case hs => (simp (disch := first|omega|exact kD rfl|exact kX rfl) only [smZ, tyA, simprocAttr, bl, i64, smT]; exact rfl)); first|refine c_bt ?_|refine c_bf ?_|show lrun _ _ _ _ _ _ _ _ _)|(apply l_call rfl (by decide) rfl; (case hc => (simp (disch := first|omega|exact kD rfl|exact kX rfl) only [smZ, tyA, simprocAttr, bl, i64, smT]; exact rfl)); (case hg => assumption))))
      ((first | apply g_ret | apply g_end); case hres => (simp only [resL, rOs, rO, Option.map_some]; simp (disch := first|omega|exact kD rfl|exact kX rfl) only [smZ, tyA, simprocAttr, bl, i64, smT]; exact rfl))
      simp (disch := first|omega|exact kD rfl|exact kX rfl) only [smZ, tyA, simprocAttr, bl, i64, smT]
    · have p1 := pow_good q.num (2 + n % 2) (by omega) (.inl hnb) (by omega)
      rw [if_neg h0] at hpw
      rw [hpw, show ((2 + n % 2 : Nat) : Int) = 2 + (n : Int) % 2 by omega] at p1
      generalize q.num ^ n = z at *
      generalize q ^ n = r at *
      generalize qbits q = S at *
      clear hqn hpq hpw
      simp only [encQ_sm, encI_sm, i64] at *
      refine good_of_lwp mix Tryz.func29 rfl (by decide) (nt := 83) rfl (rs := [.cell 4 27, .tmp 5]) rfl (Nat.le_of_ble_eq_true rfl) ?_
      (repeat (first|apply zO (by decide +kernel)|apply zP (by decide +kernel)|apply zA|apply zB|apply zF|apply zG|apply zH|apply zI|apply zJ|apply zK|apply zL (by decide)|apply zM|apply zN (by decide)|apply zD|apply zC|apply zE|((first|apply l_go rfl|apply c_dec); (case hs => (simp (disch := first|omega|exact kD rfl|exact kX rfl) only [smZ, tyA, simprocAttr, bl, i64, smT]; exact rfl)); first|refine c_bt ?_|refine c_bf ?_|show lrun _ _ _ _ _ _ _ _ _)|(apply l_call rfl (by decide) rfl; (case hc => (simp (disch := first|omega|exact kD rfl|exact kX rfl) only [smZ, tyA, simprocAttr, bl, i64, smT]; exact rfl)); (case hg => assumption))))
      ((first | apply g_ret | apply g_end); case hres => (simp only [resL, rOs, rO, Option.map_some]; simp (disch := first|omega|exact kD rfl|exact kX rfl) only [smZ, tyA, simprocAttr, bl, i64, smT]; exact rfl))
      simp (disch := first|omega|exact kD rfl|exact kX rfl) only [smZ, tyA, simprocAttr, bl, i64, smT]
  · have hd1 := hdiv (qbits q) hbb (by omega)
    have hcast : (1048576 : Int) / (qbits q : Int) = ((1048576 / qbits q : Nat) : Int) := rfl
    have p1 := pow_good q.num n (by omega) (by by_cases h : nbits q.num.natAbs ≤ 1; exact .inl h; exact .inr (hdiv _ (by omega) (by omega))) (by omega)
    have p2 := pow_good (q.den : Int) n (by omega) (by rw [Int.natAbs_natCast]; by_cases h : nbits q.den ≤ 1; exact .inl h; exact .inr (hdiv _ (by omega) (by omega))) (by omega)
    have m1 := len_pow q.num n
    have m2 := len_pow (q.den : Int) n
    have m3 : n * len q.num ≤ 100 * 50 := Nat.mul_le_mul hn l1
    have m4 : n * len (q.den : Int) ≤ 100 * 50 := Nat.mul_le_mul hn l2
    have o1 := over_good (q.num ^ n) ((q.den : Int) ^ n) (by omega) (by omega)
    rw [← pow_divInt] at o1
    have hmx : (if 0 - (n : Int) > (n : Int) then 0 - (n : Int) else (n : Int)) = (n : Int) := by split <;> omega
    have hdn : ((1048576 / qbits q : Nat) : Int) ≤ 1048576 := by have := Nat.div_le_self 1048576 (qbits q); omega
    generalize 1048576 / qbits q = M at *
    generalize qbits q = S at *
    simp only [encQ_sm, encI_sm, i64] at *
    clear hdiv hb b1 b2 e1 e2 m1 m2 m3 m4
    refine good_of_lwp mix Tryz.func29 rfl (by decide) (nt := 83) rfl (rs := [.cell 4 27, .tmp 5]) rfl (Nat.le_of_ble_eq_true rfl) ?_
    (repeat (first|apply zO (by decide +kernel)|apply zP (by decide +kernel)|apply zA|apply zB|apply zF|apply zG|apply zH|apply zI|apply zJ|apply zK|apply zL (by decide)|apply zM|apply zN (by decide)|apply zD|apply zC|apply zE|((first|apply l_go rfl|apply c_dec); (case hs => (simp (disch := first|omega|exact kD rfl|exact kX rfl) only [smZ, tyA, simprocAttr, bl, i64, smT, hmx, hcast]; exact rfl)); first|refine c_bt ?_|refine c_bf ?_|show lrun _ _ _ _ _ _ _ _ _)|(apply l_call rfl (by decide) rfl; (case hc => (simp (disch := first|omega|exact kD rfl|exact kX rfl) only [smZ, tyA, simprocAttr, bl, i64, smT, hmx, hcast]; exact rfl)); (case hg => assumption))))
    ((first | apply g_ret | apply g_end); case hres => (simp only [resL, rOs, rO, Option.map_some]; simp (disch := first|omega|exact kD rfl|exact kX rfl) only [smZ, tyA, simprocAttr, bl, i64, smT, hmx, hcast]; exact rfl))
    simp (disch := first|omega|exact kD rfl|exact kX rfl) only [smZ, tyA, simprocAttr, bl, i64, smT, hmx, hcast]
/-- The values of a Bernoulli polynomial. -/
theorem bp_bpL (n : Nat) : bp n (n + 1) = bpL n := rfl
theorem hor_horQ (f : List Rat) (x : Rat) : hor f x = horQ f x := rfl
theorem evalB_good {n : Nat} (hn : n ≤ 41) (x : Rat) (hx : lq x ≤ 1000) : PureGood Tryz.prog 27 [encF (bp n (n + 1)), encQ x] (encQ (horQ (bpL n) x)) ∧ lq (horQ (bpL n) x) ≤ 100000 := by
  have hh : ∀ k, lq (horQ ((bpL n).drop k) x) ≤ 100000 := fun k => lq_horB hx (by omega) hn
  have h0 := hh 0
  rw [List.drop_zero] at h0
  refine ⟨?_, h0⟩
  rw [bp_bpL, ← hor_horQ]
  refine eval_good (bpL n) x (by rw [← bp_bpL, bp_length]; omega) (by omega) (fun c hc => by have := bp_small (n := n) (by omega) (n + 1) c hc; omega) (fun k => by rw [hor_horQ]; have := hh k; omega) (fun k => ?_)
  rw [hor_horQ]
  have h1 := hh k
  have h2 := lq_mul (horQ ((bpL n).drop k) x) x
  omega
end Go.Proofs.YtmblfadpimfagaaGreatDoor

namespace Go.Num
/-- The sum of the k-th powers of the numbers below n. -/
def pws (k : Nat) : Nat → Int
  | 0 => 0
  | n + 1 => pws k n + (n : Int) ^ k
theorem pws_zero (k : Nat) : pws k 0 = 0 := rfl
theorem pws_succ (k n : Nat) : pws k (n + 1) = pws k n + (n : Int) ^ k := rfl
theorem pws_le (k : Nat) : ∀ n : Nat, 0 ≤ pws k n ∧ pws k n ≤ (n : Int) * (n : Int) ^ k
  | 0 => by simp [pws]
  | n + 1 => by
    obtain ⟨h1, h2⟩ := pws_le k n
    have h3 : 0 ≤ (n : Int) ^ k := Int.pow_nonneg (by omega)
    have h4 : (n : Int) ^ k ≤ ((n + 1 : Nat) : Int) ^ k := by
      rw [← Int.natCast_pow, ← Int.natCast_pow]
      exact Int.ofNat_le.2 (Nat.pow_le_pow_left (by omega) k)
    have h5 : (n : Int) * (n : Int) ^ k ≤ (n : Int) * ((n + 1 : Nat) : Int) ^ k := Int.mul_le_mul_of_nonneg_left h4 (by omega)
    refine ⟨by rw [pws]; omega, ?_⟩
    rw [pws, show (((n + 1 : Nat) : Int)) * ((n + 1 : Nat) : Int) ^ k = (n : Int) * ((n + 1 : Nat) : Int) ^ k + ((n + 1 : Nat) : Int) ^ k by rw [show ((n + 1 : Nat) : Int) = (n : Int) + 1 from rfl, Int.add_mul, Int.one_mul]]
    omega
theorem len_two {z : Int} {a e : Nat} (hz : z.natAbs ≤ 2 ^ a) (h : a < 32 * e) : len z ≤ e :=
  len_pow_lt (Nat.lt_of_le_of_lt hz (Nat.pow_lt_pow_right (by omega) h))
theorem len_npow {n k : Nat} (hn : n ≤ 16384) (hk : k ≤ 41) : len ((n : Int) ^ k) ≤ 20 := by
  have h1 : n ^ k ≤ (2 ^ 14) ^ k := Nat.pow_le_pow_left (by omega) k
  rw [← Nat.pow_mul] at h1
  exact len_two (a := 14 * k) (by rw [Int.natAbs_pow, Int.natAbs_natCast]; exact h1) (by omega)
theorem len_pws {n k : Nat} (hn : n ≤ 10000) (hk : k ≤ 40) : len (pws k n) ≤ 21 := by
  obtain ⟨h1, h2⟩ := pws_le k n
  have h3 := len_le_of (x := pws k n) (y := (n : Int) * (n : Int) ^ k) (by omega)
  have h4 := len_mul (n : Int) ((n : Int) ^ k)
  have h5 := len_npow (n := n) (k := k) (by omega) (by omega)
  have h6 : len (n : Int) ≤ 1 := len_pow_lt (e := 1) (by omega)
  omega
theorem horQ_zero {m : Nat} (hm : m ≤ 60) : horQ (bpL m) 0 = bq m := by
  rw [bpL, List.range_succ_eq_map, List.map_cons]
  show _ * (0 : Rat) + ((ch m 0 : Int) : Rat) * bq (m - 0) = _
  rw [Rat.mul_zero, Rat.zero_add, ch_zero, Nat.sub_zero]
  show (1 : Rat) * _ = _
  rw [Rat.one_mul]
theorem pws_bern {k : Nat} (hk : k ≤ 40) : ∀ n : Nat, horQ (bpL (k + 1)) (n : Rat) - horQ (bpL (k + 1)) 0 = (pws k n : Rat) * ((k + 1 : Nat) : Rat)
  | 0 => by
    show horQ (bpL (k + 1)) 0 - horQ (bpL (k + 1)) 0 = (0 : Rat) * _
    rw [Rat.sub_self, Rat.zero_mul]
  | n + 1 => by
    have h1 := pws_bern hk n
    have h2 := bp_diff (n := k + 1) (by omega) (n : Rat)
    have h2 : horQ (bpL (k + 1)) ((n : Rat) + 1) - horQ (bpL (k + 1)) (n : Rat) = (n : Rat) ^ k * ((k + 1 : Nat) : Rat) := h2
    have e1 : (((n + 1 : Nat)) : Rat) = (n : Rat) + 1 := by
      show ((((n : Int) + 1 : Int)) : Rat) = _
      rw [Rat.intCast_add]
      rfl
    have e2 : ((pws k (n + 1) : Int) : Rat) = (pws k n : Rat) + (n : Rat) ^ k := by
      rw [pws, Rat.intCast_add, Rat.intCast_pow]
      rfl
    rw [e1, e2]
    generalize (((k + 1 : Nat)) : Rat) = c at *
    generalize (n : Rat) ^ k = y at *
    generalize (pws k n : Rat) = p at *
    generalize horQ (bpL (k + 1)) ((n : Rat) + 1) = a at *
    generalize horQ (bpL (k + 1)) (n : Rat) = b at *
    generalize horQ (bpL (k + 1)) 0 = z at *
    grind
theorem pws_quo {k n : Nat} (hk : k ≤ 40) : (horQ (bpL (k + 1)) (n : Rat) - horQ (bpL (k + 1)) 0) / ((k + 1 : Nat) : Rat) = (pws k n : Rat) := by
  rw [pws_bern hk, Rat.mul_div_cancel]
  intro e
  have : ((k + 1 : Nat) : Int) = 0 := by
    have h : (((k + 1 : Nat) : Int) : Rat) = 0 := e
    exact_mod_cast h
  omega
end Go.Num

namespace Go.Proofs.YtmblfadpimfagaaGreatDoor
open Go Go.Lg Go.Num
set_option maxRecDepth 100000
set_option maxHeartbeats 4000000
attribute [local irreducible] Go.Lg.lrun Go.Lg.lwp Go.Lg.exThen Go.Lg.exBlk Go.Lg.keep Go.Lg.goodPost sg mg bq bpL horQ pws
theorem rpower_good (a k : Nat) (ha : a ≤ 10000) (hk : k ≤ 41) : PureGood Tryz.prog 69 [i64 a, i64 k] (encI ((a : Int) ^ k)) := by
  have h1 := baseZ_good 1 (by omega)
  have h2 := baseZ_good (a : Int) (by omega)
  simp only [encI_sm, i64] at *
  refine good_of_lwp mix Tryz.func69 rfl (by decide) (nt := 16) rfl (rs := [.cell 4 25]) rfl (Nat.le_of_ble_eq_true rfl) ?_
  (repeat (first|apply zO (by decide +kernel)|apply zP (by decide +kernel)|apply zA|apply zB|apply zF|apply zG|apply zH|apply zI|apply zJ|apply zK|apply zL (by decide)|apply zM|apply zN (by decide)|apply zD|apply zC|apply zE|((first|apply l_go rfl|apply c_dec); (case hs => (simp (disch := first|omega|exact kD rfl|exact kX rfl) only [smZ, tyA, simprocAttr, bl, i64, smS]; exact rfl)); first|refine c_bt ?_|refine c_bf ?_|show lrun _ _ _ _ _ _ _ _ _)|(apply l_call rfl (by decide) rfl; (case hc => (simp (disch := first|omega|exact kD rfl|exact kX rfl) only [smZ, tyA, simprocAttr, bl, i64, smS]; exact rfl)); (case hg => assumption))))
  refine w_loop (α := {j : Nat // j ≤ k}) (fun j => st 16 (lk [(0, i64 a), (1, i64 ((k - j.1 : Nat) : Int)), (4, .ptr 0 0), (5, .ptr 1 0)]) (lkH [(0, ⟨25, [bl false, .lit (.slice none 0 0)], false⟩), (1, ⟨25, [sg ((a : Int) ^ j.1), mg ((a : Int) ^ j.1)], false⟩)]) 2) (fun j => k - j.1) ⟨0, by omega⟩ ?_ ?_
  · (refine Sub.heapL [0,2] rfl (by decide) ?_ (by simp only [List.forall_mem_cons, List.not_mem_nil, false_imp_iff, implies_true, and_true]; decide) ?_ ?_; all_goals (first | (simp only [plainC, smF, dg, renL, renLs, simprocAttr, bl, i64, smS]; done) | (simp only [smF, dg, renL, renLs, simprocAttr, bl, i64, smS]) | skip))
    · simp
    · simp
    · exact ⟨rfl, rfl⟩
  · rintro ⟨j, hj⟩
    simp only [st]
    by_cases hjk : j < k
    · have l1 := len_npow (n := a) (k := j) (by omega) (by omega)
      have l2 : len (a : Int) ≤ 1 := len_pow_lt (e := 1) (by omega)
      have m1 := rmul_good ((a : Int) ^ j) a (by omega) (by omega)
      rw [← Int.pow_succ] at m1
      have e1 : ((k - j : Nat) : Int) - 1 = ((k - (j + 1) : Nat) : Int) := by omega
      generalize hz : k - j = z at *
      simp only [encI_sm] at m1
      (repeat (first|apply zO (by decide +kernel)|apply zP (by decide +kernel)|apply zA|apply zB|apply zF|apply zG|apply zH|apply zI|apply zJ|apply zK|apply zL (by decide)|apply zM|apply zN (by decide)|apply zD|apply zC|apply zE|((first|apply l_go rfl|apply c_dec); (case hs => (simp (disch := first|omega|exact kD rfl|exact kX rfl) only [smZ, tyA, simprocAttr, bl, i64, smS, e1]; exact rfl)); first|refine c_bt ?_|refine c_bf ?_|show lrun _ _ _ _ _ _ _ _ _)|(apply l_call rfl (by decide) rfl; (case hc => (simp (disch := first|omega|exact kD rfl|exact kX rfl) only [smZ, tyA, simprocAttr, bl, i64, smS, e1]; exact rfl)); (case hg => assumption))))
      refine ⟨⟨j + 1, by omega⟩, ?_, by simp only; omega⟩
      (refine Sub.heapL [0,1] rfl (by decide) ?_ (by simp only [List.forall_mem_cons, List.not_mem_nil, false_imp_iff, implies_true, and_true]; decide) ?_ ?_; all_goals (first | (simp only [plainC, smF, dg, renL, renLs, simprocAttr, bl, i64, smS]; done) | (simp only [smF, dg, renL, renLs, simprocAttr, bl, i64, smS]) | skip))
      exact ⟨rfl, rfl⟩
    · obtain rfl : j = k := by omega
      rw [Nat.sub_self]
      (repeat (first|apply zO (by decide +kernel)|apply zP (by decide +kernel)|apply zA|apply zB|apply zF|apply zG|apply zH|apply zI|apply zJ|apply zK|apply zL (by decide)|apply zM|apply zN (by decide)|apply zD|apply zC|apply zE|((first|apply l_go rfl|apply c_dec); (case hs => (simp (disch := first|omega|exact kD rfl|exact kX rfl) only [smZ, tyA, simprocAttr, bl, i64, smS]; exact rfl)); first|refine c_bt ?_|refine c_bf ?_|show lrun _ _ _ _ _ _ _ _ _)|(apply l_call rfl (by decide) rfl; (case hc => (simp (disch := first|omega|exact kD rfl|exact kX rfl) only [smZ, tyA, simprocAttr, bl, i64, smS]; exact rfl)); (case hg => assumption))))
      ((first | apply g_ret | apply g_end); case hres => (simp only [resL, rOs, rO, Option.map_some]; simp (disch := first|omega|exact kD rfl|exact kX rfl) only [smZ, tyA, simprocAttr, bl, i64, smS]; exact rfl))
      simp (disch := first|omega|exact kD rfl|exact kX rfl) only [smZ, tyA, simprocAttr, bl, i64, smS]
theorem rpsum_good (k n : Nat) (hk : k ≤ 40) (hn : n ≤ 10000) : PureGood Tryz.prog 34 [i64 k, i64 n] (.tup [encI (pws k n), i64 0]) := by
  have h0 := baseZ_good 0 (by omega)
  simp only [encI_sm, i64] at *
  refine good_of_lwp mix Tryz.func34 rfl (by decide) (nt := 35) rfl (rs := [.cell 4 25, .tmp 5]) rfl (Nat.le_of_ble_eq_true rfl) ?_
  (repeat (first|apply zO (by decide +kernel)|apply zP (by decide +kernel)|apply zA|apply zB|apply zF|apply zG|apply zH|apply zI|apply zJ|apply zK|apply zL (by decide)|apply zM|apply zN (by decide)|apply zD|apply zC|apply zE|((first|apply l_go rfl|apply c_dec); (case hs => (simp (disch := first|omega|exact kD rfl|exact kX rfl) only [smZ, tyA, simprocAttr, bl, i64, smS]; exact rfl)); first|refine c_bt ?_|refine c_bf ?_|show lrun _ _ _ _ _ _ _ _ _)|(apply l_call rfl (by decide) rfl; (case hc => (simp (disch := first|omega|exact kD rfl|exact kX rfl) only [smZ, tyA, simprocAttr, bl, i64, smS]; exact rfl)); (case hg => assumption))))
  refine w_loop (α := {a : Nat // a ≤ n}) (fun a => st 35 (lk [(0, i64 k), (1, i64 n), (4, .ptr 0 0), (5, i64 0), (6, .ptr 1 0), (7, i64 a.1)]) (lkH [(0, ⟨25, [bl false, .lit (.slice none 0 0)], false⟩), (1, ⟨25, [sg (pws k a.1), mg (pws k a.1)], false⟩)]) 2) (fun a => n - a.1) ⟨0, by omega⟩ ?_ ?_
  · (refine Sub.heapL [0,17] rfl (by decide) ?_ (by simp only [List.forall_mem_cons, List.not_mem_nil, false_imp_iff, implies_true, and_true]; decide) ?_ ?_; all_goals (first | (simp only [plainC, smF, dg, renL, renLs, simprocAttr, bl, i64, smS]; done) | (simp only [smF, dg, renL, renLs, simprocAttr, bl, i64, smS]) | skip))
    all_goals (first | exact ⟨rfl, rfl⟩ | simp [pws_zero])
  · rintro ⟨a, ha⟩
    simp only [st]
    by_cases hak : a < n
    · have p1 := rpower_good a k (by omega) (by omega)
      have l1 := len_npow (n := a) (k := k) (by omega) (by omega)
      have l2 := len_pws (n := a) (k := k) (by omega) (by omega)
      have a1 := radd_good (pws k a) ((a : Int) ^ k) (by omega) (by omega)
      have e1 : pws k a + (a : Int) ^ k = pws k (a + 1) := (pws_succ k a).symm
      rw [e1] at a1
      generalize (a : Int) ^ k = y at *
      simp only [encI_sm, i64] at p1 a1
      (repeat (first|apply zO (by decide +kernel)|apply zP (by decide +kernel)|apply zA|apply zB|apply zF|apply zG|apply zH|apply zI|apply zJ|apply zK|apply zL (by decide)|apply zM|apply zN (by decide)|apply zD|apply zC|apply zE|((first|apply l_go rfl|apply c_dec); (case hs => (simp (disch := first|omega|exact kD rfl|exact kX rfl) only [smZ, tyA, simprocAttr, bl, i64, smS]; exact rfl)); first|refine c_bt ?_|refine c_bf ?_|show lrun _ _ _ _ _ _ _ _ _)|(apply l_call rfl (by decide) rfl; (case hc => (simp (disch := first|omega|exact kD rfl|exact kX rfl) only [smZ, tyA, simprocAttr, bl, i64, smS]; exact rfl)); (case hg => assumption))))
      refine ⟨⟨a + 1, by omega⟩, ?_, by simp only; omega⟩
      (refine Sub.heapL [0,1] rfl (by decide) ?_ (by simp only [List.forall_mem_cons, List.not_mem_nil, false_imp_iff, implies_true, and_true]; decide) ?_ ?_; all_goals (first | (simp only [plainC, smF, dg, renL, renLs, simprocAttr, bl, i64, smS]; done) | (simp only [smF, dg, renL, renLs, simprocAttr, bl, i64, smS]) | skip))
      exact ⟨rfl, rfl⟩
    · obtain rfl : a = n := by omega
      (repeat (first|apply zO (by decide +kernel)|apply zP (by decide +kernel)|apply zA|apply zB|apply zF|apply zG|apply zH|apply zI|apply zJ|apply zK|apply zL (by decide)|apply zM|apply zN (by decide)|apply zD|apply zC|apply zE|((first|apply l_go rfl|apply c_dec); (case hs => (simp (disch := first|omega|exact kD rfl|exact kX rfl) only [smZ, tyA, simprocAttr, bl, i64, smS]; exact rfl)); first|refine c_bt ?_|refine c_bf ?_|show lrun _ _ _ _ _ _ _ _ _)|(apply l_call rfl (by decide) rfl; (case hc => (simp (disch := first|omega|exact kD rfl|exact kX rfl) only [smZ, tyA, simprocAttr, bl, i64, smS]; exact rfl)); (case hg => assumption))))
      ((first | apply g_ret | apply g_end); case hres => (simp only [resL, rOs, rO, Option.map_some]; simp (disch := first|omega|exact kD rfl|exact kX rfl) only [smZ, tyA, simprocAttr, bl, i64, smS]; exact rfl))
      simp (disch := first|omega|exact kD rfl|exact kX rfl) only [smZ, tyA, simprocAttr, bl, i64, smS]
theorem psum_good (k n : Nat) (hk : k ≤ 40) (hn : n ≤ 10000) : PureGood Tryz.prog 32 [i64 k, i64 n] (.tup [encI (pws k n), i64 0]) := by
  have g1 := polynomial_good (k + 1) (by omega)
  have o1 := qof_good n (by omega)
  have o0 := qof_good 0 (by omega)
  rw [show ((0 : Int) : Rat) = 0 from rfl] at o0
  have ok := qof_good ((k + 1 : Nat) : Int) (by omega)
  have ln : lq ((n : Int) : Rat) ≤ 2 := lq_small (by omega) (by omega)
  have l0 : lq 0 ≤ 2 := by decide +kernel
  have lk1 : lq (((k + 1 : Nat) : Int) : Rat) ≤ 2 := lq_small (by omega) (by omega)
  obtain ⟨e1, le1⟩ := evalB_good (n := k + 1) (by omega) ((n : Int) : Rat) (by omega)
  obtain ⟨e0, le0⟩ := evalB_good (n := k + 1) (by omega) 0 (by omega)
  have s1 := qsub_good (horQ (bpL (k + 1)) ((n : Int) : Rat)) (horQ (bpL (k + 1)) 0) (by omega) (by omega)
  have ls := lq_sub (horQ (bpL (k + 1)) ((n : Int) : Rat)) (horQ (bpL (k + 1)) 0)
  have hne : (((k + 1 : Nat) : Int) : Rat) ≠ 0 := by
    intro e
    have : ((k + 1 : Nat) : Int) = 0 := by exact_mod_cast e
    omega
  have q1 := quo_good (horQ (bpL (k + 1)) ((n : Int) : Rat) - horQ (bpL (k + 1)) 0) (((k + 1 : Nat) : Int) : Rat) hne (by omega) (by omega)
  have hq : (horQ (bpL (k + 1)) ((n : Int) : Rat) - horQ (bpL (k + 1)) 0) / (((k + 1 : Nat) : Int) : Rat) = (pws k n : Rat) := pws_quo (k := k) (n := n) (by omega)
  rw [hq] at q1
  have lp := len_pws (n := n) (k := k) hn hk
  have i1 := integer_good (pws k n : Rat) (by rw [lq_int]; omega)
  rw [Rat.den_intCast, if_pos rfl, Rat.num_intCast, show decide (1 = 1) = true from rfl] at i1
  have hk1 : ((k + 1 : Nat) : Int) = (k : Int) + 1 := by omega
  clear hq hne ls le1 le0 ln l0 lk1
  rw [encF_qc, bp_length] at *
  generalize bp (k + 1) (k + 1 + 1) = L at *
  generalize horQ (bpL (k + 1)) ((n : Int) : Rat) - horQ (bpL (k + 1)) 0 = W at *
  generalize horQ (bpL (k + 1)) ((n : Int) : Rat) = E1 at *
  generalize horQ (bpL (k + 1)) 0 = E0 at *
  generalize ((n : Int) : Rat) = N at *
  generalize (((k + 1 : Nat) : Int) : Rat) = K at *
  generalize ((pws k n : Int) : Rat) = P at *
  generalize (0 : Rat) = u0 at *
  simp only [encI_sm, encQ_sm, i64, bl, hk1] at *
  refine good_of_lwp mix Tryz.func32 rfl (by decide) (nt := 52) rfl (rs := [.cell 4 25, .tmp 5]) rfl (Nat.le_of_ble_eq_true rfl) ?_
  (repeat (first|apply zO (by decide +kernel)|apply zP (by decide +kernel)|apply zA|apply zB|apply zF|apply zG|apply zH|apply zI|apply zJ|apply zK|apply zL (by decide)|apply zM|apply zN (by decide)|apply zD|apply zC|apply zE|((first|apply l_go rfl|apply c_dec); (case hs => (simp (disch := first|omega|exact kD rfl|exact kX rfl) only [smZ, tyA, simprocAttr, bl, i64, smS]; exact rfl)); first|refine c_bt ?_|refine c_bf ?_|show lrun _ _ _ _ _ _ _ _ _)|(apply l_call rfl (by decide) rfl; (case hc => (simp (disch := first|omega|exact kD rfl|exact kX rfl) only [smZ, tyA, simprocAttr, bl, i64, smS]; exact rfl)); (case hg => assumption))))
  ((first | apply g_ret | apply g_end); case hres => (simp only [resL, rOs, rO, Option.map_some]; simp (disch := first|omega|exact kD rfl|exact kX rfl) only [smZ, tyA, simprocAttr, bl, i64, smS]; exact rfl))
  simp (disch := first|omega|exact kD rfl|exact kX rfl) only [smZ, tyA, simprocAttr, bl, i64, smS]
theorem psum_out (k n : Int) (hk : -9223372036854775808 ≤ k ∧ k ≤ 9223372036854775807) (hn : -9223372036854775808 ≤ n ∧ n ≤ 9223372036854775807) (h : k < 0 ∨ 40 < k ∨ n < 0 ∨ 10000 < n) : PureGood Tryz.prog 32 [i64 k, i64 n] (.tup [.agg [.lit (.bool false), .sl 0 []], i64 2]) := by
  simp only [i64]
  by_cases h1 : k < 0
  · refine good_of_lwp mix Tryz.func32 rfl (by decide) (nt := 52) rfl (rs := [.cell 4 25, .tmp 5]) rfl (Nat.le_of_ble_eq_true rfl) ?_
    (repeat (first|apply zO (by decide +kernel)|apply zP (by decide +kernel)|apply zA|apply zB|apply zF|apply zG|apply zH|apply zI|apply zJ|apply zK|apply zL (by decide)|apply zM|apply zN (by decide)|apply zD|apply zC|apply zE|((first|apply l_go rfl|apply c_dec); (case hs => (simp (disch := first|omega|exact kD rfl|exact kX rfl) only [smZ, tyA, simprocAttr, bl, i64, smS]; exact rfl)); first|refine c_bt ?_|refine c_bf ?_|show lrun _ _ _ _ _ _ _ _ _)|(apply l_call rfl (by decide) rfl; (case hc => (simp (disch := first|omega|exact kD rfl|exact kX rfl) only [smZ, tyA, simprocAttr, bl, i64, smS]; exact rfl)); (case hg => assumption))))
    ((first | apply g_ret | apply g_end); case hres => (simp only [resL, rOs, rO, Option.map_some]; simp (disch := first|omega|exact kD rfl|exact kX rfl) only [smZ, tyA, simprocAttr, bl, i64, smS]; exact rfl))
    simp (disch := first|omega|exact kD rfl|exact kX rfl) only [smZ, tyA, simprocAttr, bl, i64, smS]
  by_cases h2 : 40 < k
  · refine good_of_lwp mix Tryz.func32 rfl (by decide) (nt := 52) rfl (rs := [.cell 4 25, .tmp 5]) rfl (Nat.le_of_ble_eq_true rfl) ?_
    (repeat (first|apply zO (by decide +kernel)|apply zP (by decide +kernel)|apply zA|apply zB|apply zF|apply zG|apply zH|apply zI|apply zJ|apply zK|apply zL (by decide)|apply zM|apply zN (by decide)|apply zD|apply zC|apply zE|((first|apply l_go rfl|apply c_dec); (case hs => (simp (disch := first|omega|exact kD rfl|exact kX rfl) only [smZ, tyA, simprocAttr, bl, i64, smS]; exact rfl)); first|refine c_bt ?_|refine c_bf ?_|show lrun _ _ _ _ _ _ _ _ _)|(apply l_call rfl (by decide) rfl; (case hc => (simp (disch := first|omega|exact kD rfl|exact kX rfl) only [smZ, tyA, simprocAttr, bl, i64, smS]; exact rfl)); (case hg => assumption))))
    ((first | apply g_ret | apply g_end); case hres => (simp only [resL, rOs, rO, Option.map_some]; simp (disch := first|omega|exact kD rfl|exact kX rfl) only [smZ, tyA, simprocAttr, bl, i64, smS]; exact rfl))
    simp (disch := first|omega|exact kD rfl|exact kX rfl) only [smZ, tyA, simprocAttr, bl, i64, smS]
  by_cases h3 : n < 0
  · refine good_of_lwp mix Tryz.func32 rfl (by decide) (nt := 52) rfl (rs := [.cell 4 25, .tmp 5]) rfl (Nat.le_of_ble_eq_true rfl) ?_
    (repeat (first|apply zO (by decide +kernel)|apply zP (by decide +kernel)|apply zA|apply zB|apply zF|apply zG|apply zH|apply zI|apply zJ|apply zK|apply zL (by decide)|apply zM|apply zN (by decide)|apply zD|apply zC|apply zE|((first|apply l_go rfl|apply c_dec); (case hs => (simp (disch := first|omega|exact kD rfl|exact kX rfl) only [smZ, tyA, simprocAttr, bl, i64, smS]; exact rfl)); first|refine c_bt ?_|refine c_bf ?_|show lrun _ _ _ _ _ _ _ _ _)|(apply l_call rfl (by decide) rfl; (case hc => (simp (disch := first|omega|exact kD rfl|exact kX rfl) only [smZ, tyA, simprocAttr, bl, i64, smS]; exact rfl)); (case hg => assumption))))
    ((first | apply g_ret | apply g_end); case hres => (simp only [resL, rOs, rO, Option.map_some]; simp (disch := first|omega|exact kD rfl|exact kX rfl) only [smZ, tyA, simprocAttr, bl, i64, smS]; exact rfl))
    simp (disch := first|omega|exact kD rfl|exact kX rfl) only [smZ, tyA, simprocAttr, bl, i64, smS]
  have h4 : 10000 < n := by omega
  refine good_of_lwp mix Tryz.func32 rfl (by decide) (nt := 52) rfl (rs := [.cell 4 25, .tmp 5]) rfl (Nat.le_of_ble_eq_true rfl) ?_
  (repeat (first|apply zO (by decide +kernel)|apply zP (by decide +kernel)|apply zA|apply zB|apply zF|apply zG|apply zH|apply zI|apply zJ|apply zK|apply zL (by decide)|apply zM|apply zN (by decide)|apply zD|apply zC|apply zE|((first|apply l_go rfl|apply c_dec); (case hs => (simp (disch := first|omega|exact kD rfl|exact kX rfl) only [smZ, tyA, simprocAttr, bl, i64, smS]; exact rfl)); first|refine c_bt ?_|refine c_bf ?_|show lrun _ _ _ _ _ _ _ _ _)|(apply l_call rfl (by decide) rfl; (case hc => (simp (disch := first|omega|exact kD rfl|exact kX rfl) only [smZ, tyA, simprocAttr, bl, i64, smS]; exact rfl)); (case hg => assumption))))
  ((first | apply g_ret | apply g_end); case hres => (simp only [resL, rOs, rO, Option.map_some]; simp (disch := first|omega|exact kD rfl|exact kX rfl) only [smZ, tyA, simprocAttr, bl, i64, smS]; exact rfl))
  simp (disch := first|omega|exact kD rfl|exact kX rfl) only [smZ, tyA, simprocAttr, bl, i64, smS]
theorem lawSums_good (k n : Int) (hk : -9223372036854775808 ≤ k ∧ k ≤ 9223372036854775807) (hn : -9223372036854775808 ≤ n ∧ n ≤ 9223372036854775807) : PureGood Tryz.prog 8 [i64 k, i64 n] (.lit (.bool true)) := by
  have h0 := awake_good
  by_cases h : k < 0 ∨ 40 < k ∨ n < 0 ∨ 10000 < n
  · have h1 := psum_out k n hk hn h
    have h2 := sameInt_self 0 (by decide +kernel)
    rw [encI_sm, sg0, mg0] at h2
    simp only [i64] at *
    by_cases h3 : k < 0
    · refine good_of_lwp mix Tryz.func8 rfl (by decide) (nt := 93) rfl (rs := [.tmp 4]) rfl (Nat.le_of_ble_eq_true rfl) ?_
      (repeat (first|apply zO (by decide +kernel)|apply zP (by decide +kernel)|apply zA|apply zB|apply zF|apply zG|apply zH|apply zI|apply zJ|apply zK|apply zL (by decide)|apply zM|apply zN (by decide)|apply zD|apply zC|apply zE|((first|apply l_go rfl|apply c_dec); (case hs => (simp (disch := first|omega|exact kD rfl|exact kX rfl) only [smZ, tyA, simprocAttr, bl, i64, smS]; exact rfl)); first|refine c_bt ?_|refine c_bf ?_|show lrun _ _ _ _ _ _ _ _ _)|(apply l_call rfl (by decide) rfl; (case hc => (simp (disch := first|omega|exact kD rfl|exact kX rfl) only [smZ, tyA, simprocAttr, bl, i64, smS]; exact rfl)); (case hg => assumption))))
      ((first | apply g_ret | apply g_end); case hres => (simp only [resL, rOs, rO, Option.map_some]; simp (disch := first|omega|exact kD rfl|exact kX rfl) only [smZ, tyA, simprocAttr, bl, i64, smS]; exact rfl))
      simp (disch := first|omega|exact kD rfl|exact kX rfl) only [smZ, tyA, simprocAttr, bl, i64, smS]
    by_cases h4 : 40 < k
    · refine good_of_lwp mix Tryz.func8 rfl (by decide) (nt := 93) rfl (rs := [.tmp 4]) rfl (Nat.le_of_ble_eq_true rfl) ?_
      (repeat (first|apply zO (by decide +kernel)|apply zP (by decide +kernel)|apply zA|apply zB|apply zF|apply zG|apply zH|apply zI|apply zJ|apply zK|apply zL (by decide)|apply zM|apply zN (by decide)|apply zD|apply zC|apply zE|((first|apply l_go rfl|apply c_dec); (case hs => (simp (disch := first|omega|exact kD rfl|exact kX rfl) only [smZ, tyA, simprocAttr, bl, i64, smS]; exact rfl)); first|refine c_bt ?_|refine c_bf ?_|show lrun _ _ _ _ _ _ _ _ _)|(apply l_call rfl (by decide) rfl; (case hc => (simp (disch := first|omega|exact kD rfl|exact kX rfl) only [smZ, tyA, simprocAttr, bl, i64, smS]; exact rfl)); (case hg => assumption))))
      ((first | apply g_ret | apply g_end); case hres => (simp only [resL, rOs, rO, Option.map_some]; simp (disch := first|omega|exact kD rfl|exact kX rfl) only [smZ, tyA, simprocAttr, bl, i64, smS]; exact rfl))
      simp (disch := first|omega|exact kD rfl|exact kX rfl) only [smZ, tyA, simprocAttr, bl, i64, smS]
    by_cases h5 : n < 0
    · refine good_of_lwp mix Tryz.func8 rfl (by decide) (nt := 93) rfl (rs := [.tmp 4]) rfl (Nat.le_of_ble_eq_true rfl) ?_
      (repeat (first|apply zO (by decide +kernel)|apply zP (by decide +kernel)|apply zA|apply zB|apply zF|apply zG|apply zH|apply zI|apply zJ|apply zK|apply zL (by decide)|apply zM|apply zN (by decide)|apply zD|apply zC|apply zE|((first|apply l_go rfl|apply c_dec); (case hs => (simp (disch := first|omega|exact kD rfl|exact kX rfl) only [smZ, tyA, simprocAttr, bl, i64, smS]; exact rfl)); first|refine c_bt ?_|refine c_bf ?_|show lrun _ _ _ _ _ _ _ _ _)|(apply l_call rfl (by decide) rfl; (case hc => (simp (disch := first|omega|exact kD rfl|exact kX rfl) only [smZ, tyA, simprocAttr, bl, i64, smS]; exact rfl)); (case hg => assumption))))
      ((first | apply g_ret | apply g_end); case hres => (simp only [resL, rOs, rO, Option.map_some]; simp (disch := first|omega|exact kD rfl|exact kX rfl) only [smZ, tyA, simprocAttr, bl, i64, smS]; exact rfl))
      simp (disch := first|omega|exact kD rfl|exact kX rfl) only [smZ, tyA, simprocAttr, bl, i64, smS]
    have h6 : 10000 < n := by omega
    refine good_of_lwp mix Tryz.func8 rfl (by decide) (nt := 93) rfl (rs := [.tmp 4]) rfl (Nat.le_of_ble_eq_true rfl) ?_
    (repeat (first|apply zO (by decide +kernel)|apply zP (by decide +kernel)|apply zA|apply zB|apply zF|apply zG|apply zH|apply zI|apply zJ|apply zK|apply zL (by decide)|apply zM|apply zN (by decide)|apply zD|apply zC|apply zE|((first|apply l_go rfl|apply c_dec); (case hs => (simp (disch := first|omega|exact kD rfl|exact kX rfl) only [smZ, tyA, simprocAttr, bl, i64, smS]; exact rfl)); first|refine c_bt ?_|refine c_bf ?_|show lrun _ _ _ _ _ _ _ _ _)|(apply l_call rfl (by decide) rfl; (case hc => (simp (disch := first|omega|exact kD rfl|exact kX rfl) only [smZ, tyA, simprocAttr, bl, i64, smS]; exact rfl)); (case hg => assumption))))
    ((first | apply g_ret | apply g_end); case hres => (simp only [resL, rOs, rO, Option.map_some]; simp (disch := first|omega|exact kD rfl|exact kX rfl) only [smZ, tyA, simprocAttr, bl, i64, smS]; exact rfl))
    simp (disch := first|omega|exact kD rfl|exact kX rfl) only [smZ, tyA, simprocAttr, bl, i64, smS]
  · obtain ⟨k, rfl⟩ : ∃ m : Nat, k = m := ⟨k.toNat, by omega⟩
    obtain ⟨n, rfl⟩ : ∃ m : Nat, n = m := ⟨n.toNat, by omega⟩
    have h1 := psum_good k n (by omega) (by omega)
    have h2 := rpsum_good k n (by omega) (by omega)
    have lp := len_pws (n := n) (k := k) (by omega) (by omega)
    have h3 := sameInt_self (pws k n) (by omega)
    by_cases hk40 : k = 40
    · have hn10 : n ≤ 10000 := by omega
      clear h lp
      simp only [encI_sm, i64] at *
      by_cases hn2 : n ≤ 200
      · refine good_of_lwp mix Tryz.func8 rfl (by decide) (nt := 93) rfl (rs := [.tmp 4]) rfl (Nat.le_of_ble_eq_true rfl) ?_
        (repeat (first|apply zO (by decide +kernel)|apply zP (by decide +kernel)|apply zA|apply zB|apply zF|apply zG|apply zH|apply zI|apply zJ|apply zK|apply zL (by decide)|apply zM|apply zN (by decide)|apply zD|apply zC|apply zE|((first|apply l_go rfl|apply c_dec); (case hs => (simp (disch := first|omega|exact kD rfl|exact kX rfl) only [smZ, tyA, simprocAttr, bl, i64, smS]; exact rfl)); first|refine c_bt ?_|refine c_bf ?_|show lrun _ _ _ _ _ _ _ _ _)|(apply l_call rfl (by decide) rfl; (case hc => (simp (disch := first|omega|exact kD rfl|exact kX rfl) only [smZ, tyA, simprocAttr, bl, i64, smS]; exact rfl)); (case hg => assumption))))
        ((first | apply g_ret | apply g_end); case hres => (simp only [resL, rOs, rO, Option.map_some]; simp (disch := first|omega|exact kD rfl|exact kX rfl) only [smZ, tyA, simprocAttr, bl, i64, smS]; exact rfl))
        simp (disch := first|omega|exact kD rfl|exact kX rfl) only [smZ, tyA, simprocAttr, bl, i64, smS]
      · refine good_of_lwp mix Tryz.func8 rfl (by decide) (nt := 93) rfl (rs := [.tmp 4]) rfl (Nat.le_of_ble_eq_true rfl) ?_
        (repeat (first|apply zO (by decide +kernel)|apply zP (by decide +kernel)|apply zA|apply zB|apply zF|apply zG|apply zH|apply zI|apply zJ|apply zK|apply zL (by decide)|apply zM|apply zN (by decide)|apply zD|apply zC|apply zE|((first|apply l_go rfl|apply c_dec); (case hs => (simp (disch := first|omega|exact kD rfl|exact kX rfl) only [smZ, tyA, simprocAttr, bl, i64, smS]; exact rfl)); first|refine c_bt ?_|refine c_bf ?_|show lrun _ _ _ _ _ _ _ _ _)|(apply l_call rfl (by decide) rfl; (case hc => (simp (disch := first|omega|exact kD rfl|exact kX rfl) only [smZ, tyA, simprocAttr, bl, i64, smS]; exact rfl)); (case hg => assumption))))
        ((first | apply g_ret | apply g_end); case hres => (simp only [resL, rOs, rO, Option.map_some]; simp (disch := first|omega|exact kD rfl|exact kX rfl) only [smZ, tyA, simprocAttr, bl, i64, smS]; exact rfl))
        simp (disch := first|omega|exact kD rfl|exact kX rfl) only [smZ, tyA, simprocAttr, bl, i64, smS]
    · have hk1 : ((k + 1 : Nat) : Int) = (k : Int) + 1 := by omega
      have p1 := Polynomial_good ((k + 1 : Nat) : Int) (by omega)
      rw [encPoly, if_pos (by omega), if_pos (by omega), Int.toNat_natCast, encF_qc, bp_length] at p1
      have b1 := num_in (m := ((k + 1 : Nat) : Int)) (by omega) (by omega)
      rw [Int.toNat_natCast, ← horQ_zero (by omega)] at b1
      have w1 := whole_good (pws k n) (by omega)
      have q1 := baseQ_good ((k + 1 : Nat) : Int) (by omega)
      have lk1 : lq (((k + 1 : Nat) : Int) : Rat) ≤ 2 := lq_small (by omega) (by omega)
      have lpq := lq_int (pws k n)
      have m1 := qmul_good (pws k n : Rat) (((k + 1 : Nat) : Int) : Rat) (by omega) (by omega)
      have hb : horQ (bpL (k + 1)) ((n : Int) : Rat) - horQ (bpL (k + 1)) 0 = (pws k n : Rat) * (((k + 1 : Nat) : Int) : Rat) := pws_bern (k := k) (by omega) n
      rw [← hb] at m1
      have qn := baseQ_good (n : Int) (by omega)
      have ln : lq ((n : Int) : Rat) ≤ 2 := lq_small (by omega) (by omega)
      obtain ⟨e1, le1⟩ := evalB_good (n := k + 1) (by omega) ((n : Int) : Rat) (by omega)
      obtain ⟨e0, le0⟩ := evalB_good (n := k + 1) (by omega) 0 (by decide +kernel)
      have s1 := qsub_good (horQ (bpL (k + 1)) ((n : Int) : Rat)) (horQ (bpL (k + 1)) 0) (by omega) (by omega)
      have ls := lq_sub (horQ (bpL (k + 1)) ((n : Int) : Rat)) (horQ (bpL (k + 1)) 0)
      have r1 := sameRat_self (horQ (bpL (k + 1)) ((n : Int) : Rat) - horQ (bpL (k + 1)) 0) (by omega)
      rw [encF_qc, bp_length] at e1
      clear hb ls le1 le0 ln lk1 lpq e0
      generalize bp (k + 1) (k + 1 + 1) = L at *
      generalize horQ (bpL (k + 1)) ((n : Int) : Rat) - horQ (bpL (k + 1)) 0 = W at *
      generalize horQ (bpL (k + 1)) ((n : Int) : Rat) = E1 at *
      generalize horQ (bpL (k + 1)) 0 = E0 at *
      generalize ((n : Int) : Rat) = N at *
      generalize (((k + 1 : Nat) : Int) : Rat) = K at *
      generalize ((pws k n : Int) : Rat) = P at *
      simp only [encI_sm, encQ_sm, i64, bl, hk1] at *
      by_cases hn2 : n ≤ 200
      · refine good_of_lwp mix Tryz.func8 rfl (by decide) (nt := 93) rfl (rs := [.tmp 4]) rfl (Nat.le_of_ble_eq_true rfl) ?_
        (repeat (first|apply zO (by decide +kernel)|apply zP (by decide +kernel)|apply zA|apply zB|apply zF|apply zG|apply zH|apply zI|apply zJ|apply zK|apply zL (by decide)|apply zM|apply zN (by decide)|apply zD|apply zC|apply zE|((first|apply l_go rfl|apply c_dec); (case hs => (simp (disch := first|omega|exact kD rfl|exact kX rfl) only [smZ, tyA, simprocAttr, bl, i64, smS]; exact rfl)); first|refine c_bt ?_|refine c_bf ?_|show lrun _ _ _ _ _ _ _ _ _)|(apply l_call rfl (by decide) rfl; (case hc => (simp (disch := first|omega|exact kD rfl|exact kX rfl) only [smZ, tyA, simprocAttr, bl, i64, smS]; exact rfl)); (case hg => assumption))))
        ((first | apply g_ret | apply g_end); case hres => (simp only [resL, rOs, rO, Option.map_some]; simp (disch := first|omega|exact kD rfl|exact kX rfl) only [smZ, tyA, simprocAttr, bl, i64, smS]; exact rfl))
        simp (disch := first|omega|exact kD rfl|exact kX rfl) only [smZ, tyA, simprocAttr, bl, i64, smS]
      · refine good_of_lwp mix Tryz.func8 rfl (by decide) (nt := 93) rfl (rs := [.tmp 4]) rfl (Nat.le_of_ble_eq_true rfl) ?_
        (repeat (first|apply zO (by decide +kernel)|apply zP (by decide +kernel)|apply zA|apply zB|apply zF|apply zG|apply zH|apply zI|apply zJ|apply zK|apply zL (by decide)|apply zM|apply zN (by decide)|apply zD|apply zC|apply zE|((first|apply l_go rfl|apply c_dec); (case hs => (simp (disch := first|omega|exact kD rfl|exact kX rfl) only [smZ, tyA, simprocAttr, bl, i64, smS]; exact rfl)); first|refine c_bt ?_|refine c_bf ?_|show lrun _ _ _ _ _ _ _ _ _)|(apply l_call rfl (by decide) rfl; (case hc => (simp (disch := first|omega|exact kD rfl|exact kX rfl) only [smZ, tyA, simprocAttr, bl, i64, smS]; exact rfl)); (case hg => assumption))))
        ((first | apply g_ret | apply g_end); case hres => (simp only [resL, rOs, rO, Option.map_some]; simp (disch := first|omega|exact kD rfl|exact kX rfl) only [smZ, tyA, simprocAttr, bl, i64, smS]; exact rfl))
        simp (disch := first|omega|exact kD rfl|exact kX rfl) only [smZ, tyA, simprocAttr, bl, i64, smS]
end Go.Proofs.YtmblfadpimfagaaGreatDoor

namespace Go.Num
theorem lq_powQ (q : Rat) (n : Nat) : lq (q ^ n) ≤ n * lq q + 2 := by
  unfold lq
  rw [Rat.num_pow, Rat.den_pow, Int.natCast_pow, Nat.mul_add]
  have h1 := len_pow q.num n
  have h2 := len_pow (q.den : Int) n
  omega
theorem horI_form' {A C : Nat} {a d : Int} (hd0 : d ≠ 0) (h1 : len a ≤ A) (h2 : len d ≤ A) : ∀ l : List Int, (∀ u ∈ l, len u ≤ C) → ∃ H : Int, horI l (Rat.divInt a d) = Rat.divInt H (d ^ l.length) ∧ len H ≤ C + l.length * (A + 1) + 1
  | [], _ => ⟨0, by rw [Rat.zero_divInt]; rfl, by rw [show len 0 = 0 by simp [len, digs_zero]]; omega⟩
  | c :: f, hC => by
    obtain ⟨H, e, hH⟩ := horI_form' hd0 h1 h2 f (fun u hu => hC u (by simp [hu]))
    have hc := hC c (by simp)
    refine ⟨H * a + c * (d ^ f.length * d), ?_, ?_⟩
    · rw [horI_cons, e]
      have hd : (d : Rat) ≠ 0 := by
        intro h
        exact hd0 (by exact_mod_cast h)
      have hD : ((d ^ f.length : Int) : Rat) ≠ 0 := by
        intro h
        have h5 : d ^ f.length = 0 := by exact_mod_cast h
        exact Int.pow_ne_zero hd0 h5
      rw [List.length_cons, Int.pow_succ, Rat.divInt_eq_div, Rat.divInt_eq_div, Rat.divInt_eq_div, Rat.intCast_add, Rat.intCast_mul, Rat.intCast_mul, Rat.intCast_mul]
      exact form_step hD hd
    · have l1 := len_add (H * a) (c * (d ^ f.length * d))
      have l2 := len_mul H a
      have l3 := len_mul c (d ^ f.length * d)
      have l4 := len_mul (d ^ f.length) d
      have l5 := len_pow d f.length
      have l6 : f.length * len d ≤ f.length * A := Nat.mul_le_mul_left _ h2
      rw [List.length_cons, Nat.succ_mul]
      rw [Nat.mul_add, Nat.mul_one] at hH ⊢
      omega
/-- The value of the Bernoulli polynomial at (j + 1)/f, times f^(k-1). -/
def trm (k f j : Nat) : Rat := ((f : Int) : Rat) ^ (k - 1) * horQ (bpL k) (Rat.divInt ((j + 1 : Nat) : Int) (f : Int))
def trmD (k f : Nat) : Int := (f : Int) ^ (k + 1) * bL
theorem ipB_length {k : Nat} (hk : k ≤ 60) : (ipB k).length = k + 1 := by
  have hU : bU.length = 61 := rfl
  rw [ipB, List.length_zipWith, prow_length, List.length_reverse, List.length_take, hU]
  omega
theorem trm_form {k f j : Nat} (hk : k ≤ 40) (hf : 1 ≤ f) (hf2 : f ≤ 60) (hj : j < f) : ∃ H : Int, trm k f j = Rat.divInt H (trmD k f) ∧ len H ≤ 200 := by
  have la : len ((j + 1 : Nat) : Int) ≤ 1 := len_pow_lt (e := 1) (by omega)
  have lf : len (f : Int) ≤ 1 := len_pow_lt (e := 1) (by omega)
  obtain ⟨H, e, hH⟩ := horI_form' (A := 1) (C := 8) (a := ((j + 1 : Nat) : Int)) (d := (f : Int)) (by omega) la lf (ipB k) (fun u hu => ipB_len (by omega) u hu)
  rw [ipB_length (by omega)] at e hH
  refine ⟨(f : Int) ^ (k - 1) * H, ?_, ?_⟩
  · rw [trm, trmD, bpL_eq (by omega), horQ_scale, e, Rat.divInt_eq_div, Rat.divInt_eq_div, Rat.div_def, Rat.div_def, Rat.intCast_mul, Rat.intCast_mul, Rat.intCast_pow, Rat.inv_mul_rev, Rat.mul_assoc, Rat.mul_assoc]
    congr 2
    all_goals (first | exact (Rat.intCast_pow _ _).symm | exact Rat.mul_comm _ _ | trace_state)
  · have l1 := len_mul ((f : Int) ^ (k - 1)) H
    have l2 := len_pow (f : Int) (k - 1)
    have l3 : (k - 1) * len (f : Int) ≤ (k - 1) * 1 := Nat.mul_le_mul_left _ lf
    omega
theorem trmD_ne {k f : Nat} (hf : 1 ≤ f) : trmD k f ≠ 0 := Int.mul_ne_zero (Int.pow_ne_zero (by omega)) bL_ne
theorem len_trmD {k f : Nat} (hk : k ≤ 40) (hf2 : f ≤ 60) : len (trmD k f) ≤ 60 := by
  have lf : len (f : Int) ≤ 1 := len_pow_lt (e := 1) (by omega)
  have l1 := len_mul ((f : Int) ^ (k + 1)) bL
  have l2 := len_pow (f : Int) (k + 1)
  have l3 : (k + 1) * len (f : Int) ≤ (k + 1) * 1 := Nat.mul_le_mul_left _ lf
  have := bL_len
  rw [trmD]
  omega
theorem lq_trm {k f j : Nat} (hk : k ≤ 40) (hf : 1 ≤ f) (hf2 : f ≤ 60) (hj : j < f) : lq (trm k f j) ≤ 300 := by
  obtain ⟨H, e, hH⟩ := trm_form hk hf hf2 hj
  have h1 := lq_divInt (n := H) (trmD_ne (k := k) hf)
  have h2 := len_trmD hk hf2
  rw [e]
  unfold lq
  omega
/-- The sum of the first n of them, with signs. -/
def qsum (c : Nat → Int) (k f : Nat) : Nat → Rat
  | 0 => 0
  | n + 1 => qsum c k f n + (c n : Rat) * trm k f n
theorem qsum_zero (c : Nat → Int) (k f : Nat) : qsum c k f 0 = 0 := rfl
theorem qsum_succ (c : Nat → Int) (k f n : Nat) : qsum c k f (n + 1) = qsum c k f n + (c n : Rat) * trm k f n := rfl
theorem len_sgn {c : Int} (hc : c = 1 ∨ c = 0 ∨ c = -1) (H : Int) : len (c * H) ≤ len H := by
  rcases hc with rfl | rfl | rfl
  · rw [Int.one_mul]; exact Nat.le_refl _
  · rw [Int.zero_mul, show len 0 = 0 by simp [len, digs_zero]]; omega
  · rw [Int.neg_mul, Int.one_mul, len_neg]; exact Nat.le_refl _
theorem qsum_form {c : Nat → Int} {k f : Nat} (hc : ∀ j, j < f → c j = 1 ∨ c j = 0 ∨ c j = -1) (hk : k ≤ 40) (hf : 1 ≤ f) (hf2 : f ≤ 60) : ∀ n, n ≤ f → ∃ N : Int, qsum c k f n = Rat.divInt N (trmD k f) ∧ len N ≤ 200 + n
  | 0, _ => ⟨0, by rw [Rat.zero_divInt]; rfl, by rw [show len 0 = 0 by simp [len, digs_zero]]; omega⟩
  | n + 1, h => by
    obtain ⟨N, e, hN⟩ := qsum_form hc hk hf hf2 n (by omega)
    obtain ⟨H, e2, hH⟩ := trm_form hk hf hf2 (j := n) (by omega)
    have l1 := len_add N (c n * H)
    have l2 := len_sgn (hc n (by omega)) H
    exact ⟨N + c n * H, by rw [qsum_succ, e, e2, divInt_lin], by omega⟩
theorem lq_qsum {c : Nat → Int} {k f : Nat} (hc : ∀ j, j < f → c j = 1 ∨ c j = 0 ∨ c j = -1) (hk : k ≤ 40) (hf : 1 ≤ f) (hf2 : f ≤ 60) {n : Nat} (hn : n ≤ f) : lq (qsum c k f n) ≤ 400 := by
  obtain ⟨N, e, hN⟩ := qsum_form hc hk hf hf2 n hn
  have h1 := lq_divInt (n := N) (trmD_ne (k := k) hf)
  have h2 := len_trmD hk hf2
  rw [e]
  unfold lq
  omega
/-- The list of them. -/
def smd (k f n : Nat) : List Rat := (List.range n).map (trm k f)
theorem smd_length (k f n : Nat) : (smd k f n).length = n := by simp [smd]
theorem smd_succ (k f n : Nat) : smd k f (n + 1) = smd k f n ++ [trm k f n] := by simp [smd, List.range_succ]
theorem smd_getD {k f n j : Nat} (h : j < n) : (smd k f n).getD j 0 = trm k f j := by simp [smd, h]
end Go.Num
