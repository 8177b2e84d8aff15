/- Contracts of functions of the program, and what proves them (texts: D1n D4). -/
import Derived.Test.YtmblfadpimfagaaGreatDoorZAO
set_option linter.all false
namespace Go.Num
theorem lq_div (a b : Rat) (hb : b ≠ 0) : lq (a / b) ≤ lq a + lq b := by
  rw [div_divInt]
  have hn : b.num ≠ 0 := fun e => hb (by rw [← Rat.num_divInt_den b, e, Rat.zero_divInt])
  obtain ⟨h1, h2⟩ := lq_divInt (n := a.num * (b.den : Int)) (Int.mul_ne_zero (den_ne a) hn)
  have h4 := len_mul a.num (b.den : Int)
  have h6 := len_mul (a.den : Int) b.num
  unfold lq
  omega
theorem lq_sub (a b : Rat) : lq (a - b) ≤ lq a + lq b + lq a + lq b + 1 := by
  rw [Rat.sub_eq_add_neg]
  have := lq_add a (-b)
  rw [lq_neg] at this
  exact this
end Go.Num
namespace Go.Proofs.YtmblfadpimfagaaGreatDoor
open Go Go.Lg Go.Num
set_option maxRecDepth 100000
set_option maxHeartbeats 4000000
attribute [local irreducible] Go.Lg.lrun Go.Lg.lwp Go.Lg.exThen Go.Lg.exBlk Go.Lg.keep Go.Lg.goodPost sg mg bq
theorem num_in {m : Int} (h0 : 0 ≤ m) (h : m ≤ 60) : PureGood Tryz.prog 11 [i64 m] (.tup [encQ (bq m.toNat), i64 0]) := by
  have h1 := number_good m (by omega)
  rwa [encB, bqN, bqD, if_pos (by omega), if_pos (by omega), if_pos (by omega), ← encQ_sm] at h1
theorem lq_small {m : Int} (h0 : 0 ≤ m) (h : m ≤ 100000) : lq (m : Rat) ≤ 2 := by
  rw [lq_int]
  have := len_pow_lt (a := m) (e := 1) (by omega)
  omega
end Go.Proofs.YtmblfadpimfagaaGreatDoor

namespace Go.Proofs.YtmblfadpimfagaaGreatDoor
open Go Go.Lg Go.Num
set_option maxRecDepth 100000
set_option maxHeartbeats 4000000
theorem lenL_mg (s : LS) (z : Int) : lenL s (mg z) = some (digs z.natAbs).length := rfl
attribute [local irreducible] Go.Lg.lrun Go.Lg.lwp Go.Lg.exThen Go.Lg.exBlk Go.Lg.keep Go.Lg.goodPost sg mg bq
theorem sameRats_self (f : List Rat) (hf : ∀ c ∈ f, lq c ≤ 100000) (hl : f.length ≤ 1000000000) : PureGood Tryz.prog 25 [encF f, encF f] (.lit (.bool true)) := by
  rw [encF_qc]
  refine good_of_lwp mix Tryz.func25 rfl (by decide) (nt := 27) rfl (rs := [.tmp 4]) rfl (Nat.le_of_ble_eq_true rfl) ?_
  (repeat (first|apply zO (by decide +kernel)|apply zP (by decide +kernel)|apply zA|apply zB|apply zF|apply zG|apply zH|apply zI|apply zJ|apply zK|apply zL (by decide)|apply zM|apply zN (by decide)|apply zD|apply zC|apply zE|((first|apply l_go rfl|apply c_dec); (case hs => (simp (disch := first|omega|exact kD rfl|exact kX rfl) only [smZ, tyA, simprocAttr, bl, i64, smT]; exact rfl)); first|refine c_bt ?_|refine c_bf ?_|show lrun _ _ _ _ _ _ _ _ _)|(apply l_call rfl (by decide) rfl; (case hc => (simp (disch := first|omega|exact kD rfl|exact kX rfl) only [smZ, tyA, simprocAttr, bl, i64, smT]; exact rfl)); (case hg => assumption))))
  refine w_loop (α := {k : Nat // k ≤ f.length}) (fun k => st 27 (lk [(0, .sl f.length (qc f)), (1, .sl f.length (qc f)), (4, bl false), (5, i64 k.1)]) (lkH []) 0) (fun k => f.length - k.1) ⟨0, by omega⟩ ?_ ?_
  · (refine Sub.plain ?_; simp only [smF, dg, renL, renLs, simprocAttr, bl, i64, smT])
  · rintro ⟨k, hk⟩
    simp only [st]
    by_cases h : k < f.length
    · have hm : lq (f.getD k 0) ≤ 100000 := by
        have : f.getD k 0 = f[k] := by simp [h]
        rw [this]
        exact hf _ (List.getElem_mem _)
      have hs := sameRat_self (f.getD k 0) (by omega)
      generalize hc : f.getD k 0 = c at *
      rw [encQ_sm] at hs
      (repeat (first|apply zO (by decide +kernel)|apply zP (by decide +kernel)|apply zA|apply zB|apply zF|apply zG|apply zH|apply zI|apply zJ|apply zK|apply zL (by decide)|apply zM|apply zN (by decide)|apply zD|apply zC|apply zE|((first|apply l_go rfl|apply c_dec); (case hs => (simp (disch := first|omega|exact kD rfl|exact kX rfl) only [smZ, tyA, simprocAttr, bl, i64, smT, hc]; exact rfl)); first|refine c_bt ?_|refine c_bf ?_|show lrun _ _ _ _ _ _ _ _ _)|(apply l_call rfl (by decide) rfl; (case hc => (simp (disch := first|omega|exact kD rfl|exact kX rfl) only [smZ, tyA, simprocAttr, bl, i64, smT, hc]; exact rfl)); (case hg => assumption))))
      refine ⟨⟨k + 1, by omega⟩, ?_, by simp only; omega⟩
      (refine Sub.plain ?_; simp only [smF, dg, renL, renLs, simprocAttr, bl, i64, smT])
    · obtain rfl : k = f.length := by omega
      (repeat (first|apply zO (by decide +kernel)|apply zP (by decide +kernel)|apply zA|apply zB|apply zF|apply zG|apply zH|apply zI|apply zJ|apply zK|apply zL (by decide)|apply zM|apply zN (by decide)|apply zD|apply zC|apply zE|((first|apply l_go rfl|apply c_dec); (case hs => (simp (disch := first|omega|exact kD rfl|exact kX rfl) only [smZ, tyA, simprocAttr, bl, i64, smT]; exact rfl)); first|refine c_bt ?_|refine c_bf ?_|show lrun _ _ _ _ _ _ _ _ _)|(apply l_call rfl (by decide) rfl; (case hc => (simp (disch := first|omega|exact kD rfl|exact kX rfl) only [smZ, tyA, simprocAttr, bl, i64, smT]; exact rfl)); (case hg => assumption))))
      ((first | apply g_ret | apply g_end); case hres => (simp only [resL, rOs, rO, Option.map_some]; simp (disch := first|omega|exact kD rfl|exact kX rfl) only [smZ, tyA, simprocAttr, bl, i64, smT]; exact rfl))
      simp (disch := first|omega|exact kD rfl|exact kX rfl) only [smZ, tyA, simprocAttr, bl, i64, smT]
/-- The coefficients of the Bernoulli polynomial. -/
def bp (n k : Nat) : List Rat := (List.range k).map fun j => ((ch n j : Int) : Rat) * bq (n - j)
theorem bp_length (n k : Nat) : (bp n k).length = k := by simp [bp]
theorem bp_succ (n k : Nat) : bp n (k + 1) = bp n k ++ [((ch n k : Int) : Rat) * bq (n - k)] := by simp [bp, List.range_succ]
theorem bp_getD {n k j : Nat} (h : j < k) : (bp n k).getD j 0 = ((ch n j : Int) : Rat) * bq (n - j) := by simp [bp, h]
theorem lq_bpc {n : Nat} (hn : n ≤ 60) (j : Nat) : lq (((ch n j : Int) : Rat) * bq (n - j)) ≤ 30 := by
  have c1 := len_ch (show n ≤ 100 by omega) j
  have c3 := lq_bq (n - j)
  have c4 := lq_mul ((ch n j : Int) : Rat) (bq (n - j))
  have c5 := lq_int (ch n j : Int)
  omega
theorem bp_small {n : Nat} (hn : n ≤ 60) (k : Nat) : ∀ c ∈ bp n k, lq c ≤ 30 := by
  intro c hc
  simp only [bp, List.mem_map] at hc
  obtain ⟨j, _, rfl⟩ := hc
  exact lq_bpc hn j
def encPoly (n : Int) : LV := .tup [encF (if 0 ≤ n ∧ n ≤ 40 then bp n.toNat (n.toNat + 1) else []), i64 (if 0 ≤ n ∧ n ≤ 40 then 0 else 2)]
theorem rPolynomial_good (n : Int) (h : -9223372036854775808 ≤ n ∧ n ≤ 9223372036854775807) : PureGood Tryz.prog 24 [i64 n] (encPoly n) := by
  rw [encPoly]
  by_cases hr : 0 ≤ n ∧ n ≤ 40
  · obtain ⟨m, rfl⟩ : ∃ m : Nat, n = m := ⟨n.toNat, by omega⟩
    have hm : m ≤ 40 := by omega
    rw [if_pos hr, if_pos hr, Int.toNat_natCast, encF_qc, bp_length]
    have g1 := rNumbers_good m (by omega)
    have g2 := rRow_good m (by omega)
    have hl := bn_length (m + 1)
    have hl2 := rowP_length m (m + 1)
    rw [encF_qc, bn_length] at g1
    rw [encL, rowP_length] at g2
    simp only [i64] at g1 g2 ⊢
    have step : ∀ k : Nat, k ≤ m → PureGood Tryz.prog 60 [encI (ch m k)] (encQ ((ch m k : Int) : Rat)) ∧ PureGood Tryz.prog 59 [encQ ((ch m k : Int) : Rat), encQ (bq (m - k))] (encQ (((ch m k : Int) : Rat) * bq (m - k))) ∧
        (rowP m (m + 1)).getD k 0 = (ch m k : Int) ∧ (bn (m + 1)).getD (m - k) 0 = bq (m - k) := by
      intro k hk
      have c1 := len_ch (show m ≤ 100 by omega) k
      have c3 := lq_bq (m - k)
      have c5 := lq_int (ch m k : Int)
      exact ⟨rwhole_good (ch m k) (by omega), rqmul_good ((ch m k : Int) : Rat) (bq (m - k)) (by omega) (by omega), rowP_getD (by omega), bn_getD (by omega)⟩
    have b1 : bp m 1 = [((ch m 0 : Int) : Rat) * bq m] := rfl
    obtain ⟨w1, w2, e1, e2⟩ := step 0 (by omega)
    rw [Nat.sub_zero] at w2 e2
    have hs0 : ((m : Int) - 0).toNat = m := by omega
    generalize ((ch m 0 : Int) : Rat) * bq m = c0 at *
    simp only [encI_sm, encQ_sm] at w1 w2
    refine good_of_lwp mix Tryz.func24 rfl (by decide) (nt := 39) rfl (rs := [.tmp 2, .tmp 3]) rfl (Nat.le_of_ble_eq_true rfl) ?_
    (repeat (first|apply zO (by decide +kernel)|apply zP (by decide +kernel)|apply zA|apply zB|apply zF|apply zG|apply zH|apply zI|apply zJ|apply zK|apply zL (by decide)|apply zM|apply zN (by decide)|apply zD|apply zC|apply zE|((first|apply l_go rfl|apply c_dec); (case hs => (simp (disch := first|omega|exact kD rfl|exact kX rfl) only [smZ, tyA, simprocAttr, bl, i64, smT]; exact rfl)); first|refine c_bt ?_|refine c_bf ?_|show lrun _ _ _ _ _ _ _ _ _)|(apply l_call rfl (by decide) rfl; (case hc => (simp (disch := first|omega|exact kD rfl|exact kX rfl) only [smZ, tyA, simprocAttr, bl, i64, smT]; exact rfl)); (case hg => assumption))))
    refine loop_more (s' := ?_) (fun Φ hΦ => ?_) ?_
    rotate_left
    · (repeat (first|apply zO (by decide +kernel)|apply zP (by decide +kernel)|apply zA|apply zB|apply zF|apply zG|apply zH|apply zI|apply zJ|apply zK|apply zL (by decide)|apply zM|apply zN (by decide)|apply zD|apply zC|apply zE|((first|apply l_go rfl|apply c_dec); (case hs => (simp (disch := first|omega|exact kD rfl|exact kX rfl) only [smZ, tyA, simprocAttr, bl, i64, smT, e1, e2, hs0]; exact rfl)); first|refine c_bt ?_|refine c_bf ?_|show lrun _ _ _ _ _ _ _ _ _)|(apply l_call rfl (by decide) rfl; (case hc => (simp (disch := first|omega|exact kD rfl|exact kX rfl) only [smZ, tyA, simprocAttr, bl, i64, smT, e1, e2, hs0]; exact rfl)); (case hg => assumption))))
      exact hΦ
    refine w_loop (α := {k : Nat // 0 < k ∧ k ≤ m + 1}) (fun k => st 39 (lk [(0, i64 m), (2, nilL), (3, i64 0), (4, .sl (m + 1) (qc (bn (m + 1)))), (5, .sl (m + 1) (ic (rowP m (m + 1)))), (6, .own 0 0 k.1 4), (7, i64 k.1)]) (lkH [(0, ⟨27, qc (bp m k.1), false⟩)]) 1) (fun k => m + 1 - k.1) ⟨1, by omega, by omega⟩ ?_ ?_
    · (refine Sub.heap1 33 ?_ (by simp only [smF, dg, renL, renLs, simprocAttr, bl, i64, smT]; exact rfl) ?_ ?_; all_goals (first | exact dgs_plain _ | with_reducible rfl | (simp only [smF, dg, renL, renLs, simprocAttr, bl, i64, smT]; done) | (simp only [smF, dg, renL, renLs, simprocAttr, bl, i64, smT]) | skip))
      rw [b1, ← qc_one]
    · rintro ⟨k, hk0, hk⟩
      simp only [st]
      have hl3 := bp_length m k
      by_cases hlt : k ≤ m
      · obtain ⟨w1, w2, e1, e2⟩ := step k hlt
        have happ := bp_succ m k
        have hsub : ((m : Int) - (k : Int)).toNat = m - k := by omega
        generalize ((ch m k : Int) : Rat) * bq (m - k) = c0 at *
        simp only [encI_sm, encQ_sm] at w1 w2
        (repeat (first|apply zO (by decide +kernel)|apply zP (by decide +kernel)|apply zA|apply zB|apply zF|apply zG|apply zH|apply zI|apply zJ|apply zK|apply zL (by decide)|apply zM|apply zN (by decide)|apply zD|apply zC|apply zE|((first|apply l_go rfl|apply c_dec); (case hs => (simp (disch := first|omega|exact kD rfl|exact kX rfl) only [smZ, tyA, simprocAttr, bl, i64, smT, e1, e2]; exact rfl)); first|refine c_bt ?_|refine c_bf ?_|show lrun _ _ _ _ _ _ _ _ _)|(apply l_call rfl (by decide) rfl; (case hc => (simp (disch := first|omega|exact kD rfl|exact kX rfl) only [smZ, tyA, simprocAttr, bl, i64, smT, e1, e2]; exact rfl)); (case hg => assumption))))
        refine ⟨⟨k + 1, by omega, by omega⟩, ?_, by simp only; omega⟩
        (refine Sub.heap1 18 ?_ (by simp only [smF, dg, renL, renLs, simprocAttr, bl, i64, smT]; exact rfl) ?_ ?_; all_goals (first | exact dgs_plain _ | with_reducible rfl | (simp only [smF, dg, renL, renLs, simprocAttr, bl, i64, smT]; done) | (simp only [smF, dg, renL, renLs, simprocAttr, bl, i64, smT]) | skip))
        rw [happ, ← qc_app]
      · obtain rfl : k = m + 1 := by omega
        (repeat (first|apply zO (by decide +kernel)|apply zP (by decide +kernel)|apply zA|apply zB|apply zF|apply zG|apply zH|apply zI|apply zJ|apply zK|apply zL (by decide)|apply zM|apply zN (by decide)|apply zD|apply zC|apply zE|((first|apply l_go rfl|apply c_dec); (case hs => (simp (disch := first|omega|exact kD rfl|exact kX rfl) only [smZ, tyA, simprocAttr, bl, i64, smT]; exact rfl)); first|refine c_bt ?_|refine c_bf ?_|show lrun _ _ _ _ _ _ _ _ _)|(apply l_call rfl (by decide) rfl; (case hc => (simp (disch := first|omega|exact kD rfl|exact kX rfl) only [smZ, tyA, simprocAttr, bl, i64, smT]; exact rfl)); (case hg => assumption))))
        ((first | apply g_ret | apply g_end); case hres => (simp only [resL, rOs, rO, Option.map_some]; simp (disch := first|omega|exact kD rfl|exact kX rfl) only [smZ, tyA, simprocAttr, bl, i64, smT]; exact rfl))
        simp (disch := first|omega|exact kD rfl|exact kX rfl) only [smZ, tyA, simprocAttr, bl, i64, smT]
  · rw [if_neg hr, if_neg hr]
    rw [i64] at *
    by_cases hneg : n < 0
    · refine good_of_lwp mix Tryz.func24 rfl (by decide) (nt := 39) rfl (rs := [.tmp 2, .tmp 3]) rfl (Nat.le_of_ble_eq_true rfl) ?_
      (repeat (first|apply zO (by decide +kernel)|apply zP (by decide +kernel)|apply zA|apply zB|apply zF|apply zG|apply zH|apply zI|apply zJ|apply zK|apply zL (by decide)|apply zM|apply zN (by decide)|apply zD|apply zC|apply zE|((first|apply l_go rfl|apply c_dec); (case hs => (simp (disch := first|omega|exact kD rfl|exact kX rfl) only [smZ, tyA, simprocAttr, bl, i64, smT]; exact rfl)); first|refine c_bt ?_|refine c_bf ?_|show lrun _ _ _ _ _ _ _ _ _)|(apply l_call rfl (by decide) rfl; (case hc => (simp (disch := first|omega|exact kD rfl|exact kX rfl) only [smZ, tyA, simprocAttr, bl, i64, smT]; exact rfl)); (case hg => assumption))))
      ((first | apply g_ret | apply g_end); case hres => (simp only [resL, rOs, rO, Option.map_some]; simp (disch := first|omega|exact kD rfl|exact kX rfl) only [smZ, tyA, simprocAttr, bl, i64, smT]; exact rfl))
      simp (disch := first|omega|exact kD rfl|exact kX rfl) only [smZ, tyA, simprocAttr, bl, i64, smT]
      rfl
    · have hgt : 40 < n := by omega
      refine good_of_lwp mix Tryz.func24 rfl (by decide) (nt := 39) rfl (rs := [.tmp 2, .tmp 3]) rfl (Nat.le_of_ble_eq_true rfl) ?_
      (repeat (first|apply zO (by decide +kernel)|apply zP (by decide +kernel)|apply zA|apply zB|apply zF|apply zG|apply zH|apply zI|apply zJ|apply zK|apply zL (by decide)|apply zM|apply zN (by decide)|apply zD|apply zC|apply zE|((first|apply l_go rfl|apply c_dec); (case hs => (simp (disch := first|omega|exact kD rfl|exact kX rfl) only [smZ, tyA, simprocAttr, bl, i64, smT]; exact rfl)); first|refine c_bt ?_|refine c_bf ?_|show lrun _ _ _ _ _ _ _ _ _)|(apply l_call rfl (by decide) rfl; (case hc => (simp (disch := first|omega|exact kD rfl|exact kX rfl) only [smZ, tyA, simprocAttr, bl, i64, smT]; exact rfl)); (case hg => assumption))))
      ((first | apply g_ret | apply g_end); case hres => (simp only [resL, rOs, rO, Option.map_some]; simp (disch := first|omega|exact kD rfl|exact kX rfl) only [smZ, tyA, simprocAttr, bl, i64, smT]; exact rfl))
      simp (disch := first|omega|exact kD rfl|exact kX rfl) only [smZ, tyA, simprocAttr, bl, i64, smT]
      rfl
/-- Without zeros at the end. -/
def trimQ (f : List Rat) : List Rat := (f.reverse.dropWhile (· == 0)).reverse
theorem trimQ_snoc_nz (f : List Rat) {c : Rat} (h : c ≠ 0) : trimQ (f ++ [c]) = f ++ [c] := by
  simp [trimQ, h]
theorem trimQ_snoc_z (f : List Rat) : trimQ (f ++ [0]) = trimQ f := by
  simp [trimQ]
theorem trimQ_nil : trimQ [] = [] := rfl
theorem snoc_of {f : List Rat} (h : 0 < f.length) : f = f.take (f.length - 1) ++ [f.getD (f.length - 1) 0] := by
  have h1 : f.getD (f.length - 1) 0 = f[f.length - 1] := by simp [show f.length - 1 < f.length by omega]
  rw [h1, List.take_append_getElem (by omega), show f.length - 1 + 1 = f.length by omega, List.take_length]
theorem num_z (q : Rat) : q.num = 0 ↔ q = 0 := Rat.num_eq_zero
theorem qc_h1 {l : List Rat} {j : Nat} (h : j < l.length) : ((qc l).drop (j * 4 + 1)).head? = some (mg (l.getD j 0).num) := by
  rw [← List.drop_drop, qc_drop, List.drop_eq_getElem_cons h]
  have : l.getD j 0 = l[j] := by simp [h]
  rw [this]
  simp only [qc, List.flatMap_cons, qcells_sm]
  simp
theorem qc_takes (l : List Rat) (k : Nat) : (qc l).take (k * 4) = qc (l.take k) := by
  by_cases h : k ≤ l.length
  · conv => lhs; rw [← List.take_append_drop k l]
    rw [qc, List.flatMap_append]
    rw [List.take_append_of_le_length (by have := qc_len (l.take k); rw [qc] at this; rw [this, List.length_take]; omega), List.take_of_length_le (by have := qc_len (l.take k); rw [qc] at this; rw [this, List.length_take]; omega)]
    rfl
  · rw [List.take_of_length_le (by rw [qc_len]; omega), List.take_of_length_le (by omega)]
theorem qtrim_good (f : List Rat) (hl : f.length ≤ 1000000000) : PureGood Tryz.prog 137 [encF f] (encF (trimQ f)) := by
  rw [encF_qc]
  refine good_of_lwp mix Tryz.func137 rfl (by decide) (nt := 24) rfl (rs := [.tmp 2]) rfl (Nat.le_of_ble_eq_true rfl) ?_
  (repeat (first|apply zO (by decide +kernel)|apply zP (by decide +kernel)|apply zA|apply zB|apply zF|apply zG|apply zH|apply zI|apply zJ|apply zK|apply zL (by decide)|apply zM|apply zN (by decide)|apply zD|apply zC|apply zE|((first|apply l_go rfl|apply c_dec); (case hs => (simp (disch := first|omega|exact kD rfl|exact kX rfl) only [smZ, tyA, simprocAttr, bl, i64, smT]; exact rfl)); first|refine c_bt ?_|refine c_bf ?_|show lrun _ _ _ _ _ _ _ _ _)|(apply l_call rfl (by decide) rfl; (case hc => (simp (disch := first|omega|exact kD rfl|exact kX rfl) only [smZ, tyA, simprocAttr, bl, i64, smT]; exact rfl)); (case hg => assumption))))
  refine w_loop (α := {g : List Rat // trimQ g = trimQ f ∧ g.length ≤ f.length}) (fun g => st 24 (lk [(0, .sl g.1.length (qc g.1)), (2, nilL)]) (lkH []) 0) (fun g => g.1.length) ⟨f, rfl, Nat.le_refl _⟩ ?_ ?_
  · (refine Sub.plain ?_; simp only [smF, dg, renL, renLs, simprocAttr, bl, i64, smT])
  · rintro ⟨g, hg, hgl⟩
    simp only [st]
    by_cases h0 : 0 < g.length
    · have hg' := snoc_of h0
      have hh := qc_h1 (l := g) (j := g.length - 1) (by omega)
      by_cases hz : g.getD (g.length - 1) 0 = 0
      · have hd : (digs 0).length = 0 := by simp [digs_zero]
        rw [hz, show (0 : Rat).num = 0 from rfl] at hh
        (repeat (first|apply zO (by decide +kernel)|apply zP (by decide +kernel)|apply zA|apply zB|apply zF|apply zG|apply zH|apply zI|apply zJ|apply zK|apply zL (by decide)|apply zM|apply zN (by decide)|apply zD|apply zC|apply zE|((first|apply l_go rfl|apply c_dec); (case hs => (simp (disch := first|omega|exact kD rfl|exact kX rfl) only [smZ, tyA, simprocAttr, bl, i64, smT, lenL_mg, hh, Int.natAbs_zero]; exact rfl)); first|refine c_bt ?_|refine c_bf ?_|show lrun _ _ _ _ _ _ _ _ _)|(apply l_call rfl (by decide) rfl; (case hc => (simp (disch := first|omega|exact kD rfl|exact kX rfl) only [smZ, tyA, simprocAttr, bl, i64, smT, lenL_mg, hh, Int.natAbs_zero]; exact rfl)); (case hg => assumption))))
        rw [hz] at hg'
        have hg2 : trimQ (g.take (g.length - 1)) = trimQ f := by rw [← hg, hg', trimQ_snoc_z, ← hg']
        have hgl2 : (g.take (g.length - 1)).length = g.length - 1 := by rw [List.length_take]; omega
        refine ⟨⟨g.take (g.length - 1), hg2, by omega⟩, ?_, by simp only; omega⟩
        simp only [hgl2, ← qc_takes]
        (refine Sub.plain ?_; simp only [smF, dg, renL, renLs, simprocAttr, bl, i64, smT])
      · have hzn : (g.getD (g.length - 1) 0).num ≠ 0 := fun e => hz ((num_z _).1 e)
        have hd : (digs (g.getD (g.length - 1) 0).num.natAbs).length ≠ 0 := fun e => hzn (by have := digs_eq_nil.1 (List.eq_nil_of_length_eq_zero e); omega)
        have hfin : trimQ g = g := by
          conv => lhs; rw [hg']
          rw [trimQ_snoc_nz _ hz, ← hg']
        rw [← hg, hfin, encF_qc]
        generalize (g.getD (g.length - 1) 0).num = z at *
        (repeat (first|apply zO (by decide +kernel)|apply zP (by decide +kernel)|apply zA|apply zB|apply zF|apply zG|apply zH|apply zI|apply zJ|apply zK|apply zL (by decide)|apply zM|apply zN (by decide)|apply zD|apply zC|apply zE|((first|apply l_go rfl|apply c_dec); (case hs => (simp (disch := first|omega|exact kD rfl|exact kX rfl) only [smZ, tyA, simprocAttr, bl, i64, smT, lenL_mg, hh]; exact rfl)); first|refine c_bt ?_|refine c_bf ?_|show lrun _ _ _ _ _ _ _ _ _)|(apply l_call rfl (by decide) rfl; (case hc => (simp (disch := first|omega|exact kD rfl|exact kX rfl) only [smZ, tyA, simprocAttr, bl, i64, smT, lenL_mg, hh]; exact rfl)); (case hg => assumption))))
        ((first | apply g_ret | apply g_end); case hres => (simp only [resL, rOs, rO, Option.map_some]; simp (disch := first|omega|exact kD rfl|exact kX rfl) only [smZ, tyA, simprocAttr, bl, i64, smT]; exact rfl))
        simp (disch := first|omega|exact kD rfl|exact kX rfl) only [smZ, tyA, simprocAttr, bl, i64, smT]
    · have : g = [] := List.length_eq_zero_iff.1 (by omega)
      subst this
      rw [trimQ_nil] at hg
      rw [← hg]
      (repeat (first|apply zO (by decide +kernel)|apply zP (by decide +kernel)|apply zA|apply zB|apply zF|apply zG|apply zH|apply zI|apply zJ|apply zK|apply zL (by decide)|apply zM|apply zN (by decide)|apply zD|apply zC|apply zE|((first|apply l_go rfl|apply c_dec); (case hs => (simp (disch := first|omega|exact kD rfl|exact kX rfl) only [smZ, tyA, simprocAttr, bl, i64, smT]; exact rfl)); first|refine c_bt ?_|refine c_bf ?_|show lrun _ _ _ _ _ _ _ _ _)|(apply l_call rfl (by decide) rfl; (case hc => (simp (disch := first|omega|exact kD rfl|exact kX rfl) only [smZ, tyA, simprocAttr, bl, i64, smT]; exact rfl)); (case hg => assumption))))
      ((first | apply g_ret | apply g_end); case hres => (simp only [resL, rOs, rO, Option.map_some]; simp (disch := first|omega|exact kD rfl|exact kX rfl) only [smZ, tyA, simprocAttr, bl, i64, smT]; exact rfl))
      simp (disch := first|omega|exact kD rfl|exact kX rfl) only [smZ, tyA, simprocAttr, bl, i64, smT]
      rfl
theorem cyc_length (z : List LV) (n : Nat) : (cyc z n).length = n := by simp [cyc]
def z4 : List LV := [bl false, .lit (.slice none 0 0), bl false, .lit (.slice none 0 0)]
/-- The cells of a row of fractions that is filled as far as k. -/
def fillC (f : List Rat) (k : Nat) : List LV := qc (f.take k) ++ (cyc z4 (f.length * 4)).drop (k * 4)
theorem fillC_zero (f : List Rat) : fillC f 0 = cyc z4 (f.length * 4) := by simp [fillC, qc]
theorem fillC_all (f : List Rat) : fillC f f.length = qc f := by
  rw [fillC, List.take_length, List.drop_of_length_le (by rw [cyc_length]; omega), List.append_nil]
theorem fillC_len {f : List Rat} {k : Nat} (h : k ≤ f.length) : (fillC f k).length = f.length * 4 := by
  rw [fillC, List.length_append, qc_len, List.length_take, List.length_drop, cyc_length]
  omega
theorem fillC_step {f : List Rat} {k : Nat} (h : k < f.length) {c : Rat} (hc : f.getD k 0 = c) : (fillC f k).take (k * 4) ++ [sg c.num, mg c.num, sg (c.den : Int), mg (c.den : Int)] ++ (fillC f k).drop (k * 4 + 4) = fillC f (k + 1) := by
  have e1 : (qc (f.take k)).length = k * 4 := by rw [qc_len, List.length_take]; omega
  have e2 : f.take (k + 1) = f.take k ++ [c] := by
    rw [List.take_succ_eq_append_getElem h]
    have : f.getD k 0 = f[k] := by simp [h]
    rw [← this, hc]
  rw [fillC, List.take_append_of_le_length (by omega), List.take_of_length_le (by omega), List.drop_append, List.drop_of_length_le (by omega), e1, List.nil_append, List.drop_drop, fillC, e2, ← qc_app, show k * 4 + 4 - k * 4 = 4 by omega, show k * 4 + 4 = (k + 1) * 4 by omega]
theorem fillC_plain (f : List Rat) (k : Nat) : ∀ c ∈ fillC f k, plainC c = true := by
  intro c hc
  rcases List.mem_append.1 hc with h | h
  · exact qc_all (Q := fun c => plainC c = true) s9 s10 _ c h
  · have h1 := List.mem_of_mem_drop h
    simp only [cyc, List.mem_map, List.mem_range] at h1
    obtain ⟨i, _, rfl⟩ := h1
    have : i % z4.length < 4 := Nat.mod_lt _ (by decide)
    generalize i % z4.length = j at *
    match j, this with
    | 0, _ => rfl
    | 1, _ => rfl
    | 2, _ => rfl
    | 3, _ => rfl
theorem qpnorm_good (f : List Rat) (hl : f.length ≤ 100000000) (hf : ∀ c ∈ f, lq c ≤ 100000) : PureGood Tryz.prog 104 [encF f] (encF (trimQ f)) := by
  have ht := qtrim_good f (by omega)
  rw [encF_qc] at *
  refine good_of_lwp mix Tryz.func104 rfl (by decide) (nt := 24) rfl (rs := [.tmp 2]) rfl (Nat.le_of_ble_eq_true rfl) ?_
  (repeat (first|apply zO (by decide +kernel)|apply zP (by decide +kernel)|apply zA|apply zB|apply zF|apply zG|apply zH|apply zI|apply zJ|apply zK|apply zL (by decide)|apply zM|apply zN (by decide)|apply zD|apply zC|apply zE|((first|apply l_go rfl|apply c_dec); (case hs => (simp (disch := first|omega|exact kD rfl|exact kX rfl) only [smZ, tyA, simprocAttr, bl, i64, smT]; exact rfl)); first|refine c_bt ?_|refine c_bf ?_|show lrun _ _ _ _ _ _ _ _ _)|(apply l_call rfl (by decide) rfl; (case hc => (simp (disch := first|omega|exact kD rfl|exact kX rfl) only [smZ, tyA, simprocAttr, bl, i64, smT]; exact rfl)); (case hg => assumption))))
  refine w_loop (α := {k : Nat // k ≤ f.length}) (fun k => st 24 (lk [(0, .sl f.length (qc f)), (2, nilL), (3, .own 0 0 f.length 4), (9, .sl f.length (qc f)), (10, i64 f.length), (11, i64 k.1)]) (lkH [(0, ⟨27, fillC f k.1, false⟩)]) 1) (fun k => f.length - k.1) ⟨0, by omega⟩ ?_ ?_
  · (refine Sub.heap1 3 ?_ (by simp only [smF, dg, renL, renLs, simprocAttr, bl, i64, smT]; exact rfl) ?_ ?_; all_goals (first | exact dgs_plain _ | with_reducible rfl | (simp only [smF, dg, renL, renLs, simprocAttr, bl, i64, smT]; done) | (simp only [smF, dg, renL, renLs, simprocAttr, bl, i64, smT]) | skip))
    · rw [fillC_zero]; rfl
    · exact fillC_plain _ _
  · rintro ⟨k, hk⟩
    simp only [st]
    by_cases h : k < f.length
    · have hm : lq (f.getD k 0) ≤ 100000 := by
        have : f.getD k 0 = f[k] := by simp [h]
        rw [this]
        exact hf _ (List.getElem_mem _)
      have hn := qnorm_good (f.getD k 0) (by omega)
      have hfl := fillC_len hk
      generalize hc : f.getD k 0 = c at *
      have hst := fillC_step h hc
      rw [encQ_sm] at hn
      generalize fillC f k = L at *
      (repeat (first|apply zO (by decide +kernel)|apply zP (by decide +kernel)|apply zA|apply zB|apply zF|apply zG|apply zH|apply zI|apply zJ|apply zK|apply zL (by decide)|apply zM|apply zN (by decide)|apply zD|apply zC|apply zE|((first|apply l_go rfl|apply c_dec); (case hs => (simp (disch := first|omega|exact kD rfl|exact kX rfl) only [smZ, tyA, simprocAttr, bl, i64, smT, hc]; exact rfl)); first|refine c_bt ?_|refine c_bf ?_|show lrun _ _ _ _ _ _ _ _ _)|(apply l_call rfl (by decide) rfl; (case hc => (simp (disch := first|omega|exact kD rfl|exact kX rfl) only [smZ, tyA, simprocAttr, bl, i64, smT, hc]; exact rfl)); (case hg => assumption))))
      refine ⟨⟨k + 1, by omega⟩, ?_, by simp only; omega⟩
      (refine Sub.heap1 0 ?_ (by simp only [smF, dg, renL, renLs, simprocAttr, bl, i64, smT]; exact rfl) ?_ ?_; all_goals (first | exact dgs_plain _ | with_reducible rfl | (simp only [smF, dg, renL, renLs, simprocAttr, bl, i64, smT]; done) | (simp only [smF, dg, renL, renLs, simprocAttr, bl, i64, smT]) | skip))
      · exact hst
      · exact fillC_plain _ _
    · obtain rfl : k = f.length := by omega
      rw [fillC_all]
      (repeat (first|apply zO (by decide +kernel)|apply zP (by decide +kernel)|apply zA|apply zB|apply zF|apply zG|apply zH|apply zI|apply zJ|apply zK|apply zL (by decide)|apply zM|apply zN (by decide)|apply zD|apply zC|apply zE|((first|apply l_go rfl|apply c_dec); (case hs => (simp (disch := first|omega|exact kD rfl|exact kX rfl) only [smZ, tyA, simprocAttr, bl, i64, smT]; exact rfl)); first|refine c_bt ?_|refine c_bf ?_|show lrun _ _ _ _ _ _ _ _ _)|(apply l_call rfl (by decide) rfl; (case hc => (simp (disch := first|omega|exact kD rfl|exact kX rfl) only [smZ, tyA, simprocAttr, bl, i64, smT]; exact rfl)); (case hg => assumption))))
      ((first | apply g_ret | apply g_end); case hres => (simp only [resL, rOs, rO, Option.map_some]; simp (disch := first|omega|exact kD rfl|exact kX rfl) only [smZ, tyA, simprocAttr, bl, i64, smT]; exact rfl))
      simp (disch := first|omega|exact kD rfl|exact kX rfl) only [smZ, tyA, simprocAttr, bl, i64, smT]
      rfl
theorem bq_zero_one : bq 0 = 1 := bq0
theorem bp_trim (m : Nat) : trimQ (bp m (m + 1)) = bp m (m + 1) := by
  rw [bp_succ, trimQ_snoc_nz]
  rw [Nat.sub_self, ch_self, bq0]
  decide +kernel
theorem polynomial_good (m : Nat) (hm : m ≤ 60) : PureGood Tryz.prog 57 [i64 m] (encF (bp m (m + 1))) := by
  have hn := qpnorm_good (bp m (m + 1)) (by rw [bp_length]; omega) (fun c hc => by have := bp_small hm (m + 1) c hc; omega)
  rw [bp_trim, encF_qc, bp_length] at hn
  rw [encF_qc, bp_length]
  have g1 := numbers_good m (by omega)
  have g2 := row_good m (by omega)
  have hl := bn_length (m + 1)
  have hl2 := rowP_length m (m + 1)
  rw [encF_qc, bn_length] at g1
  rw [encL, rowP_length] at g2
  simp only [i64] at g1 g2 ⊢
  have step : ∀ k : Nat, k ≤ m → PureGood Tryz.prog 35 [encI (ch m k)] (encQ ((ch m k : Int) : Rat)) ∧ PureGood Tryz.prog 30 [encQ ((ch m k : Int) : Rat), encQ (bq (m - k))] (encQ (((ch m k : Int) : Rat) * bq (m - k))) ∧
      (rowP m (m + 1)).getD k 0 = (ch m k : Int) ∧ (bn (m + 1)).getD (m - k) 0 = bq (m - k) := by
    intro k hk
    have c1 := len_ch (show m ≤ 100 by omega) k
    have c3 := lq_bq (m - k)
    have c5 := lq_int (ch m k : Int)
    exact ⟨whole_good (ch m k) (by omega), qmul_good ((ch m k : Int) : Rat) (bq (m - k)) (by omega) (by omega), rowP_getD (by omega), bn_getD (by omega)⟩
  have b1 : bp m 1 = [((ch m 0 : Int) : Rat) * bq m] := rfl
  obtain ⟨w1, w2, e1, e2⟩ := step 0 (by omega)
  rw [Nat.sub_zero] at w2 e2
  have hs0 : ((m : Int) - 0).toNat = m := by omega
  generalize ((ch m 0 : Int) : Rat) * bq m = c0 at *
  simp only [encI_sm, encQ_sm] at w1 w2
  refine good_of_lwp mix Tryz.func57 rfl (by decide) (nt := 33) rfl (rs := [.tmp 2]) rfl (Nat.le_of_ble_eq_true rfl) ?_
  (repeat (first|apply zO (by decide +kernel)|apply zP (by decide +kernel)|apply zA|apply zB|apply zF|apply zG|apply zH|apply zI|apply zJ|apply zK|apply zL (by decide)|apply zM|apply zN (by decide)|apply zD|apply zC|apply zE|((first|apply l_go rfl|apply c_dec); (case hs => (simp (disch := first|omega|exact kD rfl|exact kX rfl) only [smZ, tyA, simprocAttr, bl, i64, smT]; exact rfl)); first|refine c_bt ?_|refine c_bf ?_|show lrun _ _ _ _ _ _ _ _ _)|(apply l_call rfl (by decide) rfl; (case hc => (simp (disch := first|omega|exact kD rfl|exact kX rfl) only [smZ, tyA, simprocAttr, bl, i64, smT]; exact rfl)); (case hg => assumption))))
  refine loop_more (s' := ?_) (fun Φ hΦ => ?_) ?_
  rotate_left
  · (repeat (first|apply zO (by decide +kernel)|apply zP (by decide +kernel)|apply zA|apply zB|apply zF|apply zG|apply zH|apply zI|apply zJ|apply zK|apply zL (by decide)|apply zM|apply zN (by decide)|apply zD|apply zC|apply zE|((first|apply l_go rfl|apply c_dec); (case hs => (simp (disch := first|omega|exact kD rfl|exact kX rfl) only [smZ, tyA, simprocAttr, bl, i64, smT, e1, e2, hs0]; exact rfl)); first|refine c_bt ?_|refine c_bf ?_|show lrun _ _ _ _ _ _ _ _ _)|(apply l_call rfl (by decide) rfl; (case hc => (simp (disch := first|omega|exact kD rfl|exact kX rfl) only [smZ, tyA, simprocAttr, bl, i64, smT, e1, e2, hs0]; exact rfl)); (case hg => assumption))))
    exact hΦ
  refine w_loop (α := {k : Nat // 0 < k ∧ k ≤ m + 1}) (fun k => st 33 (lk [(0, i64 m), (2, nilL), (3, .sl (m + 1) (qc (bn (m + 1)))), (4, .sl (m + 1) (ic (rowP m (m + 1)))), (5, .own 0 0 k.1 4), (6, i64 k.1)]) (lkH [(0, ⟨27, qc (bp m k.1), false⟩)]) 1) (fun k => m + 1 - k.1) ⟨1, by omega, by omega⟩ ?_ ?_
  · (refine Sub.heap1 26 ?_ (by simp only [smF, dg, renL, renLs, simprocAttr, bl, i64, smT]; exact rfl) ?_ ?_; all_goals (first | exact dgs_plain _ | with_reducible rfl | (simp only [smF, dg, renL, renLs, simprocAttr, bl, i64, smT]; done) | (simp only [smF, dg, renL, renLs, simprocAttr, bl, i64, smT]) | skip))
    rw [b1, ← qc_one]
  · rintro ⟨k, hk0, hk⟩
    simp only [st]
    have hl3 := bp_length m k
    by_cases hlt : k ≤ m
    · obtain ⟨w1, w2, e1, e2⟩ := step k hlt
      have happ := bp_succ m k
      have hsub : ((m : Int) - (k : Int)).toNat = m - k := by omega
      generalize ((ch m k : Int) : Rat) * bq (m - k) = c0 at *
      simp only [encI_sm, encQ_sm] at w1 w2
      (repeat (first|apply zO (by decide +kernel)|apply zP (by decide +kernel)|apply zA|apply zB|apply zF|apply zG|apply zH|apply zI|apply zJ|apply zK|apply zL (by decide)|apply zM|apply zN (by decide)|apply zD|apply zC|apply zE|((first|apply l_go rfl|apply c_dec); (case hs => (simp (disch := first|omega|exact kD rfl|exact kX rfl) only [smZ, tyA, simprocAttr, bl, i64, smT, e1, e2]; exact rfl)); first|refine c_bt ?_|refine c_bf ?_|show lrun _ _ _ _ _ _ _ _ _)|(apply l_call rfl (by decide) rfl; (case hc => (simp (disch := first|omega|exact kD rfl|exact kX rfl) only [smZ, tyA, simprocAttr, bl, i64, smT, e1, e2]; exact rfl)); (case hg => assumption))))
      refine ⟨⟨k + 1, by omega, by omega⟩, ?_, by simp only; omega⟩
      (refine Sub.heap1 18 ?_ (by simp only [smF, dg, renL, renLs, simprocAttr, bl, i64, smT]; exact rfl) ?_ ?_; all_goals (first | exact dgs_plain _ | with_reducible rfl | (simp only [smF, dg, renL, renLs, simprocAttr, bl, i64, smT]; done) | (simp only [smF, dg, renL, renLs, simprocAttr, bl, i64, smT]) | skip))
      rw [happ, ← qc_app]
    · obtain rfl : k = m + 1 := by omega
      (repeat (first|apply zO (by decide +kernel)|apply zP (by decide +kernel)|apply zA|apply zB|apply zF|apply zG|apply zH|apply zI|apply zJ|apply zK|apply zL (by decide)|apply zM|apply zN (by decide)|apply zD|apply zC|apply zE|((first|apply l_go rfl|apply c_dec); (case hs => (simp (disch := first|omega|exact kD rfl|exact kX rfl) only [smZ, tyA, simprocAttr, bl, i64, smT]; exact rfl)); first|refine c_bt ?_|refine c_bf ?_|show lrun _ _ _ _ _ _ _ _ _)|(apply l_call rfl (by decide) rfl; (case hc => (simp (disch := first|omega|exact kD rfl|exact kX rfl) only [smZ, tyA, simprocAttr, bl, i64, smT]; exact rfl)); (case hg => assumption))))
      ((first | apply g_ret | apply g_end); case hres => (simp only [resL, rOs, rO, Option.map_some]; simp (disch := first|omega|exact kD rfl|exact kX rfl) only [smZ, tyA, simprocAttr, bl, i64, smT]; exact rfl))
      simp (disch := first|omega|exact kD rfl|exact kX rfl) only [smZ, tyA, simprocAttr, bl, i64, smT]
theorem Polynomial_good (n : Int) (h : -9223372036854775808 ≤ n ∧ n ≤ 9223372036854775807) : PureGood Tryz.prog 23 [i64 n] (encPoly n) := by
  rw [encPoly]
  by_cases hr : 0 ≤ n ∧ n ≤ 40
  · obtain ⟨m, rfl⟩ : ∃ m : Nat, n = m := ⟨n.toNat, by omega⟩
    rw [if_pos hr, if_pos hr, Int.toNat_natCast, encF_qc, bp_length]
    have g1 := polynomial_good m (by omega)
    rw [encF_qc, bp_length] at g1
    simp only [i64] at *
    refine good_of_lwp mix Tryz.func23 rfl (by decide) (nt := 12) rfl (rs := [.tmp 2, .tmp 3]) rfl (Nat.le_of_ble_eq_true rfl) ?_
    (repeat (first|apply zO (by decide +kernel)|apply zP (by decide +kernel)|apply zA|apply zB|apply zF|apply zG|apply zH|apply zI|apply zJ|apply zK|apply zL (by decide)|apply zM|apply zN (by decide)|apply zD|apply zC|apply zE|((first|apply l_go rfl|apply c_dec); (case hs => (simp (disch := first|omega|exact kD rfl|exact kX rfl) only [smZ, tyA, simprocAttr, bl, i64, smT]; exact rfl)); first|refine c_bt ?_|refine c_bf ?_|show lrun _ _ _ _ _ _ _ _ _)|(apply l_call rfl (by decide) rfl; (case hc => (simp (disch := first|omega|exact kD rfl|exact kX rfl) only [smZ, tyA, simprocAttr, bl, i64, smT]; exact rfl)); (case hg => assumption))))
    ((first | apply g_ret | apply g_end); case hres => (simp only [resL, rOs, rO, Option.map_some]; simp (disch := first|omega|exact kD rfl|exact kX rfl) only [smZ, tyA, simprocAttr, bl, i64, smT]; exact rfl))
    simp (disch := first|omega|exact kD rfl|exact kX rfl) only [smZ, tyA, simprocAttr, bl, i64, smT]
  · rw [if_neg hr, if_neg hr]
    rw [i64] at *
    by_cases hneg : n < 0
    · refine good_of_lwp mix Tryz.func23 rfl (by decide) (nt := 12) rfl (rs := [.tmp 2, .tmp 3]) rfl (Nat.le_of_ble_eq_true rfl) ?_
      (repeat (first|apply zO (by decide +kernel)|apply zP (by decide +kernel)|apply zA|apply zB|apply zF|apply zG|apply zH|apply zI|apply zJ|apply zK|apply zL (by decide)|apply zM|apply zN (by decide)|apply zD|apply zC|apply zE|((first|apply l_go rfl|apply c_dec); (case hs => (simp (disch := first|omega|exact kD rfl|exact kX rfl) only [smZ, tyA, simprocAttr, bl, i64, smT]; exact rfl)); first|refine c_bt ?_|refine c_bf ?_|show lrun _ _ _ _ _ _ _ _ _)|(apply l_call rfl (by decide) rfl; (case hc => (simp (disch := first|omega|exact kD rfl|exact kX rfl) only [smZ, tyA, simprocAttr, bl, i64, smT]; exact rfl)); (case hg => assumption))))
      ((first | apply g_ret | apply g_end); case hres => (simp only [resL, rOs, rO, Option.map_some]; simp (disch := first|omega|exact kD rfl|exact kX rfl) only [smZ, tyA, simprocAttr, bl, i64, smT]; exact rfl))
      simp (disch := first|omega|exact kD rfl|exact kX rfl) only [smZ, tyA, simprocAttr, bl, i64, smT]
      rfl
    · have hgt : 40 < n := by omega
      refine good_of_lwp mix Tryz.func23 rfl (by decide) (nt := 12) rfl (rs := [.tmp 2, .tmp 3]) rfl (Nat.le_of_ble_eq_true rfl) ?_
      (repeat (first|apply zO (by decide +kernel)|apply zP (by decide +kernel)|apply zA|apply zB|apply zF|apply zG|apply zH|apply zI|apply zJ|apply zK|apply zL (by decide)|apply zM|apply zN (by decide)|apply zD|apply zC|apply zE|((first|apply l_go rfl|apply c_dec); (case hs => (simp (disch := first|omega|exact kD rfl|exact kX rfl) only [smZ, tyA, simprocAttr, bl, i64, smT]; exact rfl)); first|refine c_bt ?_|refine c_bf ?_|show lrun _ _ _ _ _ _ _ _ _)|(apply l_call rfl (by decide) rfl; (case hc => (simp (disch := first|omega|exact kD rfl|exact kX rfl) only [smZ, tyA, simprocAttr, bl, i64, smT]; exact rfl)); (case hg => assumption))))
      ((first | apply g_ret | apply g_end); case hres => (simp only [resL, rOs, rO, Option.map_some]; simp (disch := first|omega|exact kD rfl|exact kX rfl) only [smZ, tyA, simprocAttr, bl, i64, smT]; exact rfl))
      simp (disch := first|omega|exact kD rfl|exact kX rfl) only [smZ, tyA, simprocAttr, bl, i64, smT]
      rfl
theorem lawPolynomials_good (n : Int) (h : -9223372036854775808 ≤ n ∧ n ≤ 9223372036854775807) : PureGood Tryz.prog 6 [i64 n] (.lit (.bool true)) := by
  have h0 := awake_good
  have h1 := Polynomial_good n h
  have h2 := rPolynomial_good n h
  have h3 : PureGood Tryz.prog 25 [encF (if 0 ≤ n ∧ n ≤ 40 then bp n.toNat (n.toNat + 1) else []), encF (if 0 ≤ n ∧ n ≤ 40 then bp n.toNat (n.toNat + 1) else [])] (.lit (.bool true)) := by
    split
    · refine sameRats_self _ (fun c hc => ?_) ?_
      · have := bp_small (n := n.toNat) (by omega) _ c hc
        omega
      · rw [bp_length]; omega
    · exact sameRats_self [] (by simp) (by simp)
  rw [encPoly] at h1 h2
  generalize (if 0 ≤ n ∧ n ≤ 40 then bp n.toNat (n.toNat + 1) else []) = f at *
  generalize (if 0 ≤ n ∧ n ≤ 40 then 0 else 2 : Int) = e at *
  simp only [encF_qc, i64] at *
  refine good_of_lwp mix Tryz.func6 rfl (by decide) (nt := 27) rfl (rs := [.tmp 2]) rfl (Nat.le_of_ble_eq_true rfl) ?_
  (repeat (first|apply zO (by decide +kernel)|apply zP (by decide +kernel)|apply zA|apply zB|apply zF|apply zG|apply zH|apply zI|apply zJ|apply zK|apply zL (by decide)|apply zM|apply zN (by decide)|apply zD|apply zC|apply zE|((first|apply l_go rfl|apply c_dec); (case hs => (simp (disch := first|omega|exact kD rfl|exact kX rfl) only [smZ, tyA, simprocAttr, bl, i64, smT]; exact rfl)); first|refine c_bt ?_|refine c_bf ?_|show lrun _ _ _ _ _ _ _ _ _)|(apply l_call rfl (by decide) rfl; (case hc => (simp (disch := first|omega|exact kD rfl|exact kX rfl) only [smZ, tyA, simprocAttr, bl, i64, smT]; exact rfl)); (case hg => assumption))))
  ((first | apply g_ret | apply g_end); case hres => (simp only [resL, rOs, rO, Option.map_some]; simp (disch := first|omega|exact kD rfl|exact kX rfl) only [smZ, tyA, simprocAttr, bl, i64, smT]; exact rfl))
  simp (disch := first|omega|exact kD rfl|exact kX rfl) only [smZ, tyA, simprocAttr, bl, i64, smT]
end Go.Proofs.YtmblfadpimfagaaGreatDoor
