/- Contracts of functions of the program, and what proves them (texts: EV). -/
import Derived.Test.YtbajpjjbaffnnaaGreatZBJ
import Derived.Test.YtbajpjjbaffnnaaGreatZBP
set_option linter.all false
namespace Go.Proofs.YtbajpjjbaffnnaaGreat
open Go Go.Lg Go.Num
set_option maxRecDepth 100000
set_option maxHeartbeats 4000000
attribute [local irreducible] Go.Lg.lrun Go.Lg.lwp Go.Lg.exThen Go.Lg.exBlk Go.Lg.keep Go.Lg.goodPost sg mg ec
theorem gcd_le24 {n d : Nat} (n1 : 1 ≤ n) (n2 : n ≤ 600) (hd : n % d = 0) : Nat.gcd d (n / d) ≤ 24 := by
  have h1 : Nat.gcd d (n / d) * Nat.gcd d (n / d) ∣ n := by
    have h2 : n / d * d = n := Nat.div_mul_cancel (Nat.dvd_of_mod_eq_zero hd)
    have h3 : Nat.gcd d (n / d) * Nat.gcd d (n / d) ∣ n / d * d := Nat.mul_dvd_mul (Nat.gcd_dvd_right ..) (Nat.gcd_dvd_left ..)
    rwa [h2] at h3
  have h2 := Nat.le_of_dvd n1 h1
  generalize Nat.gcd d (n / d) = g at *
  by_cases h : g ≤ 24
  · exact h
  · have : 25 * 25 ≤ g * g := Nat.mul_le_mul (by omega) (by omega)
    omega
theorem Order_ok {n : Nat} {xs : List Int} (h : EtaOk n xs) (he : etaErr n xs = 0) {d : Nat} (d1 : 1 ≤ d) (hd : n % d = 0) : PureGood Tryz.prog 27 [.agg [i64 n, .sl xs.length (ec xs)], i64 d] (.tup [encQ (ordQ n xs d xs.length), i64 0]) := by
  have n1 := h.n1
  have n2 := h.n2
  have l1 := h.len_le
  have hcn : d ≤ n := Nat.le_of_dvd (by omega) (Nat.dvd_of_mod_eq_zero hd)
  have g := Order_good n xs (by omega) (by omega) d (by omega)
  have ok : ordOk n xs d := ⟨he, by omega, by omega⟩
  unfold ordN ordD ordE at g
  rw [if_pos ok, if_pos ok, if_pos he, if_pos ok, Int.toNat_natCast, Int.toNat_natCast] at g
  rw [encQ_sm]
  exact g
theorem check_any (lv : Int) (xs : List Int) (hlv : -9223372036854775808 ≤ lv ∧ lv ≤ 9223372036854775807) : PureGood Tryz.prog 24 [.agg [i64 lv, .sl xs.length (ec xs)]] (i64 (etaErr lv xs)) := by
  by_cases hl : xs.length ≤ 1000000
  · exact check_good lv xs hlv hl
  · unfold etaErr
    by_cases h1 : 1 ≤ lv ∧ lv ≤ 600
    · rw [if_pos h1]
      obtain ⟨n, rfl⟩ : ∃ n : Nat, lv = n := ⟨lv.toNat, by omega⟩
      rw [Int.toNat_natCast]
      have g1 := divisors_good (n := n) (by omega) (by omega)
      have l1 := divN_length_le n (by omega)
      rw [if_neg (by omega)]
      simp only [i64] at *
      refine good_of_lwp mix Tryz.func24 rfl (by decide) (nt := 23) rfl (rs := [.tmp 2]) rfl (Nat.le_of_ble_eq_true rfl) ?_
      (repeat (first|apply zO (by decide +kernel)|apply zP (by decide +kernel)|apply zA|apply zB|apply zF|apply zG|apply zH|apply zI|apply zJ|apply zK|apply zL (by decide)|apply zM|apply zN (by decide)|apply zD|apply zC|apply zE|((first|apply l_go rfl|apply c_dec); (case hs => (simp (disch := first|omega|exact kD rfl|exact kX rfl) only [smZ, tyA, simprocAttr, bl, i64, smS, smE]; exact rfl)); first|refine c_bt ?_|refine c_bf ?_|show lrun _ _ _ _ _ _ _ _ _)|(apply l_call rfl (by decide) rfl; (case hc => (simp (disch := first|omega|exact kD rfl|exact kX rfl) only [smZ, tyA, simprocAttr, bl, i64, smS, smE]; exact rfl)); (case hg => assumption))))
      ((first | apply g_ret | apply g_end); case hres => (simp only [resL, rOs, rO, Option.map_some]; simp (disch := first|omega|exact kD rfl|exact kX rfl) only [smZ, tyA, simprocAttr, bl, i64, smS, smE]; exact rfl))
      simp (disch := first|omega|exact kD rfl|exact kX rfl) only [smZ, tyA, simprocAttr, bl, i64, smS, smE]
    · rw [if_neg h1]
      by_cases h2 : lv < 1
      · refine good_of_lwp mix Tryz.func24 rfl (by decide) (nt := 23) rfl (rs := [.tmp 2]) rfl (Nat.le_of_ble_eq_true rfl) ?_
        (repeat (first|apply zO (by decide +kernel)|apply zP (by decide +kernel)|apply zA|apply zB|apply zF|apply zG|apply zH|apply zI|apply zJ|apply zK|apply zL (by decide)|apply zM|apply zN (by decide)|apply zD|apply zC|apply zE|((first|apply l_go rfl|apply c_dec); (case hs => (simp (disch := first|omega|exact kD rfl|exact kX rfl) only [smZ, tyA, simprocAttr, bl, i64, smS, smE]; exact rfl)); first|refine c_bt ?_|refine c_bf ?_|show lrun _ _ _ _ _ _ _ _ _)|(apply l_call rfl (by decide) rfl; (case hc => (simp (disch := first|omega|exact kD rfl|exact kX rfl) only [smZ, tyA, simprocAttr, bl, i64, smS, smE]; exact rfl)); (case hg => assumption))))
        ((first | apply g_ret | apply g_end); case hres => (simp only [resL, rOs, rO, Option.map_some]; simp (disch := first|omega|exact kD rfl|exact kX rfl) only [smZ, tyA, simprocAttr, bl, i64, smS, smE]; exact rfl))
        simp (disch := first|omega|exact kD rfl|exact kX rfl) only [smZ, tyA, simprocAttr, bl, i64, smS, smE]
      · refine good_of_lwp mix Tryz.func24 rfl (by decide) (nt := 23) rfl (rs := [.tmp 2]) rfl (Nat.le_of_ble_eq_true rfl) ?_
        (repeat (first|apply zO (by decide +kernel)|apply zP (by decide +kernel)|apply zA|apply zB|apply zF|apply zG|apply zH|apply zI|apply zJ|apply zK|apply zL (by decide)|apply zM|apply zN (by decide)|apply zD|apply zC|apply zE|((first|apply l_go rfl|apply c_dec); (case hs => (simp (disch := first|omega|exact kD rfl|exact kX rfl) only [smZ, tyA, simprocAttr, bl, i64, smS, smE]; exact rfl)); first|refine c_bt ?_|refine c_bf ?_|show lrun _ _ _ _ _ _ _ _ _)|(apply l_call rfl (by decide) rfl; (case hc => (simp (disch := first|omega|exact kD rfl|exact kX rfl) only [smZ, tyA, simprocAttr, bl, i64, smS, smE]; exact rfl)); (case hg => assumption))))
        ((first | apply g_ret | apply g_end); case hres => (simp only [resL, rOs, rO, Option.map_some]; simp (disch := first|omega|exact kD rfl|exact kX rfl) only [smZ, tyA, simprocAttr, bl, i64, smS, smE]; exact rfl))
        simp (disch := first|omega|exact kD rfl|exact kX rfl) only [smZ, tyA, simprocAttr, bl, i64, smS, smE]
theorem rcheck_any (lv : Int) (xs : List Int) (hlv : -9223372036854775808 ≤ lv ∧ lv ≤ 9223372036854775807) : PureGood Tryz.prog 23 [.agg [i64 lv, .sl xs.length (ec xs)]] (i64 (etaErr lv xs)) := by
  by_cases hl : xs.length ≤ 1000000
  · exact rcheck_good lv xs hlv hl
  · unfold etaErr
    by_cases h1 : 1 ≤ lv ∧ lv ≤ 600
    · rw [if_pos h1]
      obtain ⟨n, rfl⟩ : ∃ n : Nat, lv = n := ⟨lv.toNat, by omega⟩
      rw [Int.toNat_natCast]
      have g1 := rdivisors_good (n := n) (by omega) (by omega)
      have l1 := divN_length_le n (by omega)
      rw [if_neg (by omega)]
      simp only [i64] at *
      refine good_of_lwp mix Tryz.func23 rfl (by decide) (nt := 41) rfl (rs := [.tmp 2]) rfl (Nat.le_of_ble_eq_true rfl) ?_
      (repeat (first|apply zO (by decide +kernel)|apply zP (by decide +kernel)|apply zA|apply zB|apply zF|apply zG|apply zH|apply zI|apply zJ|apply zK|apply zL (by decide)|apply zM|apply zN (by decide)|apply zD|apply zC|apply zE|((first|apply l_go rfl|apply c_dec); (case hs => (simp (disch := first|omega|exact kD rfl|exact kX rfl) only [smZ, tyA, simprocAttr, bl, i64, smS, smE]; exact rfl)); first|refine c_bt ?_|refine c_bf ?_|show lrun _ _ _ _ _ _ _ _ _)|(apply l_call rfl (by decide) rfl; (case hc => (simp (disch := first|omega|exact kD rfl|exact kX rfl) only [smZ, tyA, simprocAttr, bl, i64, smS, smE]; exact rfl)); (case hg => assumption))))
      ((first | apply g_ret | apply g_end); case hres => (simp only [resL, rOs, rO, Option.map_some]; simp (disch := first|omega|exact kD rfl|exact kX rfl) only [smZ, tyA, simprocAttr, bl, i64, smS, smE]; exact rfl))
      simp (disch := first|omega|exact kD rfl|exact kX rfl) only [smZ, tyA, simprocAttr, bl, i64, smS, smE]
    · rw [if_neg h1]
      by_cases h2 : lv < 1
      · refine good_of_lwp mix Tryz.func23 rfl (by decide) (nt := 41) rfl (rs := [.tmp 2]) rfl (Nat.le_of_ble_eq_true rfl) ?_
        (repeat (first|apply zO (by decide +kernel)|apply zP (by decide +kernel)|apply zA|apply zB|apply zF|apply zG|apply zH|apply zI|apply zJ|apply zK|apply zL (by decide)|apply zM|apply zN (by decide)|apply zD|apply zC|apply zE|((first|apply l_go rfl|apply c_dec); (case hs => (simp (disch := first|omega|exact kD rfl|exact kX rfl) only [smZ, tyA, simprocAttr, bl, i64, smS, smE]; exact rfl)); first|refine c_bt ?_|refine c_bf ?_|show lrun _ _ _ _ _ _ _ _ _)|(apply l_call rfl (by decide) rfl; (case hc => (simp (disch := first|omega|exact kD rfl|exact kX rfl) only [smZ, tyA, simprocAttr, bl, i64, smS, smE]; exact rfl)); (case hg => assumption))))
        ((first | apply g_ret | apply g_end); case hres => (simp only [resL, rOs, rO, Option.map_some]; simp (disch := first|omega|exact kD rfl|exact kX rfl) only [smZ, tyA, simprocAttr, bl, i64, smS, smE]; exact rfl))
        simp (disch := first|omega|exact kD rfl|exact kX rfl) only [smZ, tyA, simprocAttr, bl, i64, smS, smE]
      · refine good_of_lwp mix Tryz.func23 rfl (by decide) (nt := 41) rfl (rs := [.tmp 2]) rfl (Nat.le_of_ble_eq_true rfl) ?_
        (repeat (first|apply zO (by decide +kernel)|apply zP (by decide +kernel)|apply zA|apply zB|apply zF|apply zG|apply zH|apply zI|apply zJ|apply zK|apply zL (by decide)|apply zM|apply zN (by decide)|apply zD|apply zC|apply zE|((first|apply l_go rfl|apply c_dec); (case hs => (simp (disch := first|omega|exact kD rfl|exact kX rfl) only [smZ, tyA, simprocAttr, bl, i64, smS, smE]; exact rfl)); first|refine c_bt ?_|refine c_bf ?_|show lrun _ _ _ _ _ _ _ _ _)|(apply l_call rfl (by decide) rfl; (case hc => (simp (disch := first|omega|exact kD rfl|exact kX rfl) only [smZ, tyA, simprocAttr, bl, i64, smS, smE]; exact rfl)); (case hg => assumption))))
        ((first | apply g_ret | apply g_end); case hres => (simp only [resL, rOs, rO, Option.map_some]; simp (disch := first|omega|exact kD rfl|exact kX rfl) only [smZ, tyA, simprocAttr, bl, i64, smS, smE]; exact rfl))
        simp (disch := first|omega|exact kD rfl|exact kX rfl) only [smZ, tyA, simprocAttr, bl, i64, smS, smE]
theorem lawValence_good (ha : PureGood Tryz.prog 13 [] (.lit (.bool true))) (lv : Int) (xs : List Int) (hlv : -9223372036854775808 ≤ lv ∧ lv ≤ 9223372036854775807) : PureGood Tryz.prog 5 [.agg [i64 lv, .sl xs.length (ec xs)]] (.lit (.bool true)) := by
  have g0 := check_any lv xs hlv
  have g0' := rcheck_any lv xs hlv
  by_cases he : etaErr lv xs = 0
  · obtain ⟨n, rfl, h⟩ := etaOk_of he
    have n1 := h.n1
    have n2 := h.n2
    have hl := h.len
    have l1 := h.len_le
    have g1 := adivisors_good n1 n2
    have dl := divL_length n
    have gp := psi_good n1 n2
    have hv := val_row n1 n2
    have q0 := baseQ_good 0 (by omega)
    rw [show ((0 : Int) : Rat) = valQ n xs 0 by rw [valQ_zero]; rfl] at q0
    have bs := h.s0 (Nat.le_refl xs.length)
    have bp := mul_bd (a := ((psiN n : Nat) : Int)) (b := psum (exS xs) xs.length) (A := 3000) (B := 4800) (by omega) (by omega)
    have f1 := frac_good (((psiN n : Nat) : Int) * psum (exS xs) xs.length) 24 (by omega) (by omega)
    rw [← valQ_last h] at f1
    have b1 := lq_val h (Nat.le_refl xs.length)
    have f2 := rqsame_good (valQ n xs xs.length) (valQ n xs xs.length) (by omega) (by omega)
    rw [dec_t rfl] at f2
    rw [← hl] at g1 dl
    rw [he] at g0 g0'
    generalize psiN n = psi at *
    simp only [encQ_sm, i64, bl] at *
    refine good_of_lwp mix Tryz.func5 rfl (by decide) (nt := 118) rfl (rs := [.tmp 2]) rfl (Nat.le_of_ble_eq_true rfl) ?_
    (repeat (first|apply zO (by decide +kernel)|apply zP (by decide +kernel)|apply zA|apply zB|apply zF|apply zG|apply zH|apply zI|apply zJ|apply zK|apply zL (by decide)|apply zM|apply zN (by decide)|apply zD|apply zC|apply zE|((first|apply l_go rfl|apply c_dec); (case hs => (simp (disch := first|omega|exact kD rfl|exact kX rfl) only [smZ, tyA, simprocAttr, bl, i64, smS, smE]; exact rfl)); first|refine c_bt ?_|refine c_bf ?_|show lrun _ _ _ _ _ _ _ _ _)|(apply l_call rfl (by decide) rfl; (case hc => (simp (disch := first|omega|exact kD rfl|exact kX rfl) only [smZ, tyA, simprocAttr, bl, i64, smS, smE]; exact rfl)); (case hg => assumption))))
    refine w_loop (α := {k : Nat // k ≤ xs.length}) (fun k => st 118 (lk [(1, .ptr 0 0), (3, .sl xs.length (ec (divL n))), (4, i64 0), (5, i64 psi), (6, i64 0), (7, .ptr 1 0), (8, i64 (psum (exS xs) k.1)), (9, i64 k.1)]) (lkH [(0, ⟨24, [i64 n, .sl xs.length (ec xs)], false⟩), (1, ⟨46, [sg (valQ n xs k.1).num, mg (valQ n xs k.1).num, sg ((valQ n xs k.1).den : Int), mg ((valQ n xs k.1).den : Int)], false⟩)]) 2) (fun k => xs.length - k.1) ⟨0, by omega⟩ ?_ ?_
    · (refine Sub.heapL [0,22] rfl (by decide) ?_ (by simp only [List.forall_mem_cons, List.not_mem_nil, false_imp_iff, implies_true, and_true]; decide) ?_ ?_; all_goals (first | (simp only [plainC, smF, dg, renL, renLs, simprocAttr, bl, i64, smS, smE]; done) | (simp only [smF, dg, renL, renLs, simprocAttr, bl, i64, smS, smE]; (repeat' apply And.intro); all_goals rfl) | (simp only [smF, dg, renL, renLs, simprocAttr, bl, i64, smS, smE]) | skip))
      all_goals (first | exact ⟨rfl, rfl⟩ | simp [psum])
    · rintro ⟨k, hk⟩
      simp only [st]
      by_cases h1 : k < xs.length
      · obtain ⟨d, e1, e2, e3, e4, e5⟩ := divL_get (n := n) (k := k) (hl ▸ h1)
        have c0 := h.get k
        have s1 := h.s0 hk
        have eS : psum (exS xs) (k + 1) = psum (exS xs) k + xs.getD k 0 := rfl
        have r1 := Order_ok h he e2 e4
        have b2 := lq_ord h e2 (by omega) (Nat.le_refl xs.length)
        have r2 := gcdA_good d (n / d) (by omega) (by have : n / d ≤ n := Nat.div_le_self _ _; omega)
        have p2 : 0 < Nat.gcd d (n / d) := Nat.gcd_pos_of_pos_left _ e2
        have r3 := phi_good (n := Nat.gcd d (n / d)) p2 (gcd_le24 n1 n2 e4)
        have hcu : cusps n d ≤ 24 := by
          have hm : d ∈ divN n := by
            have hk2 : k < (divN n).length := by omega
            have : (divN n).getD k 0 = (divN n)[k] := by simp [hk2]
            rw [← e5, this]; exact List.getElem_mem hk2
          exact hv.2.1 _ hm
        have e6 : phiN (Nat.gcd d (n / d)) = cusps n d := rfl
        rw [e6] at r3
        have r4 := baseQ_good ((cusps n d : Nat) : Int) (by omega)
        have b3 := lq_i64 (z := ((cusps n d : Nat) : Int)) (by omega)
        have r5 := rqmul_good ((((cusps n d : Nat) : Int)) : Rat) (ordQ n xs d xs.length) (by omega) (by omega)
        have b4 := lq_mul ((((cusps n d : Nat) : Int)) : Rat) (ordQ n xs d xs.length)
        have b5 := lq_val h hk
        have r6 := rqadd_good (valQ n xs k) (((((cusps n d : Nat) : Int)) : Rat) * ordQ n xs d xs.length) (by omega) (by omega)
        have es := valQ_succ n xs k
        rw [e5] at es
        rw [← es] at r6
        clear es b2 b3 b4 b5 e6
        generalize ((((cusps n d : Nat) : Int)) : Rat) * ordQ n xs d xs.length = q1 at *
        generalize ordQ n xs d xs.length = q2 at *
        generalize cusps n d = cu at *
        generalize Nat.gcd d (n / d) = gg at *
        have b6 : n / d ≤ n := Nat.div_le_self _ _
        generalize hq : n / d = q at *
        generalize psum (exS xs) k = S at *
        generalize hx : xs.getD k 0 = x at *
        simp only [encQ_sm, i64, bl] at *
        (repeat (first|apply zO (by decide +kernel)|apply zP (by decide +kernel)|apply zA|apply zB|apply zF|apply zG|apply zH|apply zI|apply zJ|apply zK|apply zL (by decide)|apply zM|apply zN (by decide)|apply zD|apply zC|apply zE|((first|apply l_go rfl|apply c_dec); (case hs => (simp (disch := first|omega|exact kD rfl|exact kX rfl) only [smZ, tyA, simprocAttr, bl, i64, smS, smE, e1, hx, hq]; exact rfl)); first|refine c_bt ?_|refine c_bf ?_|show lrun _ _ _ _ _ _ _ _ _)|(apply l_call rfl (by decide) rfl; (case hc => (simp (disch := first|omega|exact kD rfl|exact kX rfl) only [smZ, tyA, simprocAttr, bl, i64, smS, smE, e1, hx, hq]; exact rfl)); (case hg => assumption))))
        refine ⟨⟨k + 1, by omega⟩, ?_, by simp only; omega⟩
        (refine Sub.heapL [0,1] rfl (by decide) ?_ (by simp only [List.forall_mem_cons, List.not_mem_nil, false_imp_iff, implies_true, and_true]; decide) ?_ ?_; all_goals (first | (simp only [plainC, smF, dg, renL, renLs, simprocAttr, bl, i64, smS, smE]; done) | (simp only [smF, dg, renL, renLs, simprocAttr, bl, i64, smS, smE]; (repeat' apply And.intro); all_goals rfl) | (simp only [smF, dg, renL, renLs, simprocAttr, bl, i64, smS, smE]) | skip))
        all_goals (first | exact ⟨rfl, rfl⟩ | simp [eS])
      · obtain rfl : k = xs.length := by omega
        generalize psum (exS xs) xs.length = S at *
        generalize hm : (psi : Int) * S = m at *
        (repeat (first|apply zO (by decide +kernel)|apply zP (by decide +kernel)|apply zA|apply zB|apply zF|apply zG|apply zH|apply zI|apply zJ|apply zK|apply zL (by decide)|apply zM|apply zN (by decide)|apply zD|apply zC|apply zE|((first|apply l_go rfl|apply c_dec); (case hs => (simp (disch := first|omega|exact kD rfl|exact kX rfl) only [smZ, tyA, simprocAttr, bl, i64, smS, smE, hm]; exact rfl)); first|refine c_bt ?_|refine c_bf ?_|show lrun _ _ _ _ _ _ _ _ _)|(apply l_call rfl (by decide) rfl; (case hc => (simp (disch := first|omega|exact kD rfl|exact kX rfl) only [smZ, tyA, simprocAttr, bl, i64, smS, smE, hm]; exact rfl)); (case hg => assumption))))
        ((first | apply g_ret | apply g_end); case hres => (simp only [resL, rOs, rO, Option.map_some]; simp (disch := first|omega|exact kD rfl|exact kX rfl) only [smZ, tyA, simprocAttr, bl, i64, smS, smE, hm]; exact rfl))
        simp (disch := first|omega|exact kD rfl|exact kX rfl) only [smZ, tyA, simprocAttr, bl, i64, smS, smE, hm]
  · generalize etaErr lv xs = er at *
    simp only [i64, bl] at *
    refine good_of_lwp mix Tryz.func5 rfl (by decide) (nt := 118) rfl (rs := [.tmp 2]) rfl (Nat.le_of_ble_eq_true rfl) ?_
    (repeat (first|apply zO (by decide +kernel)|apply zP (by decide +kernel)|apply zA|apply zB|apply zF|apply zG|apply zH|apply zI|apply zJ|apply zK|apply zL (by decide)|apply zM|apply zN (by decide)|apply zD|apply zC|apply zE|((first|apply l_go rfl|apply c_dec); (case hs => (simp (disch := first|omega|exact kD rfl|exact kX rfl) only [smZ, tyA, simprocAttr, bl, i64, smS, smE]; exact rfl)); first|refine c_bt ?_|refine c_bf ?_|show lrun _ _ _ _ _ _ _ _ _)|(apply l_call rfl (by decide) rfl; (case hc => (simp (disch := first|omega|exact kD rfl|exact kX rfl) only [smZ, tyA, simprocAttr, bl, i64, smS, smE]; exact rfl)); (case hg => assumption))))
    ((first | apply g_ret | apply g_end); case hres => (simp only [resL, rOs, rO, Option.map_some]; simp (disch := first|omega|exact kD rfl|exact kX rfl) only [smZ, tyA, simprocAttr, bl, i64, smS, smE]; exact rfl))
    simp (disch := first|omega|exact kD rfl|exact kX rfl) only [smZ, tyA, simprocAttr, bl, i64, smS, smE]
end Go.Proofs.YtbajpjjbaffnnaaGreat
