/- Contracts of functions of the program, and what proves them (texts: E8). -/
import Derived.Test.YtbajpjjbaffnnaaGreatZBC
import Derived.Test.YtbajpjjbaffnnaaGreatZBH
import Derived.Test.YtbajpjjbaffnnaaGreatZBI
set_option linter.all false
namespace Go.Proofs.YtbajpjjbaffnnaaGreat
open Go Go.Lg Go.Num
set_option maxRecDepth 100000
set_option maxHeartbeats 4000000
attribute [local irreducible] Go.Lg.lrun Go.Lg.lwp Go.Lg.exThen Go.Lg.exBlk Go.Lg.keep Go.Lg.goodPost sg mg ec
theorem width_good {n c : Nat} (n1 : 1 ≤ n) (n2 : n ≤ 600) (hc : c ≤ 600) : PureGood Tryz.prog 90 [i64 n, i64 c] (i64 (wid n c)) := by
  have b1 : c * c ≤ 600 * 600 := Nat.mul_le_mul hc hc
  have g1 := gcdA_good (c * c) n (by omega) (by omega)
  have p1 : 0 < Nat.gcd (c * c) n := Nat.gcd_pos_of_pos_right _ n1
  have e1 : (c : Int) * (c : Int) = ((c * c : Nat) : Int) := by simp
  have e2 : (n : Int) / ((Nat.gcd (c * c) n : Nat) : Int) = ((wid n c : Nat) : Int) := rfl
  have l1 : wid n c ≤ n := wid_le n c
  generalize Nat.gcd (c * c) n = g at *
  generalize wid n c = w at *
  generalize c * c = cc at *
  rw [i64] at *
  refine good_of_lwp mix Tryz.func90 rfl (by decide) (nt := 12) rfl (rs := [.tmp 4]) rfl (Nat.le_of_ble_eq_true rfl) ?_
  (repeat (first|apply zO (by decide +kernel)|apply zP (by decide +kernel)|apply zA|apply zB|apply zF|apply zG|apply zH|apply zI|apply zJ|apply zK|apply zL (by decide)|apply zM|apply zN (by decide)|apply zD|apply zC|apply zE|((first|apply l_go rfl|apply c_dec); (case hs => (simp (disch := first|omega|exact kD rfl|exact kX rfl) only [smZ, tyA, simprocAttr, bl, i64, smS, smE, e1, e2]; exact rfl)); first|refine c_bt ?_|refine c_bf ?_|show lrun _ _ _ _ _ _ _ _ _)|(apply l_call rfl (by decide) rfl; (case hc => (simp (disch := first|omega|exact kD rfl|exact kX rfl) only [smZ, tyA, simprocAttr, bl, i64, smS, smE, e1, e2]; exact rfl)); (case hg => assumption))))
  ((first | apply g_ret | apply g_end); case hres => (simp only [resL, rOs, rO, Option.map_some]; simp (disch := first|omega|exact kD rfl|exact kX rfl) only [smZ, tyA, simprocAttr, bl, i64, smS, smE, e1, e2]; exact rfl))
  simp (disch := first|omega|exact kD rfl|exact kX rfl) only [smZ, tyA, simprocAttr, bl, i64, smS, smE, e1, e2]
/-- An order, or the zero value. -/
def ordOk (lv : Int) (xs : List Int) (c : Int) : Prop := etaErr lv xs = 0 ∧ 1 ≤ c ∧ lv % c = 0
instance (lv : Int) (xs : List Int) (c : Int) : Decidable (ordOk lv xs c) := by unfold ordOk; exact inferInstance
def ordN (lv : Int) (xs : List Int) (c : Int) : Int := if ordOk lv xs c then (ordQ lv.toNat xs c.toNat xs.length).num else 0
def ordD (lv : Int) (xs : List Int) (c : Int) : Int := if ordOk lv xs c then ((ordQ lv.toNat xs c.toNat xs.length).den : Int) else 0
def ordE (lv : Int) (xs : List Int) (c : Int) : Int := if etaErr lv xs = 0 then (if ordOk lv xs c then 0 else 12) else etaErr lv xs
theorem Order_good (lv : Int) (xs : List Int) (hlv : -9223372036854775808 ≤ lv ∧ lv ≤ 9223372036854775807) (hl : xs.length ≤ 1000000) (c : Int) (hc : -9223372036854775808 ≤ c ∧ c ≤ 9223372036854775807) : PureGood Tryz.prog 27 [.agg [i64 lv, .sl xs.length (ec xs)], i64 c] (.tup [.agg [sg (ordN lv xs c), mg (ordN lv xs c), sg (ordD lv xs c), mg (ordD lv xs c)], i64 (ordE lv xs c)]) := by
  have g1 := check_good lv xs hlv hl
  unfold ordN ordD ordE
  by_cases h : etaErr lv xs = 0
  · rw [if_pos h]
    obtain ⟨n, rfl, ok⟩ := etaOk_of h
    rw [h] at g1
    have n1 := ok.n1
    have n2 := ok.n2
    by_cases h2 : ordOk n xs c
    · rw [if_pos h2, if_pos h2, if_pos h2]
      obtain ⟨_, c1, c2⟩ := h2
      obtain ⟨k, rfl⟩ : ∃ k : Nat, c = k := ⟨c.toNat, by omega⟩
      have c3 : n % k = 0 := by omega
      have hcn : k ≤ n := Nat.le_of_dvd (by omega) (Nat.dvd_of_mod_eq_zero c3)
      have g2 := order_in ok (c := k) (by omega) c3
      rw [Int.toNat_natCast, Int.toNat_natCast]
      generalize ordQ n xs k xs.length = r at *
      simp only [encQ_sm, i64] at *
      refine good_of_lwp mix Tryz.func27 rfl (by decide) (nt := 26) rfl (rs := [.cell 4 46, .tmp 5]) rfl (Nat.le_of_ble_eq_true rfl) ?_
      (repeat (first|apply zO (by decide +kernel)|apply zP (by decide +kernel)|apply zA|apply zB|apply zF|apply zG|apply zH|apply zI|apply zJ|apply zK|apply zL (by decide)|apply zM|apply zN (by decide)|apply zD|apply zC|apply zE|((first|apply l_go rfl|apply c_dec); (case hs => (simp (disch := first|omega|exact kD rfl|exact kX rfl) only [smZ, tyA, simprocAttr, bl, i64, smS, smE]; exact rfl)); first|refine c_bt ?_|refine c_bf ?_|show lrun _ _ _ _ _ _ _ _ _)|(apply l_call rfl (by decide) rfl; (case hc => (simp (disch := first|omega|exact kD rfl|exact kX rfl) only [smZ, tyA, simprocAttr, bl, i64, smS, smE]; exact rfl)); (case hg => assumption))))
      ((first | apply g_ret | apply g_end); case hres => (simp only [resL, rOs, rO, Option.map_some]; simp (disch := first|omega|exact kD rfl|exact kX rfl) only [smZ, tyA, simprocAttr, bl, i64, smS, smE]; exact rfl))
      simp (disch := first|omega|exact kD rfl|exact kX rfl) only [smZ, tyA, simprocAttr, bl, i64, smS, smE]
    · rw [if_neg h2, if_neg h2, if_neg h2, sg0, mg0]
      simp only [i64] at *
      by_cases h3 : c < 1
      · refine good_of_lwp mix Tryz.func27 rfl (by decide) (nt := 26) rfl (rs := [.cell 4 46, .tmp 5]) rfl (Nat.le_of_ble_eq_true rfl) ?_
        (repeat (first|apply zO (by decide +kernel)|apply zP (by decide +kernel)|apply zA|apply zB|apply zF|apply zG|apply zH|apply zI|apply zJ|apply zK|apply zL (by decide)|apply zM|apply zN (by decide)|apply zD|apply zC|apply zE|((first|apply l_go rfl|apply c_dec); (case hs => (simp (disch := first|omega|exact kD rfl|exact kX rfl) only [smZ, tyA, simprocAttr, bl, i64, smS, smE]; exact rfl)); first|refine c_bt ?_|refine c_bf ?_|show lrun _ _ _ _ _ _ _ _ _)|(apply l_call rfl (by decide) rfl; (case hc => (simp (disch := first|omega|exact kD rfl|exact kX rfl) only [smZ, tyA, simprocAttr, bl, i64, smS, smE]; exact rfl)); (case hg => assumption))))
        ((first | apply g_ret | apply g_end); case hres => (simp only [resL, rOs, rO, Option.map_some]; simp (disch := first|omega|exact kD rfl|exact kX rfl) only [smZ, tyA, simprocAttr, bl, i64, smS, smE]; exact rfl))
        simp (disch := first|omega|exact kD rfl|exact kX rfl) only [smZ, tyA, simprocAttr, bl, i64, smS, smE]
      · have h4 : ¬ (n : Int) % c = 0 := fun e => h2 ⟨h, by omega, e⟩
        by_cases h5 : (n : Int) < c
        · refine good_of_lwp mix Tryz.func27 rfl (by decide) (nt := 26) rfl (rs := [.cell 4 46, .tmp 5]) rfl (Nat.le_of_ble_eq_true rfl) ?_
          (repeat (first|apply zO (by decide +kernel)|apply zP (by decide +kernel)|apply zA|apply zB|apply zF|apply zG|apply zH|apply zI|apply zJ|apply zK|apply zL (by decide)|apply zM|apply zN (by decide)|apply zD|apply zC|apply zE|((first|apply l_go rfl|apply c_dec); (case hs => (simp (disch := first|omega|exact kD rfl|exact kX rfl) only [smZ, tyA, simprocAttr, bl, i64, smS, smE]; exact rfl)); first|refine c_bt ?_|refine c_bf ?_|show lrun _ _ _ _ _ _ _ _ _)|(apply l_call rfl (by decide) rfl; (case hc => (simp (disch := first|omega|exact kD rfl|exact kX rfl) only [smZ, tyA, simprocAttr, bl, i64, smS, smE]; exact rfl)); (case hg => assumption))))
          ((first | apply g_ret | apply g_end); case hres => (simp only [resL, rOs, rO, Option.map_some]; simp (disch := first|omega|exact kD rfl|exact kX rfl) only [smZ, tyA, simprocAttr, bl, i64, smS, smE]; exact rfl))
          simp (disch := first|omega|exact kD rfl|exact kX rfl) only [smZ, tyA, simprocAttr, bl, i64, smS, smE]
        · refine good_of_lwp mix Tryz.func27 rfl (by decide) (nt := 26) rfl (rs := [.cell 4 46, .tmp 5]) rfl (Nat.le_of_ble_eq_true rfl) ?_
          (repeat (first|apply zO (by decide +kernel)|apply zP (by decide +kernel)|apply zA|apply zB|apply zF|apply zG|apply zH|apply zI|apply zJ|apply zK|apply zL (by decide)|apply zM|apply zN (by decide)|apply zD|apply zC|apply zE|((first|apply l_go rfl|apply c_dec); (case hs => (simp (disch := first|omega|exact kD rfl|exact kX rfl) only [smZ, tyA, simprocAttr, bl, i64, smS, smE]; exact rfl)); first|refine c_bt ?_|refine c_bf ?_|show lrun _ _ _ _ _ _ _ _ _)|(apply l_call rfl (by decide) rfl; (case hc => (simp (disch := first|omega|exact kD rfl|exact kX rfl) only [smZ, tyA, simprocAttr, bl, i64, smS, smE]; exact rfl)); (case hg => assumption))))
          ((first | apply g_ret | apply g_end); case hres => (simp only [resL, rOs, rO, Option.map_some]; simp (disch := first|omega|exact kD rfl|exact kX rfl) only [smZ, tyA, simprocAttr, bl, i64, smS, smE]; exact rfl))
          simp (disch := first|omega|exact kD rfl|exact kX rfl) only [smZ, tyA, simprocAttr, bl, i64, smS, smE]
  · rw [if_neg h, if_neg (fun e => h e.1), if_neg (fun e => h e.1), sg0, mg0]
    generalize etaErr lv xs = er at *
    simp only [i64] at *
    refine good_of_lwp mix Tryz.func27 rfl (by decide) (nt := 26) rfl (rs := [.cell 4 46, .tmp 5]) rfl (Nat.le_of_ble_eq_true rfl) ?_
    (repeat (first|apply zO (by decide +kernel)|apply zP (by decide +kernel)|apply zA|apply zB|apply zF|apply zG|apply zH|apply zI|apply zJ|apply zK|apply zL (by decide)|apply zM|apply zN (by decide)|apply zD|apply zC|apply zE|((first|apply l_go rfl|apply c_dec); (case hs => (simp (disch := first|omega|exact kD rfl|exact kX rfl) only [smZ, tyA, simprocAttr, bl, i64, smS, smE]; exact rfl)); first|refine c_bt ?_|refine c_bf ?_|show lrun _ _ _ _ _ _ _ _ _)|(apply l_call rfl (by decide) rfl; (case hc => (simp (disch := first|omega|exact kD rfl|exact kX rfl) only [smZ, tyA, simprocAttr, bl, i64, smS, smE]; exact rfl)); (case hg => assumption))))
    ((first | apply g_ret | apply g_end); case hres => (simp only [resL, rOs, rO, Option.map_some]; simp (disch := first|omega|exact kD rfl|exact kX rfl) only [smZ, tyA, simprocAttr, bl, i64, smS, smE]; exact rfl))
    simp (disch := first|omega|exact kD rfl|exact kX rfl) only [smZ, tyA, simprocAttr, bl, i64, smS, smE]
theorem rOrder_good (lv : Int) (xs : List Int) (hlv : -9223372036854775808 ≤ lv ∧ lv ≤ 9223372036854775807) (hl : xs.length ≤ 1000000) (c : Int) (hc : -9223372036854775808 ≤ c ∧ c ≤ 9223372036854775807) : PureGood Tryz.prog 33 [.agg [i64 lv, .sl xs.length (ec xs)], i64 c] (.tup [.agg [sg (ordN lv xs c), mg (ordN lv xs c), sg (ordD lv xs c), mg (ordD lv xs c)], i64 (ordE lv xs c)]) := by
  have g1 := rcheck_good lv xs hlv hl
  unfold ordN ordD ordE
  by_cases h : etaErr lv xs = 0
  · rw [if_pos h]
    obtain ⟨n, rfl, ok⟩ := etaOk_of h
    rw [h] at g1
    have n1 := ok.n1
    have n2 := ok.n2
    by_cases h2 : ordOk n xs c
    · rw [if_pos h2, if_pos h2, if_pos h2]
      obtain ⟨_, c1, c2⟩ := h2
      obtain ⟨k, rfl⟩ : ∃ k : Nat, c = k := ⟨c.toNat, by omega⟩
      have c3 : n % k = 0 := by omega
      have hcn : k ≤ n := Nat.le_of_dvd (by omega) (Nat.dvd_of_mod_eq_zero c3)
      have g2 := rorder_in ok (c := k) (by omega) c3
      rw [Int.toNat_natCast, Int.toNat_natCast]
      generalize ordQ n xs k xs.length = r at *
      simp only [encQ_sm, i64] at *
      refine good_of_lwp mix Tryz.func33 rfl (by decide) (nt := 32) rfl (rs := [.cell 4 46, .tmp 5]) rfl (Nat.le_of_ble_eq_true rfl) ?_
      (repeat (first|apply zO (by decide +kernel)|apply zP (by decide +kernel)|apply zA|apply zB|apply zF|apply zG|apply zH|apply zI|apply zJ|apply zK|apply zL (by decide)|apply zM|apply zN (by decide)|apply zD|apply zC|apply zE|((first|apply l_go rfl|apply c_dec); (case hs => (simp (disch := first|omega|exact kD rfl|exact kX rfl) only [smZ, tyA, simprocAttr, bl, i64, smS, smE]; exact rfl)); first|refine c_bt ?_|refine c_bf ?_|show lrun _ _ _ _ _ _ _ _ _)|(apply l_call rfl (by decide) rfl; (case hc => (simp (disch := first|omega|exact kD rfl|exact kX rfl) only [smZ, tyA, simprocAttr, bl, i64, smS, smE]; exact rfl)); (case hg => assumption))))
      ((first | apply g_ret | apply g_end); case hres => (simp only [resL, rOs, rO, Option.map_some]; simp (disch := first|omega|exact kD rfl|exact kX rfl) only [smZ, tyA, simprocAttr, bl, i64, smS, smE]; exact rfl))
      simp (disch := first|omega|exact kD rfl|exact kX rfl) only [smZ, tyA, simprocAttr, bl, i64, smS, smE]
    · rw [if_neg h2, if_neg h2, if_neg h2, sg0, mg0]
      simp only [i64] at *
      by_cases h3 : c < 1
      · refine good_of_lwp mix Tryz.func33 rfl (by decide) (nt := 32) rfl (rs := [.cell 4 46, .tmp 5]) rfl (Nat.le_of_ble_eq_true rfl) ?_
        (repeat (first|apply zO (by decide +kernel)|apply zP (by decide +kernel)|apply zA|apply zB|apply zF|apply zG|apply zH|apply zI|apply zJ|apply zK|apply zL (by decide)|apply zM|apply zN (by decide)|apply zD|apply zC|apply zE|((first|apply l_go rfl|apply c_dec); (case hs => (simp (disch := first|omega|exact kD rfl|exact kX rfl) only [smZ, tyA, simprocAttr, bl, i64, smS, smE]; exact rfl)); first|refine c_bt ?_|refine c_bf ?_|show lrun _ _ _ _ _ _ _ _ _)|(apply l_call rfl (by decide) rfl; (case hc => (simp (disch := first|omega|exact kD rfl|exact kX rfl) only [smZ, tyA, simprocAttr, bl, i64, smS, smE]; exact rfl)); (case hg => assumption))))
        ((first | apply g_ret | apply g_end); case hres => (simp only [resL, rOs, rO, Option.map_some]; simp (disch := first|omega|exact kD rfl|exact kX rfl) only [smZ, tyA, simprocAttr, bl, i64, smS, smE]; exact rfl))
        simp (disch := first|omega|exact kD rfl|exact kX rfl) only [smZ, tyA, simprocAttr, bl, i64, smS, smE]
      · have h4 : ¬ (n : Int) % c = 0 := fun e => h2 ⟨h, by omega, e⟩
        by_cases h5 : (n : Int) < c
        · refine good_of_lwp mix Tryz.func33 rfl (by decide) (nt := 32) rfl (rs := [.cell 4 46, .tmp 5]) rfl (Nat.le_of_ble_eq_true rfl) ?_
          (repeat (first|apply zO (by decide +kernel)|apply zP (by decide +kernel)|apply zA|apply zB|apply zF|apply zG|apply zH|apply zI|apply zJ|apply zK|apply zL (by decide)|apply zM|apply zN (by decide)|apply zD|apply zC|apply zE|((first|apply l_go rfl|apply c_dec); (case hs => (simp (disch := first|omega|exact kD rfl|exact kX rfl) only [smZ, tyA, simprocAttr, bl, i64, smS, smE]; exact rfl)); first|refine c_bt ?_|refine c_bf ?_|show lrun _ _ _ _ _ _ _ _ _)|(apply l_call rfl (by decide) rfl; (case hc => (simp (disch := first|omega|exact kD rfl|exact kX rfl) only [smZ, tyA, simprocAttr, bl, i64, smS, smE]; exact rfl)); (case hg => assumption))))
          ((first | apply g_ret | apply g_end); case hres => (simp only [resL, rOs, rO, Option.map_some]; simp (disch := first|omega|exact kD rfl|exact kX rfl) only [smZ, tyA, simprocAttr, bl, i64, smS, smE]; exact rfl))
          simp (disch := first|omega|exact kD rfl|exact kX rfl) only [smZ, tyA, simprocAttr, bl, i64, smS, smE]
        · refine good_of_lwp mix Tryz.func33 rfl (by decide) (nt := 32) rfl (rs := [.cell 4 46, .tmp 5]) rfl (Nat.le_of_ble_eq_true rfl) ?_
          (repeat (first|apply zO (by decide +kernel)|apply zP (by decide +kernel)|apply zA|apply zB|apply zF|apply zG|apply zH|apply zI|apply zJ|apply zK|apply zL (by decide)|apply zM|apply zN (by decide)|apply zD|apply zC|apply zE|((first|apply l_go rfl|apply c_dec); (case hs => (simp (disch := first|omega|exact kD rfl|exact kX rfl) only [smZ, tyA, simprocAttr, bl, i64, smS, smE]; exact rfl)); first|refine c_bt ?_|refine c_bf ?_|show lrun _ _ _ _ _ _ _ _ _)|(apply l_call rfl (by decide) rfl; (case hc => (simp (disch := first|omega|exact kD rfl|exact kX rfl) only [smZ, tyA, simprocAttr, bl, i64, smS, smE]; exact rfl)); (case hg => assumption))))
          ((first | apply g_ret | apply g_end); case hres => (simp only [resL, rOs, rO, Option.map_some]; simp (disch := first|omega|exact kD rfl|exact kX rfl) only [smZ, tyA, simprocAttr, bl, i64, smS, smE]; exact rfl))
          simp (disch := first|omega|exact kD rfl|exact kX rfl) only [smZ, tyA, simprocAttr, bl, i64, smS, smE]
  · rw [if_neg h, if_neg (fun e => h e.1), if_neg (fun e => h e.1), sg0, mg0]
    generalize etaErr lv xs = er at *
    simp only [i64] at *
    refine good_of_lwp mix Tryz.func33 rfl (by decide) (nt := 32) rfl (rs := [.cell 4 46, .tmp 5]) rfl (Nat.le_of_ble_eq_true rfl) ?_
    (repeat (first|apply zO (by decide +kernel)|apply zP (by decide +kernel)|apply zA|apply zB|apply zF|apply zG|apply zH|apply zI|apply zJ|apply zK|apply zL (by decide)|apply zM|apply zN (by decide)|apply zD|apply zC|apply zE|((first|apply l_go rfl|apply c_dec); (case hs => (simp (disch := first|omega|exact kD rfl|exact kX rfl) only [smZ, tyA, simprocAttr, bl, i64, smS, smE]; exact rfl)); first|refine c_bt ?_|refine c_bf ?_|show lrun _ _ _ _ _ _ _ _ _)|(apply l_call rfl (by decide) rfl; (case hc => (simp (disch := first|omega|exact kD rfl|exact kX rfl) only [smZ, tyA, simprocAttr, bl, i64, smS, smE]; exact rfl)); (case hg => assumption))))
    ((first | apply g_ret | apply g_end); case hres => (simp only [resL, rOs, rO, Option.map_some]; simp (disch := first|omega|exact kD rfl|exact kX rfl) only [smZ, tyA, simprocAttr, bl, i64, smS, smE]; exact rfl))
    simp (disch := first|omega|exact kD rfl|exact kX rfl) only [smZ, tyA, simprocAttr, bl, i64, smS, smE]
/-! The least sign. -/
theorem least_good {n : Nat} {xs : List Int} (h : EtaOk n xs) (s : Int) (hs : 0 ≤ s ∧ s ≤ 1) : PureGood Tryz.prog 95 [.agg [i64 n, .sl xs.length (ec xs)], i64 s] (bl (decide (s ≤ leastS n xs xs.length))) := by
  have n1 := h.n1
  have n2 := h.n2
  have hl := h.len
  have l1 := h.len_le
  have g1 := divisors_good n1 n2
  have dl := divL_length n
  rw [← hl] at g1 dl
  simp only [i64, bl] at *
  refine good_of_lwp mix Tryz.func95 rfl (by decide) (nt := 22) rfl (rs := [.tmp 4]) rfl (Nat.le_of_ble_eq_true rfl) ?_
  (repeat (first|apply zO (by decide +kernel)|apply zP (by decide +kernel)|apply zA|apply zB|apply zF|apply zG|apply zH|apply zI|apply zJ|apply zK|apply zL (by decide)|apply zM|apply zN (by decide)|apply zD|apply zC|apply zE|((first|apply l_go rfl|apply c_dec); (case hs => (simp (disch := first|omega|exact kD rfl|exact kX rfl) only [smZ, tyA, simprocAttr, bl, i64, smS, smE]; exact rfl)); first|refine c_bt ?_|refine c_bf ?_|show lrun _ _ _ _ _ _ _ _ _)|(apply l_call rfl (by decide) rfl; (case hc => (simp (disch := first|omega|exact kD rfl|exact kX rfl) only [smZ, tyA, simprocAttr, bl, i64, smS, smE]; exact rfl)); (case hg => assumption))))
  refine w_loop (α := {k : Nat // k ≤ xs.length ∧ ∀ i, i < k → s ≤ sgnO n xs i}) (fun k => st 22 (lk [(1, i64 s), (2, .ptr 0 0), (9, .sl xs.length (ec (divL n))), (10, i64 xs.length), (11, i64 k.1)]) (lkH [(0, ⟨24, [i64 n, .sl xs.length (ec xs)], false⟩)]) 1) (fun k => xs.length - k.1) ⟨0, by omega, fun i hi => by omega⟩ ?_ ?_
  · (refine Sub.heap1 0 ?_ (by simp only [smF, dg, renL, renLs, simprocAttr, bl, i64, smS, smE]; exact rfl) ?_ ?_; all_goals (first | exact dgs_plain _ | with_reducible rfl | (simp only [smF, dg, renL, renLs, simprocAttr, bl, i64, smS, smE]; done) | (simp only [smF, dg, renL, renLs, simprocAttr, bl, i64, smS, smE]) | skip))
    all_goals (first | exact ⟨rfl, rfl⟩ | simp)
  · rintro ⟨k, hk, hall⟩
    simp only [st]
    by_cases h1 : k < xs.length
    · obtain ⟨d, e1, e2, e3, e4, e5⟩ := divL_get (n := n) (k := k) (hl ▸ h1)
      have r1 := order_in h (c := d) e2 e4
      have b1 := lq_ord h e2 (by omega) (Nat.le_refl xs.length)
      have r2 := qsign_good (ordQ n xs d xs.length) (by omega)
      have hsg := ord_sign (xs := xs) n1 k
      rw [e5] at hsg
      rw [hsg] at r2
      have hb := sgn_bd n xs k
      generalize ordQ n xs d xs.length = r at *
      have hle := leastS_le n xs h1
      generalize hsv : sgnO n xs k = sv at *
      simp only [encQ_sm, i64] at *
      by_cases h2 : sv < s
      · rw [dec_f (p := s ≤ leastS n xs xs.length) (by omega)]
        (repeat (first|apply zO (by decide +kernel)|apply zP (by decide +kernel)|apply zA|apply zB|apply zF|apply zG|apply zH|apply zI|apply zJ|apply zK|apply zL (by decide)|apply zM|apply zN (by decide)|apply zD|apply zC|apply zE|((first|apply l_go rfl|apply c_dec); (case hs => (simp (disch := first|omega|exact kD rfl|exact kX rfl) only [smZ, tyA, simprocAttr, bl, i64, smS, smE, e1]; exact rfl)); first|refine c_bt ?_|refine c_bf ?_|show lrun _ _ _ _ _ _ _ _ _)|(apply l_call rfl (by decide) rfl; (case hc => (simp (disch := first|omega|exact kD rfl|exact kX rfl) only [smZ, tyA, simprocAttr, bl, i64, smS, smE, e1]; exact rfl)); (case hg => assumption))))
        ((first | apply g_ret | apply g_end); case hres => (simp only [resL, rOs, rO, Option.map_some]; simp (disch := first|omega|exact kD rfl|exact kX rfl) only [smZ, tyA, simprocAttr, bl, i64, smS, smE, e1]; exact rfl))
        simp (disch := first|omega|exact kD rfl|exact kX rfl) only [smZ, tyA, simprocAttr, bl, i64, smS, smE, e1]
      · (repeat (first|apply zO (by decide +kernel)|apply zP (by decide +kernel)|apply zA|apply zB|apply zF|apply zG|apply zH|apply zI|apply zJ|apply zK|apply zL (by decide)|apply zM|apply zN (by decide)|apply zD|apply zC|apply zE|((first|apply l_go rfl|apply c_dec); (case hs => (simp (disch := first|omega|exact kD rfl|exact kX rfl) only [smZ, tyA, simprocAttr, bl, i64, smS, smE, e1]; exact rfl)); first|refine c_bt ?_|refine c_bf ?_|show lrun _ _ _ _ _ _ _ _ _)|(apply l_call rfl (by decide) rfl; (case hc => (simp (disch := first|omega|exact kD rfl|exact kX rfl) only [smZ, tyA, simprocAttr, bl, i64, smS, smE, e1]; exact rfl)); (case hg => assumption))))
        refine ⟨⟨k + 1, by omega, fun i hi => ?_⟩, ?_, by simp only; omega⟩
        · rcases Nat.lt_or_ge i k with h5 | h5
          · exact hall i h5
          · obtain rfl : i = k := by omega
            omega
        · (refine Sub.heap1 0 ?_ (by simp only [smF, dg, renL, renLs, simprocAttr, bl, i64, smS, smE]; exact rfl) ?_ ?_; all_goals (first | exact dgs_plain _ | with_reducible rfl | (simp only [smF, dg, renL, renLs, simprocAttr, bl, i64, smS, smE]; done) | (simp only [smF, dg, renL, renLs, simprocAttr, bl, i64, smS, smE]) | skip))
          all_goals (first | exact ⟨rfl, rfl⟩ | simp)
    · obtain rfl : k = xs.length := by omega
      rw [dec_t (p := s ≤ leastS n xs xs.length) (leastS_ge hs.2 hall)]
      (repeat (first|apply zO (by decide +kernel)|apply zP (by decide +kernel)|apply zA|apply zB|apply zF|apply zG|apply zH|apply zI|apply zJ|apply zK|apply zL (by decide)|apply zM|apply zN (by decide)|apply zD|apply zC|apply zE|((first|apply l_go rfl|apply c_dec); (case hs => (simp (disch := first|omega|exact kD rfl|exact kX rfl) only [smZ, tyA, simprocAttr, bl, i64, smS, smE]; exact rfl)); first|refine c_bt ?_|refine c_bf ?_|show lrun _ _ _ _ _ _ _ _ _)|(apply l_call rfl (by decide) rfl; (case hc => (simp (disch := first|omega|exact kD rfl|exact kX rfl) only [smZ, tyA, simprocAttr, bl, i64, smS, smE]; exact rfl)); (case hg => assumption))))
      ((first | apply g_ret | apply g_end); case hres => (simp only [resL, rOs, rO, Option.map_some]; simp (disch := first|omega|exact kD rfl|exact kX rfl) only [smZ, tyA, simprocAttr, bl, i64, smS, smE]; exact rfl))
      simp (disch := first|omega|exact kD rfl|exact kX rfl) only [smZ, tyA, simprocAttr, bl, i64, smS, smE]
theorem rleast_good {n : Nat} {xs : List Int} (h : EtaOk n xs) : PureGood Tryz.prog 96 [.agg [i64 n, .sl xs.length (ec xs)]] (i64 (leastS n xs xs.length)) := by
  have n1 := h.n1
  have n2 := h.n2
  have hl := h.len
  have l1 := h.len_le
  have g1 := rdivisors_good n1 n2
  have dl := divL_length n
  rw [← hl] at g1 dl
  simp only [i64] at *
  refine good_of_lwp mix Tryz.func96 rfl (by decide) (nt := 25) rfl (rs := [.tmp 2]) rfl (Nat.le_of_ble_eq_true rfl) ?_
  (repeat (first|apply zO (by decide +kernel)|apply zP (by decide +kernel)|apply zA|apply zB|apply zF|apply zG|apply zH|apply zI|apply zJ|apply zK|apply zL (by decide)|apply zM|apply zN (by decide)|apply zD|apply zC|apply zE|((first|apply l_go rfl|apply c_dec); (case hs => (simp (disch := first|omega|exact kD rfl|exact kX rfl) only [smZ, tyA, simprocAttr, bl, i64, smS, smE]; exact rfl)); first|refine c_bt ?_|refine c_bf ?_|show lrun _ _ _ _ _ _ _ _ _)|(apply l_call rfl (by decide) rfl; (case hc => (simp (disch := first|omega|exact kD rfl|exact kX rfl) only [smZ, tyA, simprocAttr, bl, i64, smS, smE]; exact rfl)); (case hg => assumption))))
  refine w_loop (α := {k : Nat // k ≤ xs.length}) (fun k => st 25 (lk [(1, .ptr 0 0), (3, .sl xs.length (ec (divL n))), (4, i64 (leastS n xs k.1)), (5, i64 k.1)]) (lkH [(0, ⟨24, [i64 n, .sl xs.length (ec xs)], false⟩)]) 1) (fun k => xs.length - k.1) ⟨0, by omega⟩ ?_ ?_
  · (refine Sub.heap1 0 ?_ (by simp only [smF, dg, renL, renLs, simprocAttr, bl, i64, smS, smE]; exact rfl) ?_ ?_; all_goals (first | exact dgs_plain _ | with_reducible rfl | (simp only [smF, dg, renL, renLs, simprocAttr, bl, i64, smS, smE]; done) | (simp only [smF, dg, renL, renLs, simprocAttr, bl, i64, smS, smE]) | skip))
    all_goals (first | exact ⟨rfl, rfl⟩ | simp [leastS])
  · rintro ⟨k, hk⟩
    simp only [st]
    by_cases h1 : k < xs.length
    · obtain ⟨d, e1, e2, e3, e4, e5⟩ := divL_get (n := n) (k := k) (hl ▸ h1)
      have r1 := rorder_in h (c := d) e2 e4
      have b1 := lq_ord h e2 (by omega) (Nat.le_refl xs.length)
      have r2 := rqsign_good (ordQ n xs d xs.length) (by omega)
      have hsg := ord_sign (xs := xs) n1 k
      rw [e5] at hsg
      rw [hsg] at r2
      generalize ordQ n xs d xs.length = r at *
      have hs : leastS n xs (k + 1) = if sgnO n xs k < leastS n xs k then sgnO n xs k else leastS n xs k := rfl
      generalize sgnO n xs k = sv at *
      generalize leastS n xs k = L at *
      simp only [encQ_sm, i64] at *
      (repeat (first|apply zO (by decide +kernel)|apply zP (by decide +kernel)|apply zA|apply zB|apply zF|apply zG|apply zH|apply zI|apply zJ|apply zK|apply zL (by decide)|apply zM|apply zN (by decide)|apply zD|apply zC|apply zE|((first|apply l_go rfl|apply c_dec); (case hs => (simp (disch := first|omega|exact kD rfl|exact kX rfl) only [smZ, tyA, simprocAttr, bl, i64, smS, smE, e1]; exact rfl)); first|refine c_bt ?_|refine c_bf ?_|show lrun _ _ _ _ _ _ _ _ _)|(apply l_call rfl (by decide) rfl; (case hc => (simp (disch := first|omega|exact kD rfl|exact kX rfl) only [smZ, tyA, simprocAttr, bl, i64, smS, smE, e1]; exact rfl)); (case hg => assumption))))
      refine ⟨⟨k + 1, by omega⟩, ?_, by simp only; omega⟩
      (refine Sub.heap1 0 ?_ (by simp only [smF, dg, renL, renLs, simprocAttr, bl, i64, smS, smE]; exact rfl) ?_ ?_; all_goals (first | exact dgs_plain _ | with_reducible rfl | (simp only [smF, dg, renL, renLs, simprocAttr, bl, i64, smS, smE]; done) | (simp only [smF, dg, renL, renLs, simprocAttr, bl, i64, smS, smE]) | skip))
      all_goals (first | exact ⟨rfl, rfl⟩ | simp [hs])
    · obtain rfl : k = xs.length := by omega
      (repeat (first|apply zO (by decide +kernel)|apply zP (by decide +kernel)|apply zA|apply zB|apply zF|apply zG|apply zH|apply zI|apply zJ|apply zK|apply zL (by decide)|apply zM|apply zN (by decide)|apply zD|apply zC|apply zE|((first|apply l_go rfl|apply c_dec); (case hs => (simp (disch := first|omega|exact kD rfl|exact kX rfl) only [smZ, tyA, simprocAttr, bl, i64, smS, smE]; exact rfl)); first|refine c_bt ?_|refine c_bf ?_|show lrun _ _ _ _ _ _ _ _ _)|(apply l_call rfl (by decide) rfl; (case hc => (simp (disch := first|omega|exact kD rfl|exact kX rfl) only [smZ, tyA, simprocAttr, bl, i64, smS, smE]; exact rfl)); (case hg => assumption))))
      ((first | apply g_ret | apply g_end); case hres => (simp only [resL, rOs, rO, Option.map_some]; simp (disch := first|omega|exact kD rfl|exact kX rfl) only [smZ, tyA, simprocAttr, bl, i64, smS, smE]; exact rfl))
      simp (disch := first|omega|exact kD rfl|exact kX rfl) only [smZ, tyA, simprocAttr, bl, i64, smS, smE]
/-! Poles. -/
theorem pole_in {n : Nat} {xs : List Int} (h : EtaOk n xs) (g0 : PureGood Tryz.prog 24 [.agg [i64 n, .sl xs.length (ec xs)]] (i64 0)) : PureGood Tryz.prog 34 [.agg [i64 n, .sl xs.length (ec xs)]] (.tup [i64 (poleN n xs xs.length), i64 0]) := by
  have n1 := h.n1
  have n2 := h.n2
  have hl := h.len
  have l1 := h.len_le
  have g1 := divisors_good n1 n2
  have dl := divL_length n
  rw [← hl] at g1 dl
  simp only [i64] at *
  refine good_of_lwp mix Tryz.func34 rfl (by decide) (nt := 49) rfl (rs := [.tmp 2, .tmp 3]) rfl (Nat.le_of_ble_eq_true rfl) ?_
  (repeat (first|apply zO (by decide +kernel)|apply zP (by decide +kernel)|apply zA|apply zB|apply zF|apply zG|apply zH|apply zI|apply zJ|apply zK|apply zL (by decide)|apply zM|apply zN (by decide)|apply zD|apply zC|apply zE|((first|apply l_go rfl|apply c_dec); (case hs => (simp (disch := first|omega|exact kD rfl|exact kX rfl) only [smZ, tyA, simprocAttr, bl, i64, smS, smE]; exact rfl)); first|refine c_bt ?_|refine c_bf ?_|show lrun _ _ _ _ _ _ _ _ _)|(apply l_call rfl (by decide) rfl; (case hc => (simp (disch := first|omega|exact kD rfl|exact kX rfl) only [smZ, tyA, simprocAttr, bl, i64, smS, smE]; exact rfl)); (case hg => assumption))))
  refine w_loop (α := {k : Nat // k ≤ xs.length}) (fun k => st 49 (lk [(1, .ptr 0 0), (5, i64 (poleN n xs k.1)), (19, .sl xs.length (ec (divL n))), (20, i64 xs.length), (21, i64 k.1)]) (lkH [(0, ⟨24, [i64 n, .sl xs.length (ec xs)], false⟩)]) 1) (fun k => xs.length - k.1) ⟨0, by omega⟩ ?_ ?_
  · (refine Sub.heap1 0 ?_ (by simp only [smF, dg, renL, renLs, simprocAttr, bl, i64, smS, smE]; exact rfl) ?_ ?_; all_goals (first | exact dgs_plain _ | with_reducible rfl | (simp only [smF, dg, renL, renLs, simprocAttr, bl, i64, smS, smE]; done) | (simp only [smF, dg, renL, renLs, simprocAttr, bl, i64, smS, smE]) | skip))
    all_goals (first | exact ⟨rfl, rfl⟩ | simp [poleN])
  · rintro ⟨k, hk⟩
    simp only [st]
    by_cases h1 : k < xs.length
    · obtain ⟨d, e1, e2, e3, e4, e5⟩ := divL_get (n := n) (k := k) (hl ▸ h1)
      have r1 := order_in h (c := d) e2 e4
      have b1 := lq_ord h e2 (by omega) (Nat.le_refl xs.length)
      have r2 := qneg_good (ordQ n xs d xs.length) (by omega)
      have b2 : lq (-(ordQ n xs d xs.length)) ≤ 3 := by
        have : lq (-(ordQ n xs d xs.length)) = lq (ordQ n xs d xs.length) := by unfold lq len; simp
        omega
      have r3 := width_good (c := d) n1 n2 (by omega)
      have w1 := wid_pos (c := d) n1
      have w2 := wid_le n d
      have r4 := qof_good ((wid n d : Nat) : Int) (by omega)
      have b3 := lq_i64 (z := ((wid n d : Nat) : Int)) (by omega)
      have r5 := quo_good (-(ordQ n xs d xs.length)) (((wid n d : Nat) : Int) : Rat) (by
        intro e
        have := Rat.intCast_inj.1 (e.trans Rat.intCast_zero.symm)
        omega) (by omega) (by omega)
      have b4 := lq_div (-(ordQ n xs d xs.length)) (((wid n d : Nat) : Int) : Rat) (by
        intro e
        have := Rat.intCast_inj.1 (e.trans Rat.intCast_zero.symm)
        omega)
      have r6 := ceil_good (-(ordQ n xs d xs.length) / (((wid n d : Nat) : Int) : Rat)) (by omega)
      rw [ceilD_eq n1 d] at r6
      have b5 := ceilD_bd h e2 (c := d) (by omega)
      have r7 := small_good (ceilD n xs d) (by omega)
      have b6 := poleN_bd h k (by omega)
      have hs : poleN n xs (k + 1) = max (poleN n xs k) (ceilD n xs d).toNat := by rw [poleN, e5]
      generalize -(ordQ n xs d xs.length) / (((wid n d : Nat) : Int) : Rat) = q5 at *
      generalize -(ordQ n xs d xs.length) = q4 at *
      generalize ordQ n xs d xs.length = q3 at *
      generalize wid n d = w at *
      generalize ceilD n xs d = cd at *
      have hmx : (if cd > ((poleN n xs k : Nat) : Int) then cd else ((poleN n xs k : Nat) : Int)) = ((poleN n xs (k + 1) : Nat) : Int) := by
        rw [hs]
        split <;> omega
      generalize poleN n xs k = P at *
      generalize hP' : poleN n xs (k + 1) = P' at *
      simp only [encQ_sm, encI_sm, i64, bl] at *
      (repeat (first|apply zO (by decide +kernel)|apply zP (by decide +kernel)|apply zA|apply zB|apply zF|apply zG|apply zH|apply zI|apply zJ|apply zK|apply zL (by decide)|apply zM|apply zN (by decide)|apply zD|apply zC|apply zE|((first|apply l_go rfl|apply c_dec); (case hs => (simp (disch := first|omega|exact kD rfl|exact kX rfl) only [smZ, tyA, simprocAttr, bl, i64, smS, smE, e1, hmx]; exact rfl)); first|refine c_bt ?_|refine c_bf ?_|show lrun _ _ _ _ _ _ _ _ _)|(apply l_call rfl (by decide) rfl; (case hc => (simp (disch := first|omega|exact kD rfl|exact kX rfl) only [smZ, tyA, simprocAttr, bl, i64, smS, smE, e1, hmx]; exact rfl)); (case hg => assumption))))
      refine ⟨⟨k + 1, by omega⟩, ?_, by simp only; omega⟩
      (refine Sub.heap1 0 ?_ (by simp only [smF, dg, renL, renLs, simprocAttr, bl, i64, smS, smE]; exact rfl) ?_ ?_; all_goals (first | exact dgs_plain _ | with_reducible rfl | (simp only [smF, dg, renL, renLs, simprocAttr, bl, i64, smS, smE]; done) | (simp only [smF, dg, renL, renLs, simprocAttr, bl, i64, smS, smE]) | skip))
      all_goals (first | exact ⟨rfl, rfl⟩ | simp [hP'])
    · obtain rfl : k = xs.length := by omega
      (repeat (first|apply zO (by decide +kernel)|apply zP (by decide +kernel)|apply zA|apply zB|apply zF|apply zG|apply zH|apply zI|apply zJ|apply zK|apply zL (by decide)|apply zM|apply zN (by decide)|apply zD|apply zC|apply zE|((first|apply l_go rfl|apply c_dec); (case hs => (simp (disch := first|omega|exact kD rfl|exact kX rfl) only [smZ, tyA, simprocAttr, bl, i64, smS, smE]; exact rfl)); first|refine c_bt ?_|refine c_bf ?_|show lrun _ _ _ _ _ _ _ _ _)|(apply l_call rfl (by decide) rfl; (case hc => (simp (disch := first|omega|exact kD rfl|exact kX rfl) only [smZ, tyA, simprocAttr, bl, i64, smS, smE]; exact rfl)); (case hg => assumption))))
      ((first | apply g_ret | apply g_end); case hres => (simp only [resL, rOs, rO, Option.map_some]; simp (disch := first|omega|exact kD rfl|exact kX rfl) only [smZ, tyA, simprocAttr, bl, i64, smS, smE]; exact rfl))
      simp (disch := first|omega|exact kD rfl|exact kX rfl) only [smZ, tyA, simprocAttr, bl, i64, smS, smE]
theorem rpole_in {n : Nat} {xs : List Int} (h : EtaOk n xs) (g0 : PureGood Tryz.prog 23 [.agg [i64 n, .sl xs.length (ec xs)]] (i64 0)) : PureGood Tryz.prog 35 [.agg [i64 n, .sl xs.length (ec xs)]] (.tup [i64 (poleN n xs xs.length), i64 0]) := by
  have n1 := h.n1
  have n2 := h.n2
  have hl := h.len
  have l1 := h.len_le
  have g1 := rdivisors_good n1 n2
  have dl := divL_length n
  rw [← hl] at g1 dl
  simp only [i64] at *
  refine good_of_lwp mix Tryz.func35 rfl (by decide) (nt := 54) rfl (rs := [.tmp 2, .tmp 3]) rfl (Nat.le_of_ble_eq_true rfl) ?_
  (repeat (first|apply zO (by decide +kernel)|apply zP (by decide +kernel)|apply zA|apply zB|apply zF|apply zG|apply zH|apply zI|apply zJ|apply zK|apply zL (by decide)|apply zM|apply zN (by decide)|apply zD|apply zC|apply zE|((first|apply l_go rfl|apply c_dec); (case hs => (simp (disch := first|omega|exact kD rfl|exact kX rfl) only [smZ, tyA, simprocAttr, bl, i64, smS, smE]; exact rfl)); first|refine c_bt ?_|refine c_bf ?_|show lrun _ _ _ _ _ _ _ _ _)|(apply l_call rfl (by decide) rfl; (case hc => (simp (disch := first|omega|exact kD rfl|exact kX rfl) only [smZ, tyA, simprocAttr, bl, i64, smS, smE]; exact rfl)); (case hg => assumption))))
  refine w_loop (α := {k : Nat // k ≤ xs.length}) (fun k => st 54 (lk [(1, .ptr 0 0), (5, .sl xs.length (ec (divL n))), (6, i64 (poleN n xs k.1)), (7, i64 k.1)]) (lkH [(0, ⟨24, [i64 n, .sl xs.length (ec xs)], false⟩)]) 1) (fun k => xs.length - k.1) ⟨0, by omega⟩ ?_ ?_
  · (refine Sub.heap1 0 ?_ (by simp only [smF, dg, renL, renLs, simprocAttr, bl, i64, smS, smE]; exact rfl) ?_ ?_; all_goals (first | exact dgs_plain _ | with_reducible rfl | (simp only [smF, dg, renL, renLs, simprocAttr, bl, i64, smS, smE]; done) | (simp only [smF, dg, renL, renLs, simprocAttr, bl, i64, smS, smE]) | skip))
    all_goals (first | exact ⟨rfl, rfl⟩ | simp [poleN])
  · rintro ⟨k, hk⟩
    simp only [st]
    by_cases h1 : k < xs.length
    · obtain ⟨d, e1, e2, e3, e4, e5⟩ := divL_get (n := n) (k := k) (hl ▸ h1)
      have b0 : d * d ≤ 600 * 600 := Nat.mul_le_mul (by omega) (by omega)
      have r0 := rgcdA_good (d * d) n (by omega) (by omega)
      have p1 : 0 < Nat.gcd (d * d) n := Nat.gcd_pos_of_pos_right _ n1
      have f1 : (d : Int) * (d : Int) = ((d * d : Nat) : Int) := by simp
      have f2 : (n : Int) / ((Nat.gcd (d * d) n : Nat) : Int) = ((wid n d : Nat) : Int) := rfl
      have w1 := wid_pos (c := d) n1
      have w2 := wid_le n d
      have r1 := rorder_in h (c := d) e2 e4
      have b1 := lq_ord h e2 (by omega) (Nat.le_refl xs.length)
      have b5 := ceilD_bd h e2 (c := d) (by omega)
      have b6 := poleN_bd h k (by omega)
      have b7 := poleN_bd h (k + 1) (by omega)
      have hs : poleN n xs (k + 1) = max (poleN n xs k) (ceilD n xs d).toNat := by rw [poleN, e5]
      have r5 := fun m => tryQ_neg (xs := xs) n1 d m
      have r6 : ∀ m : Nat, m ≤ 622080000000000 → PureGood Tryz.prog 30 [encQ (ordQ n xs d xs.length), encQ (((m * wid n d : Nat) : Int) : Rat)] (encQ (tryQ n xs d m)) := fun m hm => by
        have b2 : m * wid n d ≤ 622080000000000 * 600 := Nat.mul_le_mul hm (by omega)
        have b3 := lq_i64 (z := ((m * wid n d : Nat) : Int)) (by omega)
        exact rqadd_good _ _ (by omega) (by omega)
      have r7 : ∀ m : Nat, m ≤ 622080000000000 → PureGood Tryz.prog 94 [encQ (tryQ n xs d m)] (i64 (tryQ n xs d m).num.sign) := fun m hm => by
        have b2 : m * wid n d ≤ 622080000000000 * 600 := Nat.mul_le_mul hm (by omega)
        have b3 := lq_i64 (z := ((m * wid n d : Nat) : Int)) (by omega)
        have b4 := lq_add (ordQ n xs d xs.length) (((m * wid n d : Nat) : Int) : Rat)
        exact rqsign_good _ (by unfold tryQ; omega)
      have r8 : ∀ m : Nat, m ≤ 622080000000000 → m * wid n d ≤ 373248000000000000 := fun m hm => Nat.mul_le_mul hm (show wid n d ≤ 600 by omega)
      generalize tryQ n xs d = tq at *
      generalize ordQ n xs d xs.length = q3 at *
      generalize wid n d = w at *
      generalize ceilD n xs d = cd at *
      generalize Nat.gcd (d * d) n = gg at *
      generalize d * d = dd at *
      generalize poleN n xs k = P at *
      generalize hP' : poleN n xs (k + 1) = P' at *
      clear b1 h
      simp only [encQ_sm, i64, bl] at *
      (repeat (first|apply zO (by decide +kernel)|apply zP (by decide +kernel)|apply zA|apply zB|apply zF|apply zG|apply zH|apply zI|apply zJ|apply zK|apply zL (by decide)|apply zM|apply zN (by decide)|apply zD|apply zC|apply zE|((first|apply l_go rfl|apply c_dec); (case hs => (simp (disch := first|omega|exact kD rfl|exact kX rfl) only [smZ, tyA, simprocAttr, bl, i64, smS, smE, e1, f1, f2]; exact rfl)); first|refine c_bt ?_|refine c_bf ?_|show lrun _ _ _ _ _ _ _ _ _)|(apply l_call rfl (by decide) rfl; (case hc => (simp (disch := first|omega|exact kD rfl|exact kX rfl) only [smZ, tyA, simprocAttr, bl, i64, smS, smE, e1, f1, f2]; exact rfl)); (case hg => assumption))))
      refine w_loop (α := {m : Nat // P ≤ m ∧ m ≤ P'}) (fun m => st 54 (lk [(1, .ptr 0 0), (5, .sl xs.length (ec (divL n))), (6, i64 m.1), (7, i64 k), (8, i64 w)]) (lkH [(0, ⟨24, [i64 n, .sl xs.length (ec xs)], false⟩)]) 1) (fun m => P' - m.1) ⟨P, by omega, by omega⟩ ?_ ?_
      · (refine Sub.heap1 0 ?_ (by simp only [smF, dg, renL, renLs, simprocAttr, bl, i64, smS, smE, e1, f1, f2]; exact rfl) ?_ ?_; all_goals (first | exact dgs_plain _ | with_reducible rfl | (simp only [smF, dg, renL, renLs, simprocAttr, bl, i64, smS, smE, e1, f1, f2]; done) | (simp only [smF, dg, renL, renLs, simprocAttr, bl, i64, smS, smE, e1, f1, f2]) | skip))
        all_goals (first | exact ⟨rfl, rfl⟩ | simp)
      · rintro ⟨m, hm1, hm2⟩
        simp only [st]
        have s6 := r6 m (by omega)
        have s7 := r7 m (by omega)
        have s8 := r8 m (by omega)
        have s9 := r5 m
        have s5 := baseQ_good ((m * w : Nat) : Int) (by omega)
        have f3 : (m : Int) * (w : Int) = ((m * w : Nat) : Int) := by simp
        have hb : -1 ≤ (tq m).num.sign ∧ (tq m).num.sign ≤ 1 := by
          rcases Int.sign_trichotomy (tq m).num with e | e | e <;> rw [e] <;> omega
        generalize (tq m).num.sign = sv at *
        generalize tq m = t at *
        generalize m * w = mw at *
        simp only [encQ_sm, i64, bl] at *
        by_cases h2 : sv < 0
        · have h3 := s9.1 h2
          (repeat (first|apply zO (by decide +kernel)|apply zP (by decide +kernel)|apply zA|apply zB|apply zF|apply zG|apply zH|apply zI|apply zJ|apply zK|apply zL (by decide)|apply zM|apply zN (by decide)|apply zD|apply zC|apply zE|((first|apply l_go rfl|apply c_dec); (case hs => (simp (disch := first|omega|exact kD rfl|exact kX rfl) only [smZ, tyA, simprocAttr, bl, i64, smS, smE, e1, f1, f2, f3]; exact rfl)); first|refine c_bt ?_|refine c_bf ?_|show lrun _ _ _ _ _ _ _ _ _)|(apply l_call rfl (by decide) rfl; (case hc => (simp (disch := first|omega|exact kD rfl|exact kX rfl) only [smZ, tyA, simprocAttr, bl, i64, smS, smE, e1, f1, f2, f3]; exact rfl)); (case hg => assumption))))
          refine ⟨⟨m + 1, by omega, by omega⟩, ?_, by simp only; omega⟩
          (refine Sub.heap1 0 ?_ (by simp only [smF, dg, renL, renLs, simprocAttr, bl, i64, smS, smE]; exact rfl) ?_ ?_; all_goals (first | exact dgs_plain _ | with_reducible rfl | (simp only [smF, dg, renL, renLs, simprocAttr, bl, i64, smS, smE]; done) | (simp only [smF, dg, renL, renLs, simprocAttr, bl, i64, smS, smE]) | skip))
          all_goals (first | exact ⟨rfl, rfl⟩ | simp)
        · have h3 : ¬ (m : Int) < cd := fun e => h2 (s9.2 e)
          obtain rfl : m = P' := by omega
          (repeat (first|apply zO (by decide +kernel)|apply zP (by decide +kernel)|apply zA|apply zB|apply zF|apply zG|apply zH|apply zI|apply zJ|apply zK|apply zL (by decide)|apply zM|apply zN (by decide)|apply zD|apply zC|apply zE|((first|apply l_go rfl|apply c_dec); (case hs => (simp (disch := first|omega|exact kD rfl|exact kX rfl) only [smZ, tyA, simprocAttr, bl, i64, smS, smE, e1, f1, f2, f3]; exact rfl)); first|refine c_bt ?_|refine c_bf ?_|show lrun _ _ _ _ _ _ _ _ _)|(apply l_call rfl (by decide) rfl; (case hc => (simp (disch := first|omega|exact kD rfl|exact kX rfl) only [smZ, tyA, simprocAttr, bl, i64, smS, smE, e1, f1, f2, f3]; exact rfl)); (case hg => assumption))))
          refine ⟨⟨k + 1, by omega⟩, ?_, by simp only; omega⟩
          (refine Sub.heap1 0 ?_ (by simp only [smF, dg, renL, renLs, simprocAttr, bl, i64, smS, smE]; exact rfl) ?_ ?_; all_goals (first | exact dgs_plain _ | with_reducible rfl | (simp only [smF, dg, renL, renLs, simprocAttr, bl, i64, smS, smE]; done) | (simp only [smF, dg, renL, renLs, simprocAttr, bl, i64, smS, smE]) | skip))
          all_goals (first | exact ⟨rfl, rfl⟩ | simp [hP'])
    · obtain rfl : k = xs.length := by omega
      (repeat (first|apply zO (by decide +kernel)|apply zP (by decide +kernel)|apply zA|apply zB|apply zF|apply zG|apply zH|apply zI|apply zJ|apply zK|apply zL (by decide)|apply zM|apply zN (by decide)|apply zD|apply zC|apply zE|((first|apply l_go rfl|apply c_dec); (case hs => (simp (disch := first|omega|exact kD rfl|exact kX rfl) only [smZ, tyA, simprocAttr, bl, i64, smS, smE]; exact rfl)); first|refine c_bt ?_|refine c_bf ?_|show lrun _ _ _ _ _ _ _ _ _)|(apply l_call rfl (by decide) rfl; (case hc => (simp (disch := first|omega|exact kD rfl|exact kX rfl) only [smZ, tyA, simprocAttr, bl, i64, smS, smE]; exact rfl)); (case hg => assumption))))
      ((first | apply g_ret | apply g_end); case hres => (simp only [resL, rOs, rO, Option.map_some]; simp (disch := first|omega|exact kD rfl|exact kX rfl) only [smZ, tyA, simprocAttr, bl, i64, smS, smE]; exact rfl))
      simp (disch := first|omega|exact kD rfl|exact kX rfl) only [smZ, tyA, simprocAttr, bl, i64, smS, smE]
end Go.Proofs.YtbajpjjbaffnnaaGreat
