/- Contracts of functions of the program, and what proves them (texts: B16 Enc C9). -/
import Derived.Test.YtbajpjjbaffnnaaGreatZAE
import Derived.Test.YtbajpjjbaffnnaaGreatZAI
import Derived.Test.YtbajpjjbaffnnaaGreatZAK
set_option linter.all false
namespace Go.Proofs.YtbajpjjbaffnnaaGreat
open Go Go.Lg Go.Num
set_option maxRecDepth 100000
attribute [local irreducible] Go.Lg.lrun Go.Lg.lwp Go.Lg.exThen Go.Lg.exBlk Go.Lg.keep Go.Lg.goodPost Go.Lg.mutPost
/-- A list of fractions, by its cells. -/
def qcells (q : Rat) : List LV := [bl (decide (q.num < 0)), dg (digs q.num.natAbs), bl false, dg (digs q.den)]
def encF (f : List Rat) : LV := .sl f.length (f.flatMap qcells)
theorem qcells_plain (q : Rat) : ∀ c ∈ qcells q, plainC c = true := by
  simp [qcells, plainC, bl, dg]
theorem encF_drop : ∀ (f : List Rat) (j : Nat), (f.flatMap qcells).drop (j * 4) = (f.drop j).flatMap qcells
  | [], j => by simp
  | q :: f, 0 => by simp
  | q :: f, j + 1 => by
    rw [show (j + 1) * 4 = 4 + j * 4 by omega, ← List.drop_drop, List.drop_succ_cons, ← encF_drop f j]
    rfl
theorem encF_fetch {f : List Rat} {j : Nat} (h : j < f.length) : fetch Tryz.prog 46 ((f.flatMap qcells).drop (j * 4)) = some (encQ (f.getD j 0)) := by
  rw [encF_drop, List.drop_eq_getElem_cons h]
  have : f.getD j 0 = f[j] := by simp [h]
  rw [this]
  simp only [fetch, tyA, List.flatMap_cons]
  simp [qcells, encQ]
/-- Horner's rule, the leading coefficient first. -/
def hor (f : List Rat) (x : Rat) : Rat := f.foldr (fun c acc => acc * x + c) 0
end Go.Proofs.YtbajpjjbaffnnaaGreat

namespace Go.Proofs.YtbajpjjbaffnnaaGreat
open Go Go.Lg Go.Num
/-- The cells of an integer: the sign's and the digits'. -/
def sg (z : Int) : LV := bl (decide (z < 0))
def mg (z : Int) : LV := dg (digs z.natAbs)
theorem encI_sm (z : Int) : encI z = .agg [sg z, mg z] := rfl
theorem encN_sm (n : Nat) : encN n = .agg [sg (n : Int), mg (n : Int)] := by rw [← encI_nat]; rfl
theorem encQ_sm (q : Rat) : encQ q = .agg [sg q.num, mg q.num, sg (q.den : Int), mg (q.den : Int)] := by
  have h : ¬ (q.den : Int) < 0 := by omega
  simp [encQ, sg, mg, h]
theorem qcells_sm (q : Rat) : qcells q = [sg q.num, mg q.num, sg (q.den : Int), mg (q.den : Int)] := by
  have h : ¬ (q.den : Int) < 0 := by omega
  simp [qcells, sg, mg, h]
theorem s1 {h : Nat → Option Blk} {ok : Nat → Bool} {k : Nat} (z : Int) : pv h ok (k + 1) (sg z) = some (sg z, []) := rfl
theorem s2 {h : Nat → Option Blk} {ok : Nat → Bool} {k : Nat} (z : Int) : pv h ok (k + 1) (mg z) = some (mg z, []) := rfl
theorem s3 (z : Int) : one (sg z) = true := rfl
theorem s4 (z : Int) : one (mg z) = true := rfl
theorem s5 (z : Int) : cellsOf (sg z) = some [sg z] := rfl
theorem s6 (z : Int) : cellsOf (mg z) = some [mg z] := rfl
theorem s7 (nb : Nat) (ρ : Nat → Nat) (z : Int) : renL nb ρ (sg z) = some (sg z) := by simp [sg, bl, renL]
theorem s8 (nb : Nat) (ρ : Nat → Nat) (z : Int) : renL nb ρ (mg z) = some (mg z) := by simp [mg, dg, renL]
theorem s9 (z : Int) : plainC (sg z) = true := rfl
theorem s10 (z : Int) : plainC (mg z) = true := rfl
theorem sg0 : sg 0 = .lit (.bool false) := rfl
theorem mg0 : mg 0 = .sl 0 [] := by simp [mg, dg, digs_zero, dgs]
def smS := And.intro @s1 (And.intro @s2 (And.intro s3 (And.intro s4 (And.intro s5 (And.intro s6 (And.intro s7 (And.intro s8 (And.intro s9 s10))))))))
end Go.Proofs.YtbajpjjbaffnnaaGreat

namespace Go.Proofs.YtbajpjjbaffnnaaGreat
open Go Go.Lg Go.Num
set_option maxRecDepth 100000
attribute [local irreducible] Go.Lg.lrun Go.Lg.lwp Go.Lg.exThen Go.Lg.exBlk Go.Lg.keep Go.Lg.goodPost sg mg
theorem rof1_good : PureGood Tryz.prog 142 [i64 1] (encI 1) := rof_good 1 (by omega)
theorem rqof_good (n : Int) (h : -9223372036854775808 ≤ n ∧ n ≤ 9223372036854775807) : PureGood Tryz.prog 139 [i64 n] (encQ n) := by
  have h1 := rof_good n h
  have h2 := rof1_good
  rw [encQ_sm, Rat.num_intCast, Rat.den_intCast, Int.natCast_one]
  rw [encI_sm, i64] at *
  refine good_of_lwp mix Tryz.func139 rfl (by decide) (nt := 7) rfl (rs := [.cell 2 46]) rfl (Nat.le_of_ble_eq_true rfl) ?_
  (repeat (first|apply zO (by decide +kernel)|apply zP (by decide +kernel)|apply zA|apply zB|apply zF|apply zG|apply zH|apply zI|apply zJ|apply zK|apply zL (by decide)|apply zM|apply zN (by decide)|apply zD|apply zC|apply zE|((first|apply l_go rfl|apply c_dec); (case hs => (simp (disch := first|omega|exact kD rfl|exact kX rfl) only [smZ, tyA, simprocAttr, bl, i64, smS]; exact rfl)); first|refine c_bt ?_|refine c_bf ?_|show lrun _ _ _ _ _ _ _ _ _)|(apply l_call rfl (by decide) rfl; (case hc => (simp (disch := first|omega|exact kD rfl|exact kX rfl) only [smZ, tyA, simprocAttr, bl, i64, smS]; exact rfl)); (case hg => assumption))))
  ((first | apply g_ret | apply g_end); case hres => (simp only [resL, rOs, rO, Option.map_some]; simp (disch := first|omega|exact kD rfl|exact kX rfl) only [smZ, tyA, simprocAttr, bl, i64, smS]; exact rfl))
  simp (disch := first|omega|exact kD rfl|exact kX rfl) only [smZ, tyA, simprocAttr, bl, i64, smS]
theorem rover_good (n d : Int) (hn : len n ≤ 137438953472) (hd : len d ≤ 137438953472) : PureGood Tryz.prog 84 [encI n, encI d] (encQ (Rat.divInt n d)) := by
  have hs := rsign_good d (by omega)
  by_cases h0 : d = 0
  · subst h0
    rw [Rat.divInt_zero]
    have hz := rqof_good 0 (by omega)
    rw [show ((0 : Int) : Rat) = 0 from rfl] at hz
    rw [Int.sign_zero] at hs
    simp only [encI_sm, encQ_sm, i64] at *
    refine good_of_lwp mix Tryz.func84 rfl (by decide) (nt := 33) rfl (rs := [.cell 4 46]) rfl (Nat.le_of_ble_eq_true rfl) ?_
    (repeat (first|apply zO (by decide +kernel)|apply zP (by decide +kernel)|apply zA|apply zB|apply zF|apply zG|apply zH|apply zI|apply zJ|apply zK|apply zL (by decide)|apply zM|apply zN (by decide)|apply zD|apply zC|apply zE|((first|apply l_go rfl|apply c_dec); (case hs => (simp (disch := first|omega|exact kD rfl|exact kX rfl) only [smZ, tyA, simprocAttr, bl, i64, smS]; exact rfl)); first|refine c_bt ?_|refine c_bf ?_|show lrun _ _ _ _ _ _ _ _ _)|(apply l_call rfl (by decide) rfl; (case hc => (simp (disch := first|omega|exact kD rfl|exact kX rfl) only [smZ, tyA, simprocAttr, bl, i64, smS]; exact rfl)); (case hg => assumption))))
    ((first | apply g_ret | apply g_end); case hres => (simp only [resL, rOs, rO, Option.map_some]; simp (disch := first|omega|exact kD rfl|exact kX rfl) only [smZ, tyA, simprocAttr, bl, i64, smS]; exact rfl))
    simp (disch := first|omega|exact kD rfl|exact kX rfl) only [smZ, tyA, simprocAttr, bl, i64, smS]
  have hp := divInt_parts (n := n) h0
  have hg0 : Int.gcd n d ≠ 0 := fun e => h0 (Int.gcd_eq_zero_iff.1 e).2
  have hgn : ((Int.gcd n d : Nat) : Int) ∣ n := Int.gcd_dvd_left ..
  have hgl : len ((Int.gcd n d : Nat) : Int) ≤ 137438953472 := Nat.le_trans (len_gcd_le (x := n) (y := d) (by omega)) (by omega)
  have hg := rgcd_good n d (by omega) (by omega)
  have hng := rneg_good ((Int.gcd n d : Nat) : Int) (by omega)
  have h1 := rof1_good
  have hnn := rnorm_good n (by omega)
  have hnd := rnorm_good d (by omega)
  generalize hG : (Int.gcd n d : Nat) = g at *
  by_cases hneg : d < 0
  · rw [Int.sign_eq_neg_one_of_neg hneg] at hs
    rw [if_pos hneg] at hp
    have hlg : len (-(g : Int)) ≤ 137438953472 := by rw [len_neg]; exact hgl
    have hdn := rdiv_good n (-(g : Int)) (by omega) (by omega) hlg
    have hdd := rdiv_good d (-(g : Int)) (by omega) (by omega) hlg
    have hsm := rsame_good (-(g : Int)) 1 (by omega) (by decide +kernel)
    rw [show decide (-(g : Int) = 1) = false by simp; omega] at hsm
    have e1 : n / (-(g : Int)) = (Rat.divInt n d).num := by rw [hp.1, Int.ediv_neg, Int.neg_ediv_of_dvd hgn]
    have e2 : d / (-(g : Int)) = ((Rat.divInt n d).den : Int) := by
      rw [hp.2, Int.ediv_neg]
      have hgd : (g : Int) ∣ d := by rw [← hG]; exact Int.gcd_dvd_right ..
      rw [← Int.neg_ediv_of_dvd hgd]
      congr 1
      omega
    rw [e1] at hdn
    rw [e2] at hdd
    simp only [encI_sm, encQ_sm, i64] at *
    clear hp e1 e2
    refine good_of_lwp mix Tryz.func84 rfl (by decide) (nt := 33) rfl (rs := [.cell 4 46]) rfl (Nat.le_of_ble_eq_true rfl) ?_
    (repeat (first|apply zO (by decide +kernel)|apply zP (by decide +kernel)|apply zA|apply zB|apply zF|apply zG|apply zH|apply zI|apply zJ|apply zK|apply zL (by decide)|apply zM|apply zN (by decide)|apply zD|apply zC|apply zE|((first|apply l_go rfl|apply c_dec); (case hs => (simp (disch := first|omega|exact kD rfl|exact kX rfl) only [smZ, tyA, simprocAttr, bl, i64, smS]; exact rfl)); first|refine c_bt ?_|refine c_bf ?_|show lrun _ _ _ _ _ _ _ _ _)|(apply l_call rfl (by decide) rfl; (case hc => (simp (disch := first|omega|exact kD rfl|exact kX rfl) only [smZ, tyA, simprocAttr, bl, i64, smS]; exact rfl)); (case hg => assumption))))
    ((first | apply g_ret | apply g_end); case hres => (simp only [resL, rOs, rO, Option.map_some]; simp (disch := first|omega|exact kD rfl|exact kX rfl) only [smZ, tyA, simprocAttr, bl, i64, smS]; exact rfl))
    simp (disch := first|omega|exact kD rfl|exact kX rfl) only [smZ, tyA, simprocAttr, bl, i64, smS]
  · have hpos : 0 < d := by omega
    rw [Int.sign_eq_one_of_pos hpos] at hs
    rw [if_neg hneg, Int.natAbs_of_nonneg (by omega)] at hp
    have hsm := rsame_good (g : Int) 1 (by omega) (by decide +kernel)
    by_cases hg1 : (g : Int) = 1
    · rw [hg1, Int.ediv_one, Int.ediv_one] at hp
      rw [hg1] at hg hsm
      rw [encQ_sm, hp.1, hp.2]
      simp only [encI_sm, i64] at *
      refine good_of_lwp mix Tryz.func84 rfl (by decide) (nt := 33) rfl (rs := [.cell 4 46]) rfl (Nat.le_of_ble_eq_true rfl) ?_
      (repeat (first|apply zO (by decide +kernel)|apply zP (by decide +kernel)|apply zA|apply zB|apply zF|apply zG|apply zH|apply zI|apply zJ|apply zK|apply zL (by decide)|apply zM|apply zN (by decide)|apply zD|apply zC|apply zE|((first|apply l_go rfl|apply c_dec); (case hs => (simp (disch := first|omega|exact kD rfl|exact kX rfl) only [smZ, tyA, simprocAttr, bl, i64, smS]; exact rfl)); first|refine c_bt ?_|refine c_bf ?_|show lrun _ _ _ _ _ _ _ _ _)|(apply l_call rfl (by decide) rfl; (case hc => (simp (disch := first|omega|exact kD rfl|exact kX rfl) only [smZ, tyA, simprocAttr, bl, i64, smS]; exact rfl)); (case hg => assumption))))
      ((first | apply g_ret | apply g_end); case hres => (simp only [resL, rOs, rO, Option.map_some]; simp (disch := first|omega|exact kD rfl|exact kX rfl) only [smZ, tyA, simprocAttr, bl, i64, smS]; exact rfl))
      simp (disch := first|omega|exact kD rfl|exact kX rfl) only [smZ, tyA, simprocAttr, bl, i64, smS]
    · have hdn := rdiv_good n (g : Int) (by omega) (by omega) hgl
      have hdd := rdiv_good d (g : Int) (by omega) (by omega) hgl
      rw [← hp.1] at hdn
      rw [← hp.2] at hdd
      rw [show decide ((g : Int) = 1) = false by simp; omega] at hsm
      simp only [encI_sm, encQ_sm, i64] at *
      clear hp
      refine good_of_lwp mix Tryz.func84 rfl (by decide) (nt := 33) rfl (rs := [.cell 4 46]) rfl (Nat.le_of_ble_eq_true rfl) ?_
      (repeat (first|apply zO (by decide +kernel)|apply zP (by decide +kernel)|apply zA|apply zB|apply zF|apply zG|apply zH|apply zI|apply zJ|apply zK|apply zL (by decide)|apply zM|apply zN (by decide)|apply zD|apply zC|apply zE|((first|apply l_go rfl|apply c_dec); (case hs => (simp (disch := first|omega|exact kD rfl|exact kX rfl) only [smZ, tyA, simprocAttr, bl, i64, smS]; exact rfl)); first|refine c_bt ?_|refine c_bf ?_|show lrun _ _ _ _ _ _ _ _ _)|(apply l_call rfl (by decide) rfl; (case hc => (simp (disch := first|omega|exact kD rfl|exact kX rfl) only [smZ, tyA, simprocAttr, bl, i64, smS]; exact rfl)); (case hg => assumption))))
      ((first | apply g_ret | apply g_end); case hres => (simp only [resL, rOs, rO, Option.map_some]; simp (disch := first|omega|exact kD rfl|exact kX rfl) only [smZ, tyA, simprocAttr, bl, i64, smS]; exact rfl))
      simp (disch := first|omega|exact kD rfl|exact kX rfl) only [smZ, tyA, simprocAttr, bl, i64, smS]
theorem rqnorm_good (q : Rat) (h : lq q ≤ 137438953472) : PureGood Tryz.prog 72 [encQ q] (encQ q) := by
  have h1 := rover_good q.num q.den (by unfold lq at h; omega) (by unfold lq at h; omega)
  rw [self_divInt] at h1
  simp only [encI_sm, encQ_sm] at *
  refine good_of_lwp mix Tryz.func72 rfl (by decide) (nt := 8) rfl (rs := [.cell 2 46]) rfl (Nat.le_of_ble_eq_true rfl) ?_
  (repeat (first|apply zO (by decide +kernel)|apply zP (by decide +kernel)|apply zA|apply zB|apply zF|apply zG|apply zH|apply zI|apply zJ|apply zK|apply zL (by decide)|apply zM|apply zN (by decide)|apply zD|apply zC|apply zE|((first|apply l_go rfl|apply c_dec); (case hs => (simp (disch := first|omega|exact kD rfl|exact kX rfl) only [smZ, tyA, simprocAttr, bl, i64, smS]; exact rfl)); first|refine c_bt ?_|refine c_bf ?_|show lrun _ _ _ _ _ _ _ _ _)|(apply l_call rfl (by decide) rfl; (case hc => (simp (disch := first|omega|exact kD rfl|exact kX rfl) only [smZ, tyA, simprocAttr, bl, i64, smS]; exact rfl)); (case hg => assumption))))
  ((first | apply g_ret | apply g_end); case hres => (simp only [resL, rOs, rO, Option.map_some]; simp (disch := first|omega|exact kD rfl|exact kX rfl) only [smZ, tyA, simprocAttr, bl, i64, smS]; exact rfl))
  simp (disch := first|omega|exact kD rfl|exact kX rfl) only [smZ, tyA, simprocAttr, bl, i64, smS]
theorem rqneg_good (q : Rat) (h : lq q ≤ 137438953472) : PureGood Tryz.prog 217 [encQ q] (encQ (-q)) := by
  have h0 := rneg_good q.num (by unfold lq at h; omega)
  have h1 := rover_good (-q.num) q.den (by rw [len_neg]; unfold lq at h; omega) (by unfold lq at h; omega)
  rw [← neg_divInt'] at h1
  simp only [encI_sm, encQ_sm] at *
  refine good_of_lwp mix Tryz.func217 rfl (by decide) (nt := 9) rfl (rs := [.cell 2 46]) rfl (Nat.le_of_ble_eq_true rfl) ?_
  (repeat (first|apply zO (by decide +kernel)|apply zP (by decide +kernel)|apply zA|apply zB|apply zF|apply zG|apply zH|apply zI|apply zJ|apply zK|apply zL (by decide)|apply zM|apply zN (by decide)|apply zD|apply zC|apply zE|((first|apply l_go rfl|apply c_dec); (case hs => (simp (disch := first|omega|exact kD rfl|exact kX rfl) only [smZ, tyA, simprocAttr, bl, i64, smS]; exact rfl)); first|refine c_bt ?_|refine c_bf ?_|show lrun _ _ _ _ _ _ _ _ _)|(apply l_call rfl (by decide) rfl; (case hc => (simp (disch := first|omega|exact kD rfl|exact kX rfl) only [smZ, tyA, simprocAttr, bl, i64, smS]; exact rfl)); (case hg => assumption))))
  ((first | apply g_ret | apply g_end); case hres => (simp only [resL, rOs, rO, Option.map_some]; simp (disch := first|omega|exact kD rfl|exact kX rfl) only [smZ, tyA, simprocAttr, bl, i64, smS]; exact rfl))
  simp (disch := first|omega|exact kD rfl|exact kX rfl) only [smZ, tyA, simprocAttr, bl, i64, smS]
theorem rqadd_good (p q : Rat) (hp : lq p ≤ 34359738368) (hq : lq q ≤ 34359738368) : PureGood Tryz.prog 30 [encQ p, encQ q] (encQ (p + q)) := by
  have n1 := rqnorm_good p (by omega)
  have n2 := rqnorm_good q (by omega)
  unfold lq at hp hq
  have h1 := rmul_good p.num q.den (by omega) (by omega)
  have h2 := rmul_good q.num p.den (by omega) (by omega)
  have l1 := len_mul p.num (q.den : Int)
  have l2 := len_mul q.num (p.den : Int)
  have l3 := len_add (p.num * q.den) (q.num * p.den)
  have l4 := len_mul (p.den : Int) (q.den : Int)
  have h3 := radd_good (p.num * q.den) (q.num * p.den) (by omega) (by omega)
  have h4 := rmul_good p.den q.den (by omega) (by omega)
  have h5 := rover_good (p.num * q.den + q.num * p.den) (p.den * q.den) (by omega) (by omega)
  rw [← add_divInt] at h5
  simp only [encI_sm, encQ_sm] at *
  refine good_of_lwp mix Tryz.func30 rfl (by decide) (nt := 28) rfl (rs := [.cell 4 46]) rfl (Nat.le_of_ble_eq_true rfl) ?_
  (repeat (first|apply zO (by decide +kernel)|apply zP (by decide +kernel)|apply zA|apply zB|apply zF|apply zG|apply zH|apply zI|apply zJ|apply zK|apply zL (by decide)|apply zM|apply zN (by decide)|apply zD|apply zC|apply zE|((first|apply l_go rfl|apply c_dec); (case hs => (simp (disch := first|omega|exact kD rfl|exact kX rfl) only [smZ, tyA, simprocAttr, bl, i64, smS]; exact rfl)); first|refine c_bt ?_|refine c_bf ?_|show lrun _ _ _ _ _ _ _ _ _)|(apply l_call rfl (by decide) rfl; (case hc => (simp (disch := first|omega|exact kD rfl|exact kX rfl) only [smZ, tyA, simprocAttr, bl, i64, smS]; exact rfl)); (case hg => assumption))))
  ((first | apply g_ret | apply g_end); case hres => (simp only [resL, rOs, rO, Option.map_some]; simp (disch := first|omega|exact kD rfl|exact kX rfl) only [smZ, tyA, simprocAttr, bl, i64, smS]; exact rfl))
  simp (disch := first|omega|exact kD rfl|exact kX rfl) only [smZ, tyA, simprocAttr, bl, i64, smS]
theorem rqsub_good (p q : Rat) (hp : lq p ≤ 34359738368) (hq : lq q ≤ 34359738368) : PureGood Tryz.prog 177 [encQ p, encQ q] (encQ (p - q)) := by
  have h1 := rqneg_good q (by omega)
  have h2 := rqadd_good p (-q) hp (by rw [lq_neg]; exact hq)
  rw [← Rat.sub_eq_add_neg] at h2
  simp only [encQ_sm] at *
  refine good_of_lwp mix Tryz.func177 rfl (by decide) (nt := 9) rfl (rs := [.cell 4 46]) rfl (Nat.le_of_ble_eq_true rfl) ?_
  (repeat (first|apply zO (by decide +kernel)|apply zP (by decide +kernel)|apply zA|apply zB|apply zF|apply zG|apply zH|apply zI|apply zJ|apply zK|apply zL (by decide)|apply zM|apply zN (by decide)|apply zD|apply zC|apply zE|((first|apply l_go rfl|apply c_dec); (case hs => (simp (disch := first|omega|exact kD rfl|exact kX rfl) only [smZ, tyA, simprocAttr, bl, i64, smS]; exact rfl)); first|refine c_bt ?_|refine c_bf ?_|show lrun _ _ _ _ _ _ _ _ _)|(apply l_call rfl (by decide) rfl; (case hc => (simp (disch := first|omega|exact kD rfl|exact kX rfl) only [smZ, tyA, simprocAttr, bl, i64, smS]; exact rfl)); (case hg => assumption))))
  ((first | apply g_ret | apply g_end); case hres => (simp only [resL, rOs, rO, Option.map_some]; simp (disch := first|omega|exact kD rfl|exact kX rfl) only [smZ, tyA, simprocAttr, bl, i64, smS]; exact rfl))
  simp (disch := first|omega|exact kD rfl|exact kX rfl) only [smZ, tyA, simprocAttr, bl, i64, smS]
theorem rqmul_good (p q : Rat) (hp : lq p ≤ 34359738368) (hq : lq q ≤ 34359738368) : PureGood Tryz.prog 31 [encQ p, encQ q] (encQ (p * q)) := by
  unfold lq at hp hq
  have h1 := rmul_good p.num q.num (by omega) (by omega)
  have h2 := rmul_good p.den q.den (by omega) (by omega)
  have l1 := len_mul p.num q.num
  have l4 := len_mul (p.den : Int) (q.den : Int)
  have h5 := rover_good (p.num * q.num) (p.den * q.den) (by omega) (by omega)
  rw [← mul_divInt] at h5
  simp only [encI_sm, encQ_sm] at *
  refine good_of_lwp mix Tryz.func31 rfl (by decide) (nt := 16) rfl (rs := [.cell 4 46]) rfl (Nat.le_of_ble_eq_true rfl) ?_
  (repeat (first|apply zO (by decide +kernel)|apply zP (by decide +kernel)|apply zA|apply zB|apply zF|apply zG|apply zH|apply zI|apply zJ|apply zK|apply zL (by decide)|apply zM|apply zN (by decide)|apply zD|apply zC|apply zE|((first|apply l_go rfl|apply c_dec); (case hs => (simp (disch := first|omega|exact kD rfl|exact kX rfl) only [smZ, tyA, simprocAttr, bl, i64, smS]; exact rfl)); first|refine c_bt ?_|refine c_bf ?_|show lrun _ _ _ _ _ _ _ _ _)|(apply l_call rfl (by decide) rfl; (case hc => (simp (disch := first|omega|exact kD rfl|exact kX rfl) only [smZ, tyA, simprocAttr, bl, i64, smS]; exact rfl)); (case hg => assumption))))
  ((first | apply g_ret | apply g_end); case hres => (simp only [resL, rOs, rO, Option.map_some]; simp (disch := first|omega|exact kD rfl|exact kX rfl) only [smZ, tyA, simprocAttr, bl, i64, smS]; exact rfl))
  simp (disch := first|omega|exact kD rfl|exact kX rfl) only [smZ, tyA, simprocAttr, bl, i64, smS]
theorem rratio_good (p q : Rat) (hp : lq p ≤ 34359738368) (hq : lq q ≤ 34359738368) : PureGood Tryz.prog 216 [encQ p, encQ q] (encQ (p / q)) := by
  have n1 := rqnorm_good p (by omega)
  have n2 := rqnorm_good q (by omega)
  unfold lq at hp hq
  have h1 := rmul_good p.num q.den (by omega) (by omega)
  have h2 := rmul_good p.den q.num (by omega) (by omega)
  have l1 := len_mul p.num (q.den : Int)
  have l4 := len_mul (p.den : Int) q.num
  have h5 := rover_good (p.num * q.den) (p.den * q.num) (by omega) (by omega)
  rw [← div_divInt] at h5
  simp only [encI_sm, encQ_sm] at *
  refine good_of_lwp mix Tryz.func216 rfl (by decide) (nt := 22) rfl (rs := [.cell 4 46]) rfl (Nat.le_of_ble_eq_true rfl) ?_
  (repeat (first|apply zO (by decide +kernel)|apply zP (by decide +kernel)|apply zA|apply zB|apply zF|apply zG|apply zH|apply zI|apply zJ|apply zK|apply zL (by decide)|apply zM|apply zN (by decide)|apply zD|apply zC|apply zE|((first|apply l_go rfl|apply c_dec); (case hs => (simp (disch := first|omega|exact kD rfl|exact kX rfl) only [smZ, tyA, simprocAttr, bl, i64, smS]; exact rfl)); first|refine c_bt ?_|refine c_bf ?_|show lrun _ _ _ _ _ _ _ _ _)|(apply l_call rfl (by decide) rfl; (case hc => (simp (disch := first|omega|exact kD rfl|exact kX rfl) only [smZ, tyA, simprocAttr, bl, i64, smS]; exact rfl)); (case hg => assumption))))
  ((first | apply g_ret | apply g_end); case hres => (simp only [resL, rOs, rO, Option.map_some]; simp (disch := first|omega|exact kD rfl|exact kX rfl) only [smZ, tyA, simprocAttr, bl, i64, smS]; exact rfl))
  simp (disch := first|omega|exact kD rfl|exact kX rfl) only [smZ, tyA, simprocAttr, bl, i64, smS]
end Go.Proofs.YtbajpjjbaffnnaaGreat
