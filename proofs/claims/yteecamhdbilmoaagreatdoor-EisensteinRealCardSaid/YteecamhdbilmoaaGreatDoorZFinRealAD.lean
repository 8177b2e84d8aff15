/- Contracts of functions of the program, and what proves them (texts: S4 S5 L4 ClsD). -/
import Derived.Test.YteecamhdbilmoaaGreatDoorZAO
import Derived.Test.YteecamhdbilmoaaGreatDoorZFinRealAB
import Derived.Test.YteecamhdbilmoaaGreatDoorZFinRealAC
set_option linter.all false
namespace Go.Proofs.YteecamhdbilmoaaGreatDoor
open Go Go.Lg Go.Num
set_option maxRecDepth 100000
set_option maxHeartbeats 8000000
attribute [local irreducible] Go.Lg.lrun Go.Lg.lwp Go.Lg.exThen Go.Lg.exBlk Go.Lg.keep Go.Lg.goodPost sg mg oc mC twP tw bq kr chi eK gB cSer
theorem fd_out {d : Int} (h : ¬ (-60 ≤ d ∧ d ≤ 60)) : fdL.contains d = false := by
 cases e : fdL.contains d with
 | false => rfl
 | true => exact absurd (fd_rng (List.contains_iff_mem.1 e)).2 h
theorem qd_good (d : Int) (h : -9223372036854775808 ≤ d ∧ d ≤ 9223372036854775807) : PureGood Tryz.prog 49 [i64 d] (bl (fdL.contains d)) ∧ PureGood Tryz.prog 31 [i64 d] (bl (fdL.contains d)) := by
 by_cases h1 : d < -60
 ·rw [fd_out (by omega)]
  simp only [i64,bl]
  constructor
  ·refine good_of_lwp mix Tryz.func49 rfl (by decide) (nt := 29) rfl (rs := [.tmp 2]) rfl (nle rfl) ?_
   (repeat (first|apply zO (by decide +kernel)|apply zP (by decide +kernel)|(apply zS;(case h=>constructor<;>decide))|((first|apply l_go rfl|apply c_dec|apply zT rfl (by decide) rfl);(case hs=>(simp (disch := first|omega|exact kD rfl|exact kX rfl) only [smY,simprocAttr,bl,i64,smT];exact rfl));first|refine c_bt ?_|refine c_bf ?_|refine zq ?_|(case hg=>assumption))))
   ((first|apply g_ret|apply g_end);case hres => (simp only [smR];simp (disch := first|omega|exact kD rfl|exact kX rfl) only [smY,simprocAttr,bl,i64,smT];exact rfl))
   simp (disch := first|omega|exact kD rfl|exact kX rfl) only [smY,simprocAttr,bl,i64,smT]
  ·refine good_of_lwp mix Tryz.func31 rfl (by decide) (nt := 13) rfl (rs := [.tmp 2]) rfl (nle rfl) ?_
   (repeat (first|apply zO (by decide +kernel)|apply zP (by decide +kernel)|(apply zS;(case h=>constructor<;>decide))|((first|apply l_go rfl|apply c_dec|apply zT rfl (by decide) rfl);(case hs=>(simp (disch := first|omega|exact kD rfl|exact kX rfl) only [smY,simprocAttr,bl,i64,smT];exact rfl));first|refine c_bt ?_|refine c_bf ?_|refine zq ?_|(case hg=>assumption))))
   refine l_cskip rfl (by decide) rfl ?_
   (repeat (first|apply zO (by decide +kernel)|apply zP (by decide +kernel)|(apply zS;(case h=>constructor<;>decide))|((first|apply l_go rfl|apply c_dec|apply zT rfl (by decide) rfl);(case hs=>(simp (disch := first|omega|exact kD rfl|exact kX rfl) only [smY,simprocAttr,bl,i64,smT];exact rfl));first|refine c_bt ?_|refine c_bf ?_|refine zq ?_|(case hg=>assumption))))
   ((first|apply g_ret|apply g_end);case hres => (simp only [smR];simp (disch := first|omega|exact kD rfl|exact kX rfl) only [smY,simprocAttr,bl,i64,smT];exact rfl))
   simp (disch := first|omega|exact kD rfl|exact kX rfl) only [smY,simprocAttr,bl,i64,smT]
 ·by_cases h2 : 60 < d
  ·rw [fd_out (by omega)]
   simp only [i64,bl]
   constructor
   ·refine good_of_lwp mix Tryz.func49 rfl (by decide) (nt := 29) rfl (rs := [.tmp 2]) rfl (nle rfl) ?_
    (repeat (first|apply zO (by decide +kernel)|apply zP (by decide +kernel)|(apply zS;(case h=>constructor<;>decide))|((first|apply l_go rfl|apply c_dec|apply zT rfl (by decide) rfl);(case hs=>(simp (disch := first|omega|exact kD rfl|exact kX rfl) only [smY,simprocAttr,bl,i64,smT];exact rfl));first|refine c_bt ?_|refine c_bf ?_|refine zq ?_|(case hg=>assumption))))
    ((first|apply g_ret|apply g_end);case hres => (simp only [smR];simp (disch := first|omega|exact kD rfl|exact kX rfl) only [smY,simprocAttr,bl,i64,smT];exact rfl))
    simp (disch := first|omega|exact kD rfl|exact kX rfl) only [smY,simprocAttr,bl,i64,smT]
   ·refine good_of_lwp mix Tryz.func31 rfl (by decide) (nt := 13) rfl (rs := [.tmp 2]) rfl (nle rfl) ?_
    (repeat (first|apply zO (by decide +kernel)|apply zP (by decide +kernel)|(apply zS;(case h=>constructor<;>decide))|((first|apply l_go rfl|apply c_dec|apply zT rfl (by decide) rfl);(case hs=>(simp (disch := first|omega|exact kD rfl|exact kX rfl) only [smY,simprocAttr,bl,i64,smT];exact rfl));first|refine c_bt ?_|refine c_bf ?_|refine zq ?_|(case hg=>assumption))))
    refine l_cskip rfl (by decide) rfl ?_
    (repeat (first|apply zO (by decide +kernel)|apply zP (by decide +kernel)|(apply zS;(case h=>constructor<;>decide))|((first|apply l_go rfl|apply c_dec|apply zT rfl (by decide) rfl);(case hs=>(simp (disch := first|omega|exact kD rfl|exact kX rfl) only [smY,simprocAttr,bl,i64,smT];exact rfl));first|refine c_bt ?_|refine c_bf ?_|refine zq ?_|(case hg=>assumption))))
    ((first|apply g_ret|apply g_end);case hres => (simp only [smR];simp (disch := first|omega|exact kD rfl|exact kX rfl) only [smY,simprocAttr,bl,i64,smT];exact rfl))
    simp (disch := first|omega|exact kD rfl|exact kX rfl) only [smY,simprocAttr,bl,i64,smT]
  ·exact fd_in (by omega) (by omega)
theorem inside_good (p : Int) (hp : -9223372036854775808 ≤ p ∧ p ≤ 9223372036854775807) : PureGood Tryz.prog 39 [i64 p] (bl (decide (0 ≤ p ∧ p ≤ 1000))) := by
 by_cases h1 : 0 ≤ p
 ·by_cases h2 : p ≤ 1000
  ·rw [dec_t ⟨h1,h2⟩]
   simp only [i64,bl]
   refine good_of_lwp mix Tryz.func39 rfl (by decide) (nt := 9) rfl (rs := [.tmp 2]) rfl (nle rfl) ?_
   (repeat (first|apply zO (by decide +kernel)|apply zP (by decide +kernel)|(apply zS;(case h=>constructor<;>decide))|((first|apply l_go rfl|apply c_dec|apply zT rfl (by decide) rfl);(case hs=>(simp (disch := first|omega|exact kD rfl|exact kX rfl) only [smY,simprocAttr,bl,i64,smT];exact rfl));first|refine c_bt ?_|refine c_bf ?_|refine zq ?_|(case hg=>assumption))))
   ((first|apply g_ret|apply g_end);case hres => (simp only [smR];simp (disch := first|omega|exact kD rfl|exact kX rfl) only [smY,simprocAttr,bl,i64,smT];exact rfl))
   simp (disch := first|omega|exact kD rfl|exact kX rfl) only [smY,simprocAttr,bl,i64,smT]
  ·rw [dec_f (fun e => h2 e.2)]
   simp only [i64,bl]
   refine good_of_lwp mix Tryz.func39 rfl (by decide) (nt := 9) rfl (rs := [.tmp 2]) rfl (nle rfl) ?_
   (repeat (first|apply zO (by decide +kernel)|apply zP (by decide +kernel)|(apply zS;(case h=>constructor<;>decide))|((first|apply l_go rfl|apply c_dec|apply zT rfl (by decide) rfl);(case hs=>(simp (disch := first|omega|exact kD rfl|exact kX rfl) only [smY,simprocAttr,bl,i64,smT];exact rfl));first|refine c_bt ?_|refine c_bf ?_|refine zq ?_|(case hg=>assumption))))
   ((first|apply g_ret|apply g_end);case hres => (simp only [smR];simp (disch := first|omega|exact kD rfl|exact kX rfl) only [smY,simprocAttr,bl,i64,smT];exact rfl))
   simp (disch := first|omega|exact kD rfl|exact kX rfl) only [smY,simprocAttr,bl,i64,smT]
 ·rw [dec_f (fun e => h1 e.1)]
  simp only [i64,bl]
  refine good_of_lwp mix Tryz.func39 rfl (by decide) (nt := 9) rfl (rs := [.tmp 2]) rfl (nle rfl) ?_
  (repeat (first|apply zO (by decide +kernel)|apply zP (by decide +kernel)|(apply zS;(case h=>constructor<;>decide))|((first|apply l_go rfl|apply c_dec|apply zT rfl (by decide) rfl);(case hs=>(simp (disch := first|omega|exact kD rfl|exact kX rfl) only [smY,simprocAttr,bl,i64,smT];exact rfl));first|refine c_bt ?_|refine c_bf ?_|refine zq ?_|(case hg=>assumption))))
  ((first|apply g_ret|apply g_end);case hres => (simp only [smR];simp (disch := first|omega|exact kD rfl|exact kX rfl) only [smY,simprocAttr,bl,i64,smT];exact rfl))
  simp (disch := first|omega|exact kD rfl|exact kX rfl) only [smY,simprocAttr,bl,i64,smT]
def wR (k : Nat) (d1 d2 : Int) (t : Nat) : Nat → Rat := if k = 2 ∧ d1 = 1 ∧ d2 = 1 then dfT (eK k d1 d2) t else upT (eK k d1 d2) t
def eR (e : Int) : LV := .tup [.agg [i64 0,.sl 0 []],i64 e]
def bothR (k d1 d2 t prec : Int) (r : LV) : Prop := PureGood Tryz.prog 16 [i64 k,i64 d1,i64 d2,i64 t,i64 prec] r ∧ PureGood Tryz.prog 17 [i64 k,i64 d1,i64 d2,i64 t,i64 prec] r
theorem real_e1 {k d1 d2 t prec : Int} (h : k < 2 ∨ 40 < k) : bothR k d1 d2 t prec (eR 2) := by
 unfold bothR eR
 simp only [i64]
 by_cases c : k < 2
 ·
  constructor
  ·refine good_of_lwp mix Tryz.func16 rfl (by decide) (nt := 83) rfl (rs := [.cell 10 26,.tmp 11]) rfl (nle rfl) ?_
   (repeat (first|apply zO (by decide +kernel)|apply zP (by decide +kernel)|(apply zS;(case h=>constructor<;>decide))|((first|apply l_go rfl|apply c_dec|apply zT rfl (by decide) rfl);(case hs=>(simp (disch := first|omega|exact kD rfl|exact kX rfl) only [smY,simprocAttr,bl,i64,smT];exact rfl));first|refine c_bt ?_|refine c_bf ?_|refine zq ?_|(case hg=>assumption))))
   ((first|apply g_ret|apply g_end);case hres => (simp only [smR];simp (disch := first|omega|exact kD rfl|exact kX rfl) only [smY,simprocAttr,bl,i64,smT];exact rfl))
   simp (disch := first|omega|exact kD rfl|exact kX rfl) only [smY,simprocAttr,bl,i64,smT]
  ·refine good_of_lwp mix Tryz.func17 rfl (by decide) (nt := 82) rfl (rs := [.cell 10 26,.tmp 11]) rfl (nle rfl) ?_
   (repeat (first|apply zO (by decide +kernel)|apply zP (by decide +kernel)|(apply zS;(case h=>constructor<;>decide))|((first|apply l_go rfl|apply c_dec|apply zT rfl (by decide) rfl);(case hs=>(simp (disch := first|omega|exact kD rfl|exact kX rfl) only [smY,simprocAttr,bl,i64,smT];exact rfl));first|refine c_bt ?_|refine c_bf ?_|refine zq ?_|(case hg=>assumption))))
   ((first|apply g_ret|apply g_end);case hres => (simp only [smR];simp (disch := first|omega|exact kD rfl|exact kX rfl) only [smY,simprocAttr,bl,i64,smT];exact rfl))
   simp (disch := first|omega|exact kD rfl|exact kX rfl) only [smY,simprocAttr,bl,i64,smT]
 ·have c2 : 40 < k := by omega
  constructor
  ·refine good_of_lwp mix Tryz.func16 rfl (by decide) (nt := 83) rfl (rs := [.cell 10 26,.tmp 11]) rfl (nle rfl) ?_
   (repeat (first|apply zO (by decide +kernel)|apply zP (by decide +kernel)|(apply zS;(case h=>constructor<;>decide))|((first|apply l_go rfl|apply c_dec|apply zT rfl (by decide) rfl);(case hs=>(simp (disch := first|omega|exact kD rfl|exact kX rfl) only [smY,simprocAttr,bl,i64,smT];exact rfl));first|refine c_bt ?_|refine c_bf ?_|refine zq ?_|(case hg=>assumption))))
   ((first|apply g_ret|apply g_end);case hres => (simp only [smR];simp (disch := first|omega|exact kD rfl|exact kX rfl) only [smY,simprocAttr,bl,i64,smT];exact rfl))
   simp (disch := first|omega|exact kD rfl|exact kX rfl) only [smY,simprocAttr,bl,i64,smT]
  ·refine good_of_lwp mix Tryz.func17 rfl (by decide) (nt := 82) rfl (rs := [.cell 10 26,.tmp 11]) rfl (nle rfl) ?_
   (repeat (first|apply zO (by decide +kernel)|apply zP (by decide +kernel)|(apply zS;(case h=>constructor<;>decide))|((first|apply l_go rfl|apply c_dec|apply zT rfl (by decide) rfl);(case hs=>(simp (disch := first|omega|exact kD rfl|exact kX rfl) only [smY,simprocAttr,bl,i64,smT];exact rfl));first|refine c_bt ?_|refine c_bf ?_|refine zq ?_|(case hg=>assumption))))
   ((first|apply g_ret|apply g_end);case hres => (simp only [smR];simp (disch := first|omega|exact kD rfl|exact kX rfl) only [smY,simprocAttr,bl,i64,smT];exact rfl))
   simp (disch := first|omega|exact kD rfl|exact kX rfl) only [smY,simprocAttr,bl,i64,smT]
theorem real_e2 {k d1 d2 t prec : Int} (hk : 2 ≤ k ∧ k ≤ 40) (r1 : -9223372036854775808 ≤ d1 ∧ d1 ≤ 9223372036854775807) (r2 : -9223372036854775808 ≤ d2 ∧ d2 ≤ 9223372036854775807) (h : ¬ (d1 ∈ fdL ∧ d2 ∈ fdL)) : bothR k d1 d2 t prec (eR 15) := by
 obtain ⟨q1,q1'⟩ := qd_good d1 r1
 obtain ⟨q2,q2'⟩ := qd_good d2 r2
 unfold bothR eR
 by_cases c : d1 ∈ fdL
 ·have e1 : fdL.contains d1 = true := List.contains_iff_mem.2 c
  have e2 : fdL.contains d2 = false := by
   cases e : fdL.contains d2 with
   | false => rfl
   | true => exact absurd ⟨c,List.contains_iff_mem.1 e⟩ h
  rw [e1] at q1 q1'
  rw [e2] at q2 q2'
  simp only [i64,bl] at *
  constructor
  ·refine good_of_lwp mix Tryz.func16 rfl (by decide) (nt := 83) rfl (rs := [.cell 10 26,.tmp 11]) rfl (nle rfl) ?_
   (repeat (first|apply zO (by decide +kernel)|apply zP (by decide +kernel)|(apply zS;(case h=>constructor<;>decide))|((first|apply l_go rfl|apply c_dec|apply zT rfl (by decide) rfl);(case hs=>(simp (disch := first|omega|exact kD rfl|exact kX rfl) only [smY,simprocAttr,bl,i64,smT];exact rfl));first|refine c_bt ?_|refine c_bf ?_|refine zq ?_|(case hg=>assumption))))
   ((first|apply g_ret|apply g_end);case hres => (simp only [smR];simp (disch := first|omega|exact kD rfl|exact kX rfl) only [smY,simprocAttr,bl,i64,smT];exact rfl))
   simp (disch := first|omega|exact kD rfl|exact kX rfl) only [smY,simprocAttr,bl,i64,smT]
  ·refine good_of_lwp mix Tryz.func17 rfl (by decide) (nt := 82) rfl (rs := [.cell 10 26,.tmp 11]) rfl (nle rfl) ?_
   (repeat (first|apply zO (by decide +kernel)|apply zP (by decide +kernel)|(apply zS;(case h=>constructor<;>decide))|((first|apply l_go rfl|apply c_dec|apply zT rfl (by decide) rfl);(case hs=>(simp (disch := first|omega|exact kD rfl|exact kX rfl) only [smY,simprocAttr,bl,i64,smT];exact rfl));first|refine c_bt ?_|refine c_bf ?_|refine zq ?_|(case hg=>assumption))))
   ((first|apply g_ret|apply g_end);case hres => (simp only [smR];simp (disch := first|omega|exact kD rfl|exact kX rfl) only [smY,simprocAttr,bl,i64,smT];exact rfl))
   simp (disch := first|omega|exact kD rfl|exact kX rfl) only [smY,simprocAttr,bl,i64,smT]
 ·have e1 : fdL.contains d1 = false := by
   cases e : fdL.contains d1 with
   | false => rfl
   | true => exact absurd (List.contains_iff_mem.1 e) c
  rw [e1] at q1 q1'
  simp only [i64,bl] at *
  constructor
  ·refine good_of_lwp mix Tryz.func16 rfl (by decide) (nt := 83) rfl (rs := [.cell 10 26,.tmp 11]) rfl (nle rfl) ?_
   (repeat (first|apply zO (by decide +kernel)|apply zP (by decide +kernel)|(apply zS;(case h=>constructor<;>decide))|((first|apply l_go rfl|apply c_dec|apply zT rfl (by decide) rfl);(case hs=>(simp (disch := first|omega|exact kD rfl|exact kX rfl) only [smY,simprocAttr,bl,i64,smT];exact rfl));first|refine c_bt ?_|refine c_bf ?_|refine zq ?_|(case hg=>assumption))))
   refine l_cskip rfl (by decide) rfl ?_
   (repeat (first|apply zO (by decide +kernel)|apply zP (by decide +kernel)|(apply zS;(case h=>constructor<;>decide))|((first|apply l_go rfl|apply c_dec|apply zT rfl (by decide) rfl);(case hs=>(simp (disch := first|omega|exact kD rfl|exact kX rfl) only [smY,simprocAttr,bl,i64,smT];exact rfl));first|refine c_bt ?_|refine c_bf ?_|refine zq ?_|(case hg=>assumption))))
   ((first|apply g_ret|apply g_end);case hres => (simp only [smR];simp (disch := first|omega|exact kD rfl|exact kX rfl) only [smY,simprocAttr,bl,i64,smT];exact rfl))
   simp (disch := first|omega|exact kD rfl|exact kX rfl) only [smY,simprocAttr,bl,i64,smT]
  ·refine good_of_lwp mix Tryz.func17 rfl (by decide) (nt := 82) rfl (rs := [.cell 10 26,.tmp 11]) rfl (nle rfl) ?_
   (repeat (first|apply zO (by decide +kernel)|apply zP (by decide +kernel)|(apply zS;(case h=>constructor<;>decide))|((first|apply l_go rfl|apply c_dec|apply zT rfl (by decide) rfl);(case hs=>(simp (disch := first|omega|exact kD rfl|exact kX rfl) only [smY,simprocAttr,bl,i64,smT];exact rfl));first|refine c_bt ?_|refine c_bf ?_|refine zq ?_|(case hg=>assumption))))
   refine l_cskip rfl (by decide) rfl ?_
   (repeat (first|apply zO (by decide +kernel)|apply zP (by decide +kernel)|(apply zS;(case h=>constructor<;>decide))|((first|apply l_go rfl|apply c_dec|apply zT rfl (by decide) rfl);(case hs=>(simp (disch := first|omega|exact kD rfl|exact kX rfl) only [smY,simprocAttr,bl,i64,smT];exact rfl));first|refine c_bt ?_|refine c_bf ?_|refine zq ?_|(case hg=>assumption))))
   ((first|apply g_ret|apply g_end);case hres => (simp only [smR];simp (disch := first|omega|exact kD rfl|exact kX rfl) only [smY,simprocAttr,bl,i64,smT];exact rfl))
   simp (disch := first|omega|exact kD rfl|exact kX rfl) only [smY,simprocAttr,bl,i64,smT]
theorem par_eq {d1 d2 : Int} (h1 : d1 ≠ 0) (h2 : d2 ≠ 0) : (decide (0 < d1) == decide (0 < d2)) = decide (0 < d1 * d2) := by
 by_cases a : 0 < d1
 ·by_cases b : 0 < d2
  ·have := Int.mul_pos a b
   simp [a,b,this]
  ·have := Int.mul_neg_of_pos_of_neg a (show d2 < 0 by omega)
   have h3 : ¬ 0 < d1 * d2 := by omega
   simp [a,b,h3]
 ·by_cases b : 0 < d2
  ·have := Int.mul_neg_of_neg_of_pos (show d1 < 0 by omega) b
   have h3 : ¬ 0 < d1 * d2 := by omega
   simp [a,b,h3]
  ·have := Int.mul_pos_of_neg_of_neg (show d1 < 0 by omega) (show d2 < 0 by omega)
   simp [a,b,this]
theorem mul_rng {d1 d2 : Int} (h1 : -60 ≤ d1 ∧ d1 ≤ 60) (h2 : -60 ≤ d2 ∧ d2 ≤ 60) : -3600 ≤ d1 * d2 ∧ d1 * d2 ≤ 3600 := by
 have h : (d1 * d2).natAbs ≤ 60 * 60 := by
  rw [Int.natAbs_mul]
  exact Nat.mul_le_mul (by omega) (by omega)
 omega
theorem real_e3 {k d1 d2 t prec : Int} (hk : 2 ≤ k ∧ k ≤ 40) (hd1 : d1 ∈ fdL) (hd2 : d2 ∈ fdL) (h : ¬ (decide (0 < d1 * d2) = decide (k % 2 = 0))) : bothR k d1 d2 t prec (eR 16) := by
 obtain ⟨n1,r1⟩ := fd_rng hd1
 obtain ⟨n2,r2⟩ := fd_rng hd2
 obtain ⟨q1,q1'⟩ := qd_good d1 (by omega)
 obtain ⟨q2,q2'⟩ := qd_good d2 (by omega)
 rw [List.contains_iff_mem.2 hd1] at q1 q1'
 rw [List.contains_iff_mem.2 hd2] at q2 q2'
 simp only [i64,bl] at q1 q1' q2 q2'
 have hm := mul_rng r1 r2
 have hp := par_eq n1 n2
 have hx : (decide (d1 * d2 > 0) != (k % 2 == 0)) = true := by
  have e : (k % 2 == 0) = decide (k % 2 = 0) := by by_cases c : k % 2 = 0 <;> simp [c]
  rw [e]
  show (decide (0 < d1 * d2) != decide (k % 2 = 0)) = true
  cases h1 : decide (0 < d1 * d2) <;> cases h2 : decide (k % 2 = 0) <;> simp_all
 have hy : ((decide (d1 > 0) == decide (d2 > 0)) != (k % 2 == 0)) = true := by
  have e : (decide (d1 > 0) == decide (d2 > 0)) = decide (d1 * d2 > 0) := hp
  rw [e]
  exact hx
 clear h
 unfold bothR eR
 simp only [i64]
 constructor
 ·refine good_of_lwp mix Tryz.func16 rfl (by decide) (nt := 83) rfl (rs := [.cell 10 26,.tmp 11]) rfl (nle rfl) ?_
  (repeat (first|apply zO (by decide +kernel)|apply zP (by decide +kernel)|(apply zS;(case h=>constructor<;>decide))|((first|apply l_go rfl|apply c_dec|apply zT rfl (by decide) rfl);(case hs=>(simp (disch := first|omega|exact kD rfl|exact kX rfl) only [smY,simprocAttr,bl,i64,smT,hx,hy];exact rfl));first|refine c_bt ?_|refine c_bf ?_|refine zq ?_|(case hg=>assumption))))
  ((first|apply g_ret|apply g_end);case hres => (simp only [smR];simp (disch := first|omega|exact kD rfl|exact kX rfl) only [smY,simprocAttr,bl,i64,smT,hx,hy];exact rfl))
  simp (disch := first|omega|exact kD rfl|exact kX rfl) only [smY,simprocAttr,bl,i64,smT,hx,hy]
 ·refine good_of_lwp mix Tryz.func17 rfl (by decide) (nt := 82) rfl (rs := [.cell 10 26,.tmp 11]) rfl (nle rfl) ?_
  (repeat (first|apply zO (by decide +kernel)|apply zP (by decide +kernel)|(apply zS;(case h=>constructor<;>decide))|((first|apply l_go rfl|apply c_dec|apply zT rfl (by decide) rfl);(case hs=>(simp (disch := first|omega|exact kD rfl|exact kX rfl) only [smY,simprocAttr,bl,i64,smT,hx,hy];exact rfl));first|refine c_bt ?_|refine c_bf ?_|refine zq ?_|(case hg=>assumption))))
  ((first|apply g_ret|apply g_end);case hres => (simp only [smR];simp (disch := first|omega|exact kD rfl|exact kX rfl) only [smY,simprocAttr,bl,i64,smT,hx,hy];exact rfl))
  simp (disch := first|omega|exact kD rfl|exact kX rfl) only [smY,simprocAttr,bl,i64,smT,hx,hy]
theorem real_e4 {k d1 d2 t prec : Int} (hk : 2 ≤ k ∧ k ≤ 40) (hd1 : d1 ∈ fdL) (hd2 : d2 ∈ fdL) (h : decide (0 < d1 * d2) = decide (k % 2 = 0)) (ht : t < 1 ∨ 1000 < t) : bothR k d1 d2 t prec (eR 2) := by
 obtain ⟨n1,r1⟩ := fd_rng hd1
 obtain ⟨n2,r2⟩ := fd_rng hd2
 obtain ⟨q1,q1'⟩ := qd_good d1 (by omega)
 obtain ⟨q2,q2'⟩ := qd_good d2 (by omega)
 rw [List.contains_iff_mem.2 hd1] at q1 q1'
 rw [List.contains_iff_mem.2 hd2] at q2 q2'
 simp only [i64,bl] at q1 q1' q2 q2'
 have hm := mul_rng r1 r2
 have hp := par_eq n1 n2
 have hx : (decide (d1 * d2 > 0) != (k % 2 == 0)) = false := by
  have e : (k % 2 == 0) = decide (k % 2 = 0) := by by_cases c : k % 2 = 0 <;> simp [c]
  rw [e]
  show (decide (0 < d1 * d2) != decide (k % 2 = 0)) = false
  cases h1 : decide (0 < d1 * d2) <;> cases h2 : decide (k % 2 = 0) <;> simp_all
 have hy : ((decide (d1 > 0) == decide (d2 > 0)) != (k % 2 == 0)) = false := by
  have e : (decide (d1 > 0) == decide (d2 > 0)) = decide (d1 * d2 > 0) := hp
  rw [e]
  exact hx
 clear hx hy
 unfold bothR eR
 simp only [i64]
 by_cases c : t < 1
 ·
  by_cases c0 : k % 2 = 0
  ·
   have c0 : k % 2 = 0 := by omega
   have hs : 0 < d1 * d2 := of_decide_eq_true (h.trans (decide_eq_true c0))
   have hz : (decide (d1 > 0) == decide (d2 > 0)) = true := hp.trans (decide_eq_true hs)
   constructor
   ·refine good_of_lwp mix Tryz.func16 rfl (by decide) (nt := 83) rfl (rs := [.cell 10 26,.tmp 11]) rfl (nle rfl) ?_
    (repeat (first|apply zO (by decide +kernel)|apply zP (by decide +kernel)|(apply zS;(case h=>constructor<;>decide))|((first|apply l_go rfl|apply c_dec|apply zT rfl (by decide) rfl);(case hs=>(simp (disch := first|omega|exact kD rfl|exact kX rfl) only [smY,simprocAttr,bl,i64,smT,hz];exact rfl));first|refine c_bt ?_|refine c_bf ?_|refine zq ?_|(case hg=>assumption))))
    ((first|apply g_ret|apply g_end);case hres => (simp only [smR];simp (disch := first|omega|exact kD rfl|exact kX rfl) only [smY,simprocAttr,bl,i64,smT,hz];exact rfl))
    simp (disch := first|omega|exact kD rfl|exact kX rfl) only [smY,simprocAttr,bl,i64,smT,hz]
   ·refine good_of_lwp mix Tryz.func17 rfl (by decide) (nt := 82) rfl (rs := [.cell 10 26,.tmp 11]) rfl (nle rfl) ?_
    (repeat (first|apply zO (by decide +kernel)|apply zP (by decide +kernel)|(apply zS;(case h=>constructor<;>decide))|((first|apply l_go rfl|apply c_dec|apply zT rfl (by decide) rfl);(case hs=>(simp (disch := first|omega|exact kD rfl|exact kX rfl) only [smY,simprocAttr,bl,i64,smT,hz];exact rfl));first|refine c_bt ?_|refine c_bf ?_|refine zq ?_|(case hg=>assumption))))
    ((first|apply g_ret|apply g_end);case hres => (simp only [smR];simp (disch := first|omega|exact kD rfl|exact kX rfl) only [smY,simprocAttr,bl,i64,smT,hz];exact rfl))
    simp (disch := first|omega|exact kD rfl|exact kX rfl) only [smY,simprocAttr,bl,i64,smT,hz]
  ·have hs : ¬ 0 < d1 * d2 := of_decide_eq_false (h.trans (decide_eq_false c0))
   have hz : (decide (d1 > 0) == decide (d2 > 0)) = false := hp.trans (decide_eq_false hs)
   constructor
   ·refine good_of_lwp mix Tryz.func16 rfl (by decide) (nt := 83) rfl (rs := [.cell 10 26,.tmp 11]) rfl (nle rfl) ?_
    (repeat (first|apply zO (by decide +kernel)|apply zP (by decide +kernel)|(apply zS;(case h=>constructor<;>decide))|((first|apply l_go rfl|apply c_dec|apply zT rfl (by decide) rfl);(case hs=>(simp (disch := first|omega|exact kD rfl|exact kX rfl) only [smY,simprocAttr,bl,i64,smT,hz];exact rfl));first|refine c_bt ?_|refine c_bf ?_|refine zq ?_|(case hg=>assumption))))
    ((first|apply g_ret|apply g_end);case hres => (simp only [smR];simp (disch := first|omega|exact kD rfl|exact kX rfl) only [smY,simprocAttr,bl,i64,smT,hz];exact rfl))
    simp (disch := first|omega|exact kD rfl|exact kX rfl) only [smY,simprocAttr,bl,i64,smT,hz]
   ·refine good_of_lwp mix Tryz.func17 rfl (by decide) (nt := 82) rfl (rs := [.cell 10 26,.tmp 11]) rfl (nle rfl) ?_
    (repeat (first|apply zO (by decide +kernel)|apply zP (by decide +kernel)|(apply zS;(case h=>constructor<;>decide))|((first|apply l_go rfl|apply c_dec|apply zT rfl (by decide) rfl);(case hs=>(simp (disch := first|omega|exact kD rfl|exact kX rfl) only [smY,simprocAttr,bl,i64,smT,hz];exact rfl));first|refine c_bt ?_|refine c_bf ?_|refine zq ?_|(case hg=>assumption))))
    ((first|apply g_ret|apply g_end);case hres => (simp only [smR];simp (disch := first|omega|exact kD rfl|exact kX rfl) only [smY,simprocAttr,bl,i64,smT,hz];exact rfl))
    simp (disch := first|omega|exact kD rfl|exact kX rfl) only [smY,simprocAttr,bl,i64,smT,hz]
 ·have c2 : 1000 < t := by omega
  by_cases c0 : k % 2 = 0
  ·
   have c0 : k % 2 = 0 := by omega
   have hs : 0 < d1 * d2 := of_decide_eq_true (h.trans (decide_eq_true c0))
   have hz : (decide (d1 > 0) == decide (d2 > 0)) = true := hp.trans (decide_eq_true hs)
   constructor
   ·refine good_of_lwp mix Tryz.func16 rfl (by decide) (nt := 83) rfl (rs := [.cell 10 26,.tmp 11]) rfl (nle rfl) ?_
    (repeat (first|apply zO (by decide +kernel)|apply zP (by decide +kernel)|(apply zS;(case h=>constructor<;>decide))|((first|apply l_go rfl|apply c_dec|apply zT rfl (by decide) rfl);(case hs=>(simp (disch := first|omega|exact kD rfl|exact kX rfl) only [smY,simprocAttr,bl,i64,smT,hz];exact rfl));first|refine c_bt ?_|refine c_bf ?_|refine zq ?_|(case hg=>assumption))))
    ((first|apply g_ret|apply g_end);case hres => (simp only [smR];simp (disch := first|omega|exact kD rfl|exact kX rfl) only [smY,simprocAttr,bl,i64,smT,hz];exact rfl))
    simp (disch := first|omega|exact kD rfl|exact kX rfl) only [smY,simprocAttr,bl,i64,smT,hz]
   ·refine good_of_lwp mix Tryz.func17 rfl (by decide) (nt := 82) rfl (rs := [.cell 10 26,.tmp 11]) rfl (nle rfl) ?_
    (repeat (first|apply zO (by decide +kernel)|apply zP (by decide +kernel)|(apply zS;(case h=>constructor<;>decide))|((first|apply l_go rfl|apply c_dec|apply zT rfl (by decide) rfl);(case hs=>(simp (disch := first|omega|exact kD rfl|exact kX rfl) only [smY,simprocAttr,bl,i64,smT,hz];exact rfl));first|refine c_bt ?_|refine c_bf ?_|refine zq ?_|(case hg=>assumption))))
    ((first|apply g_ret|apply g_end);case hres => (simp only [smR];simp (disch := first|omega|exact kD rfl|exact kX rfl) only [smY,simprocAttr,bl,i64,smT,hz];exact rfl))
    simp (disch := first|omega|exact kD rfl|exact kX rfl) only [smY,simprocAttr,bl,i64,smT,hz]
  ·have hs : ¬ 0 < d1 * d2 := of_decide_eq_false (h.trans (decide_eq_false c0))
   have hz : (decide (d1 > 0) == decide (d2 > 0)) = false := hp.trans (decide_eq_false hs)
   constructor
   ·refine good_of_lwp mix Tryz.func16 rfl (by decide) (nt := 83) rfl (rs := [.cell 10 26,.tmp 11]) rfl (nle rfl) ?_
    (repeat (first|apply zO (by decide +kernel)|apply zP (by decide +kernel)|(apply zS;(case h=>constructor<;>decide))|((first|apply l_go rfl|apply c_dec|apply zT rfl (by decide) rfl);(case hs=>(simp (disch := first|omega|exact kD rfl|exact kX rfl) only [smY,simprocAttr,bl,i64,smT,hz];exact rfl));first|refine c_bt ?_|refine c_bf ?_|refine zq ?_|(case hg=>assumption))))
    ((first|apply g_ret|apply g_end);case hres => (simp only [smR];simp (disch := first|omega|exact kD rfl|exact kX rfl) only [smY,simprocAttr,bl,i64,smT,hz];exact rfl))
    simp (disch := first|omega|exact kD rfl|exact kX rfl) only [smY,simprocAttr,bl,i64,smT,hz]
   ·refine good_of_lwp mix Tryz.func17 rfl (by decide) (nt := 82) rfl (rs := [.cell 10 26,.tmp 11]) rfl (nle rfl) ?_
    (repeat (first|apply zO (by decide +kernel)|apply zP (by decide +kernel)|(apply zS;(case h=>constructor<;>decide))|((first|apply l_go rfl|apply c_dec|apply zT rfl (by decide) rfl);(case hs=>(simp (disch := first|omega|exact kD rfl|exact kX rfl) only [smY,simprocAttr,bl,i64,smT,hz];exact rfl));first|refine c_bt ?_|refine c_bf ?_|refine zq ?_|(case hg=>assumption))))
    ((first|apply g_ret|apply g_end);case hres => (simp only [smR];simp (disch := first|omega|exact kD rfl|exact kX rfl) only [smY,simprocAttr,bl,i64,smT,hz];exact rfl))
    simp (disch := first|omega|exact kD rfl|exact kX rfl) only [smY,simprocAttr,bl,i64,smT,hz]
theorem real_e5 {d1 d2 t prec : Int} (k : Int) (hkk : k = 2) (h1 : d1 = 1) (h2 : d2 = 1) (ht : t = 1) : bothR k d1 d2 t prec (eR 20) := by
 have hd1 : d1 ∈ fdL := by rw [h1];decide
 have hd2 : d2 ∈ fdL := by rw [h2];decide
 have h : decide (0 < d1 * d2) = decide (k % 2 = 0) := by rw [h1,h2,hkk];rfl
 obtain ⟨n1,r1⟩ := fd_rng hd1
 obtain ⟨n2,r2⟩ := fd_rng hd2
 obtain ⟨q1,q1'⟩ := qd_good d1 (by omega)
 obtain ⟨q2,q2'⟩ := qd_good d2 (by omega)
 rw [List.contains_iff_mem.2 hd1] at q1 q1'
 rw [List.contains_iff_mem.2 hd2] at q2 q2'
 simp only [i64,bl] at q1 q1' q2 q2'
 have hm := mul_rng r1 r2
 have hp := par_eq n1 n2
 have hx : (decide (d1 * d2 > 0) != (k % 2 == 0)) = false := by
  have e : (k % 2 == 0) = decide (k % 2 = 0) := by by_cases c : k % 2 = 0 <;> simp [c]
  rw [e]
  show (decide (0 < d1 * d2) != decide (k % 2 = 0)) = false
  cases h1 : decide (0 < d1 * d2) <;> cases h2 : decide (k % 2 = 0) <;> simp_all
 have hy : ((decide (d1 > 0) == decide (d2 > 0)) != (k % 2 == 0)) = false := by
  have e : (decide (d1 > 0) == decide (d2 > 0)) = decide (d1 * d2 > 0) := hp
  rw [e]
  exact hx
 clear hx hy
 unfold bothR eR
 simp only [i64]
 have c0 : k % 2 = 0 := by omega
 have hs : 0 < d1 * d2 := of_decide_eq_true (h.trans (decide_eq_true c0))
 have hz : (decide (d1 > 0) == decide (d2 > 0)) = true := hp.trans (decide_eq_true hs)
 constructor
 ·refine good_of_lwp mix Tryz.func16 rfl (by decide) (nt := 83) rfl (rs := [.cell 10 26,.tmp 11]) rfl (nle rfl) ?_
  (repeat (first|apply zO (by decide +kernel)|apply zP (by decide +kernel)|(apply zS;(case h=>constructor<;>decide))|((first|apply l_go rfl|apply c_dec|apply zT rfl (by decide) rfl);(case hs=>(simp (disch := first|omega|exact kD rfl|exact kX rfl) only [smY,simprocAttr,bl,i64,smT,hz];exact rfl));first|refine c_bt ?_|refine c_bf ?_|refine zq ?_|(case hg=>assumption))))
  ((first|apply g_ret|apply g_end);case hres => (simp only [smR];simp (disch := first|omega|exact kD rfl|exact kX rfl) only [smY,simprocAttr,bl,i64,smT,hz];exact rfl))
  simp (disch := first|omega|exact kD rfl|exact kX rfl) only [smY,simprocAttr,bl,i64,smT,hz]
 ·refine good_of_lwp mix Tryz.func17 rfl (by decide) (nt := 82) rfl (rs := [.cell 10 26,.tmp 11]) rfl (nle rfl) ?_
  (repeat (first|apply zO (by decide +kernel)|apply zP (by decide +kernel)|(apply zS;(case h=>constructor<;>decide))|((first|apply l_go rfl|apply c_dec|apply zT rfl (by decide) rfl);(case hs=>(simp (disch := first|omega|exact kD rfl|exact kX rfl) only [smY,simprocAttr,bl,i64,smT,hz];exact rfl));first|refine c_bt ?_|refine c_bf ?_|refine zq ?_|(case hg=>assumption))))
  ((first|apply g_ret|apply g_end);case hres => (simp only [smR];simp (disch := first|omega|exact kD rfl|exact kX rfl) only [smY,simprocAttr,bl,i64,smT,hz];exact rfl))
  simp (disch := first|omega|exact kD rfl|exact kX rfl) only [smY,simprocAttr,bl,i64,smT,hz]
theorem real_e6 {k d1 d2 t prec : Int} (hk : 2 ≤ k ∧ k ≤ 40) (hd1 : d1 ∈ fdL) (hd2 : d2 ∈ fdL) (h : decide (0 < d1 * d2) = decide (k % 2 = 0)) (ht : 1 ≤ t ∧ t ≤ 1000) (hpl : ¬ (k = 2 ∧ d1 = 1 ∧ d2 = 1 ∧ t = 1)) (rp : -9223372036854775808 ≤ prec ∧ prec ≤ 9223372036854775807) (hpr : prec < 0 ∨ 1000 < prec) : bothR k d1 d2 t prec (eR 2) := by
 obtain ⟨n1,r1⟩ := fd_rng hd1
 obtain ⟨n2,r2⟩ := fd_rng hd2
 obtain ⟨q1,q1'⟩ := qd_good d1 (by omega)
 obtain ⟨q2,q2'⟩ := qd_good d2 (by omega)
 rw [List.contains_iff_mem.2 hd1] at q1 q1'
 rw [List.contains_iff_mem.2 hd2] at q2 q2'
 simp only [i64,bl] at q1 q1' q2 q2'
 have hm := mul_rng r1 r2
 have hp := par_eq n1 n2
 have hx : (decide (d1 * d2 > 0) != (k % 2 == 0)) = false := by
  have e : (k % 2 == 0) = decide (k % 2 = 0) := by by_cases c : k % 2 = 0 <;> simp [c]
  rw [e]
  show (decide (0 < d1 * d2) != decide (k % 2 = 0)) = false
  cases h1 : decide (0 < d1 * d2) <;> cases h2 : decide (k % 2 = 0) <;> simp_all
 have hy : ((decide (d1 > 0) == decide (d2 > 0)) != (k % 2 == 0)) = false := by
  have e : (decide (d1 > 0) == decide (d2 > 0)) = decide (d1 * d2 > 0) := hp
  rw [e]
  exact hx
 clear hx hy
 have gi := inside_good prec rp
 rw [dec_f (by omega)] at gi
 unfold bothR eR
 simp only [i64,bl] at *
 by_cases e1 : k = 2
 ·by_cases e2 : d1 = 1
  ·by_cases e3 : d2 = 1
   ·have e4 : ¬ t = 1 := fun e => hpl ⟨e1,e2,e3,e⟩
    by_cases c : prec < 0
    ·
     have c0 : k % 2 = 0 := by omega
     have hs : 0 < d1 * d2 := of_decide_eq_true (h.trans (decide_eq_true c0))
     have hz : (decide (d1 > 0) == decide (d2 > 0)) = true := hp.trans (decide_eq_true hs)
     constructor
     ·refine good_of_lwp mix Tryz.func16 rfl (by decide) (nt := 83) rfl (rs := [.cell 10 26,.tmp 11]) rfl (nle rfl) ?_
      (repeat (first|apply zO (by decide +kernel)|apply zP (by decide +kernel)|(apply zS;(case h=>constructor<;>decide))|((first|apply l_go rfl|apply c_dec|apply zT rfl (by decide) rfl);(case hs=>(simp (disch := first|omega|exact kD rfl|exact kX rfl) only [smY,simprocAttr,bl,i64,smT,hz];exact rfl));first|refine c_bt ?_|refine c_bf ?_|refine zq ?_|(case hg=>assumption))))
      ((first|apply g_ret|apply g_end);case hres => (simp only [smR];simp (disch := first|omega|exact kD rfl|exact kX rfl) only [smY,simprocAttr,bl,i64,smT,hz];exact rfl))
      simp (disch := first|omega|exact kD rfl|exact kX rfl) only [smY,simprocAttr,bl,i64,smT,hz]
     ·refine good_of_lwp mix Tryz.func17 rfl (by decide) (nt := 82) rfl (rs := [.cell 10 26,.tmp 11]) rfl (nle rfl) ?_
      (repeat (first|apply zO (by decide +kernel)|apply zP (by decide +kernel)|(apply zS;(case h=>constructor<;>decide))|((first|apply l_go rfl|apply c_dec|apply zT rfl (by decide) rfl);(case hs=>(simp (disch := first|omega|exact kD rfl|exact kX rfl) only [smY,simprocAttr,bl,i64,smT,hz];exact rfl));first|refine c_bt ?_|refine c_bf ?_|refine zq ?_|(case hg=>assumption))))
      ((first|apply g_ret|apply g_end);case hres => (simp only [smR];simp (disch := first|omega|exact kD rfl|exact kX rfl) only [smY,simprocAttr,bl,i64,smT,hz];exact rfl))
      simp (disch := first|omega|exact kD rfl|exact kX rfl) only [smY,simprocAttr,bl,i64,smT,hz]
    ·have c2 : 1000 < prec := by omega
     have c0 : k % 2 = 0 := by omega
     have hs : 0 < d1 * d2 := of_decide_eq_true (h.trans (decide_eq_true c0))
     have hz : (decide (d1 > 0) == decide (d2 > 0)) = true := hp.trans (decide_eq_true hs)
     constructor
     ·refine good_of_lwp mix Tryz.func16 rfl (by decide) (nt := 83) rfl (rs := [.cell 10 26,.tmp 11]) rfl (nle rfl) ?_
      (repeat (first|apply zO (by decide +kernel)|apply zP (by decide +kernel)|(apply zS;(case h=>constructor<;>decide))|((first|apply l_go rfl|apply c_dec|apply zT rfl (by decide) rfl);(case hs=>(simp (disch := first|omega|exact kD rfl|exact kX rfl) only [smY,simprocAttr,bl,i64,smT,hz];exact rfl));first|refine c_bt ?_|refine c_bf ?_|refine zq ?_|(case hg=>assumption))))
      ((first|apply g_ret|apply g_end);case hres => (simp only [smR];simp (disch := first|omega|exact kD rfl|exact kX rfl) only [smY,simprocAttr,bl,i64,smT,hz];exact rfl))
      simp (disch := first|omega|exact kD rfl|exact kX rfl) only [smY,simprocAttr,bl,i64,smT,hz]
     ·refine good_of_lwp mix Tryz.func17 rfl (by decide) (nt := 82) rfl (rs := [.cell 10 26,.tmp 11]) rfl (nle rfl) ?_
      (repeat (first|apply zO (by decide +kernel)|apply zP (by decide +kernel)|(apply zS;(case h=>constructor<;>decide))|((first|apply l_go rfl|apply c_dec|apply zT rfl (by decide) rfl);(case hs=>(simp (disch := first|omega|exact kD rfl|exact kX rfl) only [smY,simprocAttr,bl,i64,smT,hz];exact rfl));first|refine c_bt ?_|refine c_bf ?_|refine zq ?_|(case hg=>assumption))))
      ((first|apply g_ret|apply g_end);case hres => (simp only [smR];simp (disch := first|omega|exact kD rfl|exact kX rfl) only [smY,simprocAttr,bl,i64,smT,hz];exact rfl))
      simp (disch := first|omega|exact kD rfl|exact kX rfl) only [smY,simprocAttr,bl,i64,smT,hz]
   ·have hs0 : 0 < d1 * d2 := of_decide_eq_true (h.trans (decide_eq_true (by omega)))
    have hd2p : 0 < d2 := by rw [e2,Int.one_mul] at hs0;exact hs0
    by_cases c : prec < 0
    ·
     have c0 : k % 2 = 0 := by omega
     have hs : 0 < d1 * d2 := of_decide_eq_true (h.trans (decide_eq_true c0))
     have hz : (decide (d1 > 0) == decide (d2 > 0)) = true := hp.trans (decide_eq_true hs)
     constructor
     ·refine good_of_lwp mix Tryz.func16 rfl (by decide) (nt := 83) rfl (rs := [.cell 10 26,.tmp 11]) rfl (nle rfl) ?_
      (repeat (first|apply zO (by decide +kernel)|apply zP (by decide +kernel)|(apply zS;(case h=>constructor<;>decide))|((first|apply l_go rfl|apply c_dec|apply zT rfl (by decide) rfl);(case hs=>(simp (disch := first|omega|exact kD rfl|exact kX rfl) only [smY,simprocAttr,bl,i64,smT,hz];exact rfl));first|refine c_bt ?_|refine c_bf ?_|refine zq ?_|(case hg=>assumption))))
      ((first|apply g_ret|apply g_end);case hres => (simp only [smR];simp (disch := first|omega|exact kD rfl|exact kX rfl) only [smY,simprocAttr,bl,i64,smT,hz];exact rfl))
      simp (disch := first|omega|exact kD rfl|exact kX rfl) only [smY,simprocAttr,bl,i64,smT,hz]
     ·refine good_of_lwp mix Tryz.func17 rfl (by decide) (nt := 82) rfl (rs := [.cell 10 26,.tmp 11]) rfl (nle rfl) ?_
      (repeat (first|apply zO (by decide +kernel)|apply zP (by decide +kernel)|(apply zS;(case h=>constructor<;>decide))|((first|apply l_go rfl|apply c_dec|apply zT rfl (by decide) rfl);(case hs=>(simp (disch := first|omega|exact kD rfl|exact kX rfl) only [smY,simprocAttr,bl,i64,smT,hz];exact rfl));first|refine c_bt ?_|refine c_bf ?_|refine zq ?_|(case hg=>assumption))))
      ((first|apply g_ret|apply g_end);case hres => (simp only [smR];simp (disch := first|omega|exact kD rfl|exact kX rfl) only [smY,simprocAttr,bl,i64,smT,hz];exact rfl))
      simp (disch := first|omega|exact kD rfl|exact kX rfl) only [smY,simprocAttr,bl,i64,smT,hz]
    ·have c2 : 1000 < prec := by omega
     have c0 : k % 2 = 0 := by omega
     have hs : 0 < d1 * d2 := of_decide_eq_true (h.trans (decide_eq_true c0))
     have hz : (decide (d1 > 0) == decide (d2 > 0)) = true := hp.trans (decide_eq_true hs)
     constructor
     ·refine good_of_lwp mix Tryz.func16 rfl (by decide) (nt := 83) rfl (rs := [.cell 10 26,.tmp 11]) rfl (nle rfl) ?_
      (repeat (first|apply zO (by decide +kernel)|apply zP (by decide +kernel)|(apply zS;(case h=>constructor<;>decide))|((first|apply l_go rfl|apply c_dec|apply zT rfl (by decide) rfl);(case hs=>(simp (disch := first|omega|exact kD rfl|exact kX rfl) only [smY,simprocAttr,bl,i64,smT,hz];exact rfl));first|refine c_bt ?_|refine c_bf ?_|refine zq ?_|(case hg=>assumption))))
      ((first|apply g_ret|apply g_end);case hres => (simp only [smR];simp (disch := first|omega|exact kD rfl|exact kX rfl) only [smY,simprocAttr,bl,i64,smT,hz];exact rfl))
      simp (disch := first|omega|exact kD rfl|exact kX rfl) only [smY,simprocAttr,bl,i64,smT,hz]
     ·refine good_of_lwp mix Tryz.func17 rfl (by decide) (nt := 82) rfl (rs := [.cell 10 26,.tmp 11]) rfl (nle rfl) ?_
      (repeat (first|apply zO (by decide +kernel)|apply zP (by decide +kernel)|(apply zS;(case h=>constructor<;>decide))|((first|apply l_go rfl|apply c_dec|apply zT rfl (by decide) rfl);(case hs=>(simp (disch := first|omega|exact kD rfl|exact kX rfl) only [smY,simprocAttr,bl,i64,smT,hz];exact rfl));first|refine c_bt ?_|refine c_bf ?_|refine zq ?_|(case hg=>assumption))))
      ((first|apply g_ret|apply g_end);case hres => (simp only [smR];simp (disch := first|omega|exact kD rfl|exact kX rfl) only [smY,simprocAttr,bl,i64,smT,hz];exact rfl))
      simp (disch := first|omega|exact kD rfl|exact kX rfl) only [smY,simprocAttr,bl,i64,smT,hz]
  ·
   by_cases c : prec < 0
   ·
    have c0 : k % 2 = 0 := by omega
    have hs : 0 < d1 * d2 := of_decide_eq_true (h.trans (decide_eq_true c0))
    have hz : (decide (d1 > 0) == decide (d2 > 0)) = true := hp.trans (decide_eq_true hs)
    constructor
    ·refine good_of_lwp mix Tryz.func16 rfl (by decide) (nt := 83) rfl (rs := [.cell 10 26,.tmp 11]) rfl (nle rfl) ?_
     (repeat (first|apply zO (by decide +kernel)|apply zP (by decide +kernel)|(apply zS;(case h=>constructor<;>decide))|((first|apply l_go rfl|apply c_dec|apply zT rfl (by decide) rfl);(case hs=>(simp (disch := first|omega|exact kD rfl|exact kX rfl) only [smY,simprocAttr,bl,i64,smT,hz];exact rfl));first|refine c_bt ?_|refine c_bf ?_|refine zq ?_|(case hg=>assumption))))
     ((first|apply g_ret|apply g_end);case hres => (simp only [smR];simp (disch := first|omega|exact kD rfl|exact kX rfl) only [smY,simprocAttr,bl,i64,smT,hz];exact rfl))
     simp (disch := first|omega|exact kD rfl|exact kX rfl) only [smY,simprocAttr,bl,i64,smT,hz]
    ·refine good_of_lwp mix Tryz.func17 rfl (by decide) (nt := 82) rfl (rs := [.cell 10 26,.tmp 11]) rfl (nle rfl) ?_
     (repeat (first|apply zO (by decide +kernel)|apply zP (by decide +kernel)|(apply zS;(case h=>constructor<;>decide))|((first|apply l_go rfl|apply c_dec|apply zT rfl (by decide) rfl);(case hs=>(simp (disch := first|omega|exact kD rfl|exact kX rfl) only [smY,simprocAttr,bl,i64,smT,hz];exact rfl));first|refine c_bt ?_|refine c_bf ?_|refine zq ?_|(case hg=>assumption))))
     ((first|apply g_ret|apply g_end);case hres => (simp only [smR];simp (disch := first|omega|exact kD rfl|exact kX rfl) only [smY,simprocAttr,bl,i64,smT,hz];exact rfl))
     simp (disch := first|omega|exact kD rfl|exact kX rfl) only [smY,simprocAttr,bl,i64,smT,hz]
   ·have c2 : 1000 < prec := by omega
    have c0 : k % 2 = 0 := by omega
    have hs : 0 < d1 * d2 := of_decide_eq_true (h.trans (decide_eq_true c0))
    have hz : (decide (d1 > 0) == decide (d2 > 0)) = true := hp.trans (decide_eq_true hs)
    constructor
    ·refine good_of_lwp mix Tryz.func16 rfl (by decide) (nt := 83) rfl (rs := [.cell 10 26,.tmp 11]) rfl (nle rfl) ?_
     (repeat (first|apply zO (by decide +kernel)|apply zP (by decide +kernel)|(apply zS;(case h=>constructor<;>decide))|((first|apply l_go rfl|apply c_dec|apply zT rfl (by decide) rfl);(case hs=>(simp (disch := first|omega|exact kD rfl|exact kX rfl) only [smY,simprocAttr,bl,i64,smT,hz];exact rfl));first|refine c_bt ?_|refine c_bf ?_|refine zq ?_|(case hg=>assumption))))
     ((first|apply g_ret|apply g_end);case hres => (simp only [smR];simp (disch := first|omega|exact kD rfl|exact kX rfl) only [smY,simprocAttr,bl,i64,smT,hz];exact rfl))
     simp (disch := first|omega|exact kD rfl|exact kX rfl) only [smY,simprocAttr,bl,i64,smT,hz]
    ·refine good_of_lwp mix Tryz.func17 rfl (by decide) (nt := 82) rfl (rs := [.cell 10 26,.tmp 11]) rfl (nle rfl) ?_
     (repeat (first|apply zO (by decide +kernel)|apply zP (by decide +kernel)|(apply zS;(case h=>constructor<;>decide))|((first|apply l_go rfl|apply c_dec|apply zT rfl (by decide) rfl);(case hs=>(simp (disch := first|omega|exact kD rfl|exact kX rfl) only [smY,simprocAttr,bl,i64,smT,hz];exact rfl));first|refine c_bt ?_|refine c_bf ?_|refine zq ?_|(case hg=>assumption))))
     ((first|apply g_ret|apply g_end);case hres => (simp only [smR];simp (disch := first|omega|exact kD rfl|exact kX rfl) only [smY,simprocAttr,bl,i64,smT,hz];exact rfl))
     simp (disch := first|omega|exact kD rfl|exact kX rfl) only [smY,simprocAttr,bl,i64,smT,hz]
 ·
  by_cases c : prec < 0
  ·
   by_cases c0 : k % 2 = 0
   ·
    have c0 : k % 2 = 0 := by omega
    have hs : 0 < d1 * d2 := of_decide_eq_true (h.trans (decide_eq_true c0))
    have hz : (decide (d1 > 0) == decide (d2 > 0)) = true := hp.trans (decide_eq_true hs)
    constructor
    ·refine good_of_lwp mix Tryz.func16 rfl (by decide) (nt := 83) rfl (rs := [.cell 10 26,.tmp 11]) rfl (nle rfl) ?_
     (repeat (first|apply zO (by decide +kernel)|apply zP (by decide +kernel)|(apply zS;(case h=>constructor<;>decide))|((first|apply l_go rfl|apply c_dec|apply zT rfl (by decide) rfl);(case hs=>(simp (disch := first|omega|exact kD rfl|exact kX rfl) only [smY,simprocAttr,bl,i64,smT,hz];exact rfl));first|refine c_bt ?_|refine c_bf ?_|refine zq ?_|(case hg=>assumption))))
     ((first|apply g_ret|apply g_end);case hres => (simp only [smR];simp (disch := first|omega|exact kD rfl|exact kX rfl) only [smY,simprocAttr,bl,i64,smT,hz];exact rfl))
     simp (disch := first|omega|exact kD rfl|exact kX rfl) only [smY,simprocAttr,bl,i64,smT,hz]
    ·refine good_of_lwp mix Tryz.func17 rfl (by decide) (nt := 82) rfl (rs := [.cell 10 26,.tmp 11]) rfl (nle rfl) ?_
     (repeat (first|apply zO (by decide +kernel)|apply zP (by decide +kernel)|(apply zS;(case h=>constructor<;>decide))|((first|apply l_go rfl|apply c_dec|apply zT rfl (by decide) rfl);(case hs=>(simp (disch := first|omega|exact kD rfl|exact kX rfl) only [smY,simprocAttr,bl,i64,smT,hz];exact rfl));first|refine c_bt ?_|refine c_bf ?_|refine zq ?_|(case hg=>assumption))))
     ((first|apply g_ret|apply g_end);case hres => (simp only [smR];simp (disch := first|omega|exact kD rfl|exact kX rfl) only [smY,simprocAttr,bl,i64,smT,hz];exact rfl))
     simp (disch := first|omega|exact kD rfl|exact kX rfl) only [smY,simprocAttr,bl,i64,smT,hz]
   ·have hs : ¬ 0 < d1 * d2 := of_decide_eq_false (h.trans (decide_eq_false c0))
    have hz : (decide (d1 > 0) == decide (d2 > 0)) = false := hp.trans (decide_eq_false hs)
    constructor
    ·refine good_of_lwp mix Tryz.func16 rfl (by decide) (nt := 83) rfl (rs := [.cell 10 26,.tmp 11]) rfl (nle rfl) ?_
     (repeat (first|apply zO (by decide +kernel)|apply zP (by decide +kernel)|(apply zS;(case h=>constructor<;>decide))|((first|apply l_go rfl|apply c_dec|apply zT rfl (by decide) rfl);(case hs=>(simp (disch := first|omega|exact kD rfl|exact kX rfl) only [smY,simprocAttr,bl,i64,smT,hz];exact rfl));first|refine c_bt ?_|refine c_bf ?_|refine zq ?_|(case hg=>assumption))))
     ((first|apply g_ret|apply g_end);case hres => (simp only [smR];simp (disch := first|omega|exact kD rfl|exact kX rfl) only [smY,simprocAttr,bl,i64,smT,hz];exact rfl))
     simp (disch := first|omega|exact kD rfl|exact kX rfl) only [smY,simprocAttr,bl,i64,smT,hz]
    ·refine good_of_lwp mix Tryz.func17 rfl (by decide) (nt := 82) rfl (rs := [.cell 10 26,.tmp 11]) rfl (nle rfl) ?_
     (repeat (first|apply zO (by decide +kernel)|apply zP (by decide +kernel)|(apply zS;(case h=>constructor<;>decide))|((first|apply l_go rfl|apply c_dec|apply zT rfl (by decide) rfl);(case hs=>(simp (disch := first|omega|exact kD rfl|exact kX rfl) only [smY,simprocAttr,bl,i64,smT,hz];exact rfl));first|refine c_bt ?_|refine c_bf ?_|refine zq ?_|(case hg=>assumption))))
     ((first|apply g_ret|apply g_end);case hres => (simp only [smR];simp (disch := first|omega|exact kD rfl|exact kX rfl) only [smY,simprocAttr,bl,i64,smT,hz];exact rfl))
     simp (disch := first|omega|exact kD rfl|exact kX rfl) only [smY,simprocAttr,bl,i64,smT,hz]
  ·have c2 : 1000 < prec := by omega
   by_cases c0 : k % 2 = 0
   ·
    have c0 : k % 2 = 0 := by omega
    have hs : 0 < d1 * d2 := of_decide_eq_true (h.trans (decide_eq_true c0))
    have hz : (decide (d1 > 0) == decide (d2 > 0)) = true := hp.trans (decide_eq_true hs)
    constructor
    ·refine good_of_lwp mix Tryz.func16 rfl (by decide) (nt := 83) rfl (rs := [.cell 10 26,.tmp 11]) rfl (nle rfl) ?_
     (repeat (first|apply zO (by decide +kernel)|apply zP (by decide +kernel)|(apply zS;(case h=>constructor<;>decide))|((first|apply l_go rfl|apply c_dec|apply zT rfl (by decide) rfl);(case hs=>(simp (disch := first|omega|exact kD rfl|exact kX rfl) only [smY,simprocAttr,bl,i64,smT,hz];exact rfl));first|refine c_bt ?_|refine c_bf ?_|refine zq ?_|(case hg=>assumption))))
     ((first|apply g_ret|apply g_end);case hres => (simp only [smR];simp (disch := first|omega|exact kD rfl|exact kX rfl) only [smY,simprocAttr,bl,i64,smT,hz];exact rfl))
     simp (disch := first|omega|exact kD rfl|exact kX rfl) only [smY,simprocAttr,bl,i64,smT,hz]
    ·refine good_of_lwp mix Tryz.func17 rfl (by decide) (nt := 82) rfl (rs := [.cell 10 26,.tmp 11]) rfl (nle rfl) ?_
     (repeat (first|apply zO (by decide +kernel)|apply zP (by decide +kernel)|(apply zS;(case h=>constructor<;>decide))|((first|apply l_go rfl|apply c_dec|apply zT rfl (by decide) rfl);(case hs=>(simp (disch := first|omega|exact kD rfl|exact kX rfl) only [smY,simprocAttr,bl,i64,smT,hz];exact rfl));first|refine c_bt ?_|refine c_bf ?_|refine zq ?_|(case hg=>assumption))))
     ((first|apply g_ret|apply g_end);case hres => (simp only [smR];simp (disch := first|omega|exact kD rfl|exact kX rfl) only [smY,simprocAttr,bl,i64,smT,hz];exact rfl))
     simp (disch := first|omega|exact kD rfl|exact kX rfl) only [smY,simprocAttr,bl,i64,smT,hz]
   ·have hs : ¬ 0 < d1 * d2 := of_decide_eq_false (h.trans (decide_eq_false c0))
    have hz : (decide (d1 > 0) == decide (d2 > 0)) = false := hp.trans (decide_eq_false hs)
    constructor
    ·refine good_of_lwp mix Tryz.func16 rfl (by decide) (nt := 83) rfl (rs := [.cell 10 26,.tmp 11]) rfl (nle rfl) ?_
     (repeat (first|apply zO (by decide +kernel)|apply zP (by decide +kernel)|(apply zS;(case h=>constructor<;>decide))|((first|apply l_go rfl|apply c_dec|apply zT rfl (by decide) rfl);(case hs=>(simp (disch := first|omega|exact kD rfl|exact kX rfl) only [smY,simprocAttr,bl,i64,smT,hz];exact rfl));first|refine c_bt ?_|refine c_bf ?_|refine zq ?_|(case hg=>assumption))))
     ((first|apply g_ret|apply g_end);case hres => (simp only [smR];simp (disch := first|omega|exact kD rfl|exact kX rfl) only [smY,simprocAttr,bl,i64,smT,hz];exact rfl))
     simp (disch := first|omega|exact kD rfl|exact kX rfl) only [smY,simprocAttr,bl,i64,smT,hz]
    ·refine good_of_lwp mix Tryz.func17 rfl (by decide) (nt := 82) rfl (rs := [.cell 10 26,.tmp 11]) rfl (nle rfl) ?_
     (repeat (first|apply zO (by decide +kernel)|apply zP (by decide +kernel)|(apply zS;(case h=>constructor<;>decide))|((first|apply l_go rfl|apply c_dec|apply zT rfl (by decide) rfl);(case hs=>(simp (disch := first|omega|exact kD rfl|exact kX rfl) only [smY,simprocAttr,bl,i64,smT,hz];exact rfl));first|refine c_bt ?_|refine c_bf ?_|refine zq ?_|(case hg=>assumption))))
     ((first|apply g_ret|apply g_end);case hres => (simp only [smR];simp (disch := first|omega|exact kD rfl|exact kX rfl) only [smY,simprocAttr,bl,i64,smT,hz];exact rfl))
     simp (disch := first|omega|exact kD rfl|exact kX rfl) only [smY,simprocAttr,bl,i64,smT,hz]
end Go.Proofs.YteecamhdbilmoaaGreatDoor
namespace Go.Proofs.YteecamhdbilmoaaGreatDoor
open Go Go.Lg Go.Num
set_option maxRecDepth 100000
set_option maxHeartbeats 8000000
attribute [local irreducible] Go.Lg.lrun Go.Lg.lwp Go.Lg.exThen Go.Lg.exBlk Go.Lg.keep Go.Lg.goodPost sg mg oc mC twP tw bq kr chi eK gB cSer op oqp
theorem lq_eK21 {m : Nat} (hm : m ≤ 1000) : lq (eK 2 1 1 m) ≤ 30 := by
 by_cases h0 : m = 0
 ·subst h0
  rw [eK_zero1,gB_one (by omega) (by omega) rfl]
  decide +kernel
 ·rw [eK_pos h0,lq_int]
  have := lq_tw (k := 2 - 1) (d1 := 1) (d2 := 1) (by decide) (by decide) hm (by omega)
  omega
theorem real_ok1 (t p : Nat) (d1 d2 k : Int) (ek : k = 2) (e1 : d1 = 1) (e2 : d2 = 1) (ht1 : 2 ≤ t) (ht : t ≤ 1000) (hp : p ≤ 1000) : bothR k d1 d2 t p (.tup [cSer 0 (dfT (eK 2 1 1) t) p,i64 0]) := by
 have hd : (1 : Int) ∈ fdL := by decide
 have b0 : ∀ i,i < p → lq (eK 2 1 1 i) ≤ 30 := fun i hi => lq_eK21 (by omega)
 have gc := classical_good 2 p 1 1 hd hd (by omega) (by omega) hp
 have gr := raise1_good (eK 2 1 1) p t hp (by omega) ht (fun i hi => Nat.le_trans (b0 i hi) (by omega))
 have gn := snormal_all 0 (dfO (eK 2 1 1) t) (dfT (eK 2 1 1) t) p (fun i hi => rfl) (by omega) (by omega) (fun i hi => by
  have hpt : p ≤ t * p := Nat.le_mul_of_pos_left p (by omega)
  have h1 := b0 i hi
  have h2 : lq (upT (eK 2 1 1) t i) ≤ 30 := lq_upT b0 (by omega) (by omega : i < t * p)
  have h3 := lq_mul ((t : Int) : Rat) (upT (eK 2 1 1) t i)
  have h4 := lq_i64 (z := (t : Int)) (by omega)
  have h5 := lq_sub (eK 2 1 1 i) (((t : Int) : Rat) * upT (eK 2 1 1) t i)
  unfold dfT
  omega)
 rw [show oP (dfO (eK 2 1 1) t) p = oP (fun i => some (dfT (eK 2 1 1) t i)) p from rfl,aP_oP] at gn
 have gi := inside_good (p : Int) (by omega)
 rw [dec_t (by omega)] at gi
 have gp := rplain_good 2 p 1 1 hd hd (by omega) (by omega) hp
 have ga := rat_diff_good (eK 2 1 1) p t hp (by omega) ht (fun i hi => Nat.le_trans (b0 i hi) (by omega))
 have hl1 := aP_len (eK 2 1 1) p
 have hl2 := aP_len (dfT (eK 2 1 1) t) p
 obtain ⟨q1,q1'⟩ := qd_good 1 (by omega)
 rw [List.contains_iff_mem.2 hd] at q1 q1'
 generalize eK 2 1 1 = a at *
 generalize dfT a t = w at *
 obtain ⟨x1,M1,L1,hR1,hL1,hM1,hx1⟩ := cSer_form 0 a p
 rw [hR1] at gp ga
 clear hR1
 obtain ⟨x2,M2,L2,hR2,hL2,hM2,hx2⟩ := cSer_form 0 w p
 rw [hR2] at gn ga ⊢
 clear hR2
 subst ek e1 e2
 unfold bothR
 have ht1' : ¬ (t : Int) = 1 := by omega
 simp only [i64,bl] at *
 constructor
 ·refine good_of_lwp mix Tryz.func16 rfl (by decide) (nt := 83) rfl (rs := [.cell 10 26,.tmp 11]) rfl (nle rfl) ?_
  (repeat (first|apply zO (by decide +kernel)|apply zP (by decide +kernel)|(apply zS;(case h=>constructor<;>decide))|((first|apply l_go rfl|apply c_dec|apply zT rfl (by decide) rfl);(case hs=>(simp (disch := first|omega|exact kD rfl|exact kX rfl) only [smY,simprocAttr,bl,i64,smT];exact rfl));first|refine c_bt ?_|refine c_bf ?_|refine zq ?_|(case hg=>assumption))))
  ((first|apply g_ret|apply g_end);case hres => (simp only [smR];simp (disch := first|omega|exact kD rfl|exact kX rfl) only [smY,simprocAttr,bl,i64,smT];exact rfl))
  simp (disch := first|omega|exact kD rfl|exact kX rfl) only [smY,simprocAttr,bl,i64,smT]
 ·refine good_of_lwp mix Tryz.func17 rfl (by decide) (nt := 82) rfl (rs := [.cell 10 26,.tmp 11]) rfl (nle rfl) ?_
  (repeat (first|apply zO (by decide +kernel)|apply zP (by decide +kernel)|(apply zS;(case h=>constructor<;>decide))|((first|apply l_go rfl|apply c_dec|apply zT rfl (by decide) rfl);(case hs=>(simp (disch := first|omega|exact kD rfl|exact kX rfl) only [smY,simprocAttr,bl,i64,smT];exact rfl));first|refine c_bt ?_|refine c_bf ?_|refine zq ?_|(case hg=>assumption))))
  ((first|apply g_ret|apply g_end);case hres => (simp only [smR];simp (disch := first|omega|exact kD rfl|exact kX rfl) only [smY,simprocAttr,bl,i64,smT];exact rfl))
  simp (disch := first|omega|exact kD rfl|exact kX rfl) only [smY,simprocAttr,bl,i64,smT]
theorem real_ok2 (k t p : Nat) (d1 d2 : Int) (hk1 : 2 ≤ k) (hk2 : k ≤ 40) (hd1 : d1 ∈ fdL) (hd2 : d2 ∈ fdL) (h : decide (0 < d1 * d2) = decide ((k : Int) % 2 = 0)) (ht1 : 1 ≤ t) (ht : t ≤ 1000) (hp : p ≤ 1000) (hpl : ¬ (k = 2 ∧ d1 = 1 ∧ d2 = 1)) : bothR k d1 d2 t p (.tup [cSer 0 (upT (eK k d1 d2) t) p,i64 0]) := by
 obtain ⟨n1,r1⟩ := fd_rng hd1
 obtain ⟨n2,r2⟩ := fd_rng hd2
 obtain ⟨q1,q1'⟩ := qd_good d1 (by omega)
 obtain ⟨q2,q2'⟩ := qd_good d2 (by omega)
 rw [List.contains_iff_mem.2 hd1] at q1 q1'
 rw [List.contains_iff_mem.2 hd2] at q2 q2'
 simp only [i64,bl] at q1 q1' q2 q2'
 have hm := mul_rng r1 r2
 have hp' := par_eq n1 n2
 have hpp := hp
 have b0 : ∀ i,i < p → lq (eK k d1 d2 i) ≤ 410 := fun i hi => lq_eK (by omega) hk2 hd1 hd2 (by omega)
 have gc := classical_good k p d1 d2 hd1 hd2 hk1 hk2 hpp
 have gr := raise0_good (eK k d1 d2) p t hpp (by omega) ht
 have hpt : p ≤ t * p := Nat.le_mul_of_pos_left p (by omega)
 have gn := snormal_all 0 (upO (eK k d1 d2) t) (upT (eK k d1 d2) t) p (fun i hi => (upO_get _ _ _).symm) (by omega) (by omega) (fun i hi => Nat.le_trans (lq_upT b0 (by omega) (by omega : i < t * p)) (by omega))
 have gi := inside_good (p : Int) (by omega)
 rw [dec_t (by omega)] at gi
 have gp := rplain_good k p d1 d2 hd1 hd2 hk1 hk2 hpp
 have ga := fun b hb => rat_plain_good (eK k d1 d2) k p t b hpp ht1 ht b0 hk2 hb
 have hl1 := aP_len (eK k d1 d2) p
 have hl2 := oP_len (upO (eK k d1 d2) t) p
 have hl3 := op_len (oP (upO (eK k d1 d2) t) p)
 generalize upO (eK k d1 d2) t = wo at *
 generalize upT (eK k d1 d2) t = w at *
 generalize eK k d1 d2 = a at *
 obtain ⟨x1,M1,L1,hR1,hL1,hM1,hx1⟩ := cSer_form 0 a p
 obtain ⟨x2,M2,L2,hR2,hL2,hM2,hx2⟩ := cSer_form 0 w p
 rw [hR1] at gp
 rw [hR2] at gn ⊢
 simp only [hR1,hR2] at ga
 clear hR1 hR2 hp
 have hp := hp'
 by_cases e1 : k = 2
 ·have ga' := ga false (by simp)
  by_cases e2 : d1 = 1
  ·have e3 : ¬ d2 = 1 := fun e => hpl ⟨e1,e2,e⟩
   have hs0 : 0 < d1 * d2 := of_decide_eq_true (h.trans (decide_eq_true (by omega)))
   have hd2p : 0 < d2 := by rw [e2,Int.one_mul] at hs0;exact hs0
   unfold bothR
   simp only [i64,bl] at *
   have c0 : (k : Int) % 2 = 0 := by omega
   have hs : 0 < d1 * d2 := of_decide_eq_true (h.trans (decide_eq_true c0))
   have hz : (decide (d1 > 0) == decide (d2 > 0)) = true := hp.trans (decide_eq_true hs)
   constructor
   ·refine good_of_lwp mix Tryz.func16 rfl (by decide) (nt := 83) rfl (rs := [.cell 10 26,.tmp 11]) rfl (nle rfl) ?_
    (repeat (first|apply zO (by decide +kernel)|apply zP (by decide +kernel)|(apply zS;(case h=>constructor<;>decide))|((first|apply l_go rfl|apply c_dec|apply zT rfl (by decide) rfl);(case hs=>(simp (disch := first|omega|exact kD rfl|exact kX rfl) only [smY,simprocAttr,bl,i64,smT,hz];exact rfl));first|refine c_bt ?_|refine c_bf ?_|refine zq ?_|(case hg=>assumption))))
    ((first|apply g_ret|apply g_end);case hres => (simp only [smR];simp (disch := first|omega|exact kD rfl|exact kX rfl) only [smY,simprocAttr,bl,i64,smT,hz];exact rfl))
    simp (disch := first|omega|exact kD rfl|exact kX rfl) only [smY,simprocAttr,bl,i64,smT,hz]
   ·refine good_of_lwp mix Tryz.func17 rfl (by decide) (nt := 82) rfl (rs := [.cell 10 26,.tmp 11]) rfl (nle rfl) ?_
    (repeat (first|apply zO (by decide +kernel)|apply zP (by decide +kernel)|(apply zS;(case h=>constructor<;>decide))|((first|apply l_go rfl|apply c_dec|apply zT rfl (by decide) rfl);(case hs=>(simp (disch := first|omega|exact kD rfl|exact kX rfl) only [smY,simprocAttr,bl,i64,smT,hz];exact rfl));first|refine c_bt ?_|refine c_bf ?_|refine zq ?_|(case hg=>assumption))))
    ((first|apply g_ret|apply g_end);case hres => (simp only [smR];simp (disch := first|omega|exact kD rfl|exact kX rfl) only [smY,simprocAttr,bl,i64,smT,hz];exact rfl))
    simp (disch := first|omega|exact kD rfl|exact kX rfl) only [smY,simprocAttr,bl,i64,smT,hz]
  ·unfold bothR
   simp only [i64,bl] at *
   have c0 : (k : Int) % 2 = 0 := by omega
   have hs : 0 < d1 * d2 := of_decide_eq_true (h.trans (decide_eq_true c0))
   have hz : (decide (d1 > 0) == decide (d2 > 0)) = true := hp.trans (decide_eq_true hs)
   constructor
   ·refine good_of_lwp mix Tryz.func16 rfl (by decide) (nt := 83) rfl (rs := [.cell 10 26,.tmp 11]) rfl (nle rfl) ?_
    (repeat (first|apply zO (by decide +kernel)|apply zP (by decide +kernel)|(apply zS;(case h=>constructor<;>decide))|((first|apply l_go rfl|apply c_dec|apply zT rfl (by decide) rfl);(case hs=>(simp (disch := first|omega|exact kD rfl|exact kX rfl) only [smY,simprocAttr,bl,i64,smT,hz];exact rfl));first|refine c_bt ?_|refine c_bf ?_|refine zq ?_|(case hg=>assumption))))
    ((first|apply g_ret|apply g_end);case hres => (simp only [smR];simp (disch := first|omega|exact kD rfl|exact kX rfl) only [smY,simprocAttr,bl,i64,smT,hz];exact rfl))
    simp (disch := first|omega|exact kD rfl|exact kX rfl) only [smY,simprocAttr,bl,i64,smT,hz]
   ·refine good_of_lwp mix Tryz.func17 rfl (by decide) (nt := 82) rfl (rs := [.cell 10 26,.tmp 11]) rfl (nle rfl) ?_
    (repeat (first|apply zO (by decide +kernel)|apply zP (by decide +kernel)|(apply zS;(case h=>constructor<;>decide))|((first|apply l_go rfl|apply c_dec|apply zT rfl (by decide) rfl);(case hs=>(simp (disch := first|omega|exact kD rfl|exact kX rfl) only [smY,simprocAttr,bl,i64,smT,hz];exact rfl));first|refine c_bt ?_|refine c_bf ?_|refine zq ?_|(case hg=>assumption))))
    ((first|apply g_ret|apply g_end);case hres => (simp only [smR];simp (disch := first|omega|exact kD rfl|exact kX rfl) only [smY,simprocAttr,bl,i64,smT,hz];exact rfl))
    simp (disch := first|omega|exact kD rfl|exact kX rfl) only [smY,simprocAttr,bl,i64,smT,hz]
 ·have e1' : ¬ (k : Int) = 2 := by omega
  by_cases e2 : d1 = 1
  ·by_cases e3 : d2 = 1
   ·have ga' := ga true (by simp [e1])
    have he : (k : Int) % 2 = 0 := of_decide_eq_true (h.symm.trans (by rw [e2,e3];rfl))
    unfold bothR
    simp only [i64,bl] at *
    have c0 : (k : Int) % 2 = 0 := by omega
    have hs : 0 < d1 * d2 := of_decide_eq_true (h.trans (decide_eq_true c0))
    have hz : (decide (d1 > 0) == decide (d2 > 0)) = true := hp.trans (decide_eq_true hs)
    constructor
    ·refine good_of_lwp mix Tryz.func16 rfl (by decide) (nt := 83) rfl (rs := [.cell 10 26,.tmp 11]) rfl (nle rfl) ?_
     (repeat (first|apply zO (by decide +kernel)|apply zP (by decide +kernel)|(apply zS;(case h=>constructor<;>decide))|((first|apply l_go rfl|apply c_dec|apply zT rfl (by decide) rfl);(case hs=>(simp (disch := first|omega|exact kD rfl|exact kX rfl) only [smY,simprocAttr,bl,i64,smT,hz];exact rfl));first|refine c_bt ?_|refine c_bf ?_|refine zq ?_|(case hg=>assumption))))
     ((first|apply g_ret|apply g_end);case hres => (simp only [smR];simp (disch := first|omega|exact kD rfl|exact kX rfl) only [smY,simprocAttr,bl,i64,smT,hz];exact rfl))
     simp (disch := first|omega|exact kD rfl|exact kX rfl) only [smY,simprocAttr,bl,i64,smT,hz]
    ·refine good_of_lwp mix Tryz.func17 rfl (by decide) (nt := 82) rfl (rs := [.cell 10 26,.tmp 11]) rfl (nle rfl) ?_
     (repeat (first|apply zO (by decide +kernel)|apply zP (by decide +kernel)|(apply zS;(case h=>constructor<;>decide))|((first|apply l_go rfl|apply c_dec|apply zT rfl (by decide) rfl);(case hs=>(simp (disch := first|omega|exact kD rfl|exact kX rfl) only [smY,simprocAttr,bl,i64,smT,hz];exact rfl));first|refine c_bt ?_|refine c_bf ?_|refine zq ?_|(case hg=>assumption))))
     ((first|apply g_ret|apply g_end);case hres => (simp only [smR];simp (disch := first|omega|exact kD rfl|exact kX rfl) only [smY,simprocAttr,bl,i64,smT,hz];exact rfl))
     simp (disch := first|omega|exact kD rfl|exact kX rfl) only [smY,simprocAttr,bl,i64,smT,hz]
   ·have ga' := ga false (by simp)
    unfold bothR
    simp only [i64,bl] at *
    by_cases c0 : (k : Int) % 2 = 0
    ·have hs : 0 < d1 * d2 := of_decide_eq_true (h.trans (decide_eq_true c0))
     have hd2p : 0 < d2 := by rw [e2,Int.one_mul] at hs;exact hs
     constructor
     ·refine good_of_lwp mix Tryz.func16 rfl (by decide) (nt := 83) rfl (rs := [.cell 10 26,.tmp 11]) rfl (nle rfl) ?_
      (repeat (first|apply zO (by decide +kernel)|apply zP (by decide +kernel)|(apply zS;(case h=>constructor<;>decide))|((first|apply l_go rfl|apply c_dec|apply zT rfl (by decide) rfl);(case hs=>(simp (disch := first|omega|exact kD rfl|exact kX rfl) only [smY,simprocAttr,bl,i64,smT];exact rfl));first|refine c_bt ?_|refine c_bf ?_|refine zq ?_|(case hg=>assumption))))
      ((first|apply g_ret|apply g_end);case hres => (simp only [smR];simp (disch := first|omega|exact kD rfl|exact kX rfl) only [smY,simprocAttr,bl,i64,smT];exact rfl))
      simp (disch := first|omega|exact kD rfl|exact kX rfl) only [smY,simprocAttr,bl,i64,smT]
     ·refine good_of_lwp mix Tryz.func17 rfl (by decide) (nt := 82) rfl (rs := [.cell 10 26,.tmp 11]) rfl (nle rfl) ?_
      (repeat (first|apply zO (by decide +kernel)|apply zP (by decide +kernel)|(apply zS;(case h=>constructor<;>decide))|((first|apply l_go rfl|apply c_dec|apply zT rfl (by decide) rfl);(case hs=>(simp (disch := first|omega|exact kD rfl|exact kX rfl) only [smY,simprocAttr,bl,i64,smT];exact rfl));first|refine c_bt ?_|refine c_bf ?_|refine zq ?_|(case hg=>assumption))))
      ((first|apply g_ret|apply g_end);case hres => (simp only [smR];simp (disch := first|omega|exact kD rfl|exact kX rfl) only [smY,simprocAttr,bl,i64,smT];exact rfl))
      simp (disch := first|omega|exact kD rfl|exact kX rfl) only [smY,simprocAttr,bl,i64,smT]
    ·have hs : ¬ 0 < d1 * d2 := of_decide_eq_false (h.trans (decide_eq_false c0))
     have hd2p : ¬ 0 < d2 := by rw [e2,Int.one_mul] at hs;exact hs
     constructor
     ·refine good_of_lwp mix Tryz.func16 rfl (by decide) (nt := 83) rfl (rs := [.cell 10 26,.tmp 11]) rfl (nle rfl) ?_
      (repeat (first|apply zO (by decide +kernel)|apply zP (by decide +kernel)|(apply zS;(case h=>constructor<;>decide))|((first|apply l_go rfl|apply c_dec|apply zT rfl (by decide) rfl);(case hs=>(simp (disch := first|omega|exact kD rfl|exact kX rfl) only [smY,simprocAttr,bl,i64,smT];exact rfl));first|refine c_bt ?_|refine c_bf ?_|refine zq ?_|(case hg=>assumption))))
      ((first|apply g_ret|apply g_end);case hres => (simp only [smR];simp (disch := first|omega|exact kD rfl|exact kX rfl) only [smY,simprocAttr,bl,i64,smT];exact rfl))
      simp (disch := first|omega|exact kD rfl|exact kX rfl) only [smY,simprocAttr,bl,i64,smT]
     ·refine good_of_lwp mix Tryz.func17 rfl (by decide) (nt := 82) rfl (rs := [.cell 10 26,.tmp 11]) rfl (nle rfl) ?_
      (repeat (first|apply zO (by decide +kernel)|apply zP (by decide +kernel)|(apply zS;(case h=>constructor<;>decide))|((first|apply l_go rfl|apply c_dec|apply zT rfl (by decide) rfl);(case hs=>(simp (disch := first|omega|exact kD rfl|exact kX rfl) only [smY,simprocAttr,bl,i64,smT];exact rfl));first|refine c_bt ?_|refine c_bf ?_|refine zq ?_|(case hg=>assumption))))
      ((first|apply g_ret|apply g_end);case hres => (simp only [smR];simp (disch := first|omega|exact kD rfl|exact kX rfl) only [smY,simprocAttr,bl,i64,smT];exact rfl))
      simp (disch := first|omega|exact kD rfl|exact kX rfl) only [smY,simprocAttr,bl,i64,smT]
  ·have ga' := ga false (by simp)
   unfold bothR
   simp only [i64,bl] at *
   by_cases c0 : (k : Int) % 2 = 0
   ·
    have c0 : (k : Int) % 2 = 0 := by omega
    have hs : 0 < d1 * d2 := of_decide_eq_true (h.trans (decide_eq_true c0))
    have hz : (decide (d1 > 0) == decide (d2 > 0)) = true := hp.trans (decide_eq_true hs)
    constructor
    ·refine good_of_lwp mix Tryz.func16 rfl (by decide) (nt := 83) rfl (rs := [.cell 10 26,.tmp 11]) rfl (nle rfl) ?_
     (repeat (first|apply zO (by decide +kernel)|apply zP (by decide +kernel)|(apply zS;(case h=>constructor<;>decide))|((first|apply l_go rfl|apply c_dec|apply zT rfl (by decide) rfl);(case hs=>(simp (disch := first|omega|exact kD rfl|exact kX rfl) only [smY,simprocAttr,bl,i64,smT,hz];exact rfl));first|refine c_bt ?_|refine c_bf ?_|refine zq ?_|(case hg=>assumption))))
     ((first|apply g_ret|apply g_end);case hres => (simp only [smR];simp (disch := first|omega|exact kD rfl|exact kX rfl) only [smY,simprocAttr,bl,i64,smT,hz];exact rfl))
     simp (disch := first|omega|exact kD rfl|exact kX rfl) only [smY,simprocAttr,bl,i64,smT,hz]
    ·refine good_of_lwp mix Tryz.func17 rfl (by decide) (nt := 82) rfl (rs := [.cell 10 26,.tmp 11]) rfl (nle rfl) ?_
     (repeat (first|apply zO (by decide +kernel)|apply zP (by decide +kernel)|(apply zS;(case h=>constructor<;>decide))|((first|apply l_go rfl|apply c_dec|apply zT rfl (by decide) rfl);(case hs=>(simp (disch := first|omega|exact kD rfl|exact kX rfl) only [smY,simprocAttr,bl,i64,smT,hz];exact rfl));first|refine c_bt ?_|refine c_bf ?_|refine zq ?_|(case hg=>assumption))))
     ((first|apply g_ret|apply g_end);case hres => (simp only [smR];simp (disch := first|omega|exact kD rfl|exact kX rfl) only [smY,simprocAttr,bl,i64,smT,hz];exact rfl))
     simp (disch := first|omega|exact kD rfl|exact kX rfl) only [smY,simprocAttr,bl,i64,smT,hz]
   ·have hs : ¬ 0 < d1 * d2 := of_decide_eq_false (h.trans (decide_eq_false c0))
    have hz : (decide (d1 > 0) == decide (d2 > 0)) = false := hp.trans (decide_eq_false hs)
    constructor
    ·refine good_of_lwp mix Tryz.func16 rfl (by decide) (nt := 83) rfl (rs := [.cell 10 26,.tmp 11]) rfl (nle rfl) ?_
     (repeat (first|apply zO (by decide +kernel)|apply zP (by decide +kernel)|(apply zS;(case h=>constructor<;>decide))|((first|apply l_go rfl|apply c_dec|apply zT rfl (by decide) rfl);(case hs=>(simp (disch := first|omega|exact kD rfl|exact kX rfl) only [smY,simprocAttr,bl,i64,smT,hz];exact rfl));first|refine c_bt ?_|refine c_bf ?_|refine zq ?_|(case hg=>assumption))))
     ((first|apply g_ret|apply g_end);case hres => (simp only [smR];simp (disch := first|omega|exact kD rfl|exact kX rfl) only [smY,simprocAttr,bl,i64,smT,hz];exact rfl))
     simp (disch := first|omega|exact kD rfl|exact kX rfl) only [smY,simprocAttr,bl,i64,smT,hz]
    ·refine good_of_lwp mix Tryz.func17 rfl (by decide) (nt := 82) rfl (rs := [.cell 10 26,.tmp 11]) rfl (nle rfl) ?_
     (repeat (first|apply zO (by decide +kernel)|apply zP (by decide +kernel)|(apply zS;(case h=>constructor<;>decide))|((first|apply l_go rfl|apply c_dec|apply zT rfl (by decide) rfl);(case hs=>(simp (disch := first|omega|exact kD rfl|exact kX rfl) only [smY,simprocAttr,bl,i64,smT,hz];exact rfl));first|refine c_bt ?_|refine c_bf ?_|refine zq ?_|(case hg=>assumption))))
     ((first|apply g_ret|apply g_end);case hres => (simp only [smR];simp (disch := first|omega|exact kD rfl|exact kX rfl) only [smY,simprocAttr,bl,i64,smT,hz];exact rfl))
     simp (disch := first|omega|exact kD rfl|exact kX rfl) only [smY,simprocAttr,bl,i64,smT,hz]
end Go.Proofs.YteecamhdbilmoaaGreatDoor
namespace Go.Proofs.YteecamhdbilmoaaGreatDoor
open Go Go.Lg Go.Num
set_option maxRecDepth 100000
set_option maxHeartbeats 8000000
theorem awake_good : PureGood Tryz.prog 10 [] (.lit (.bool true)) := evl_good (by kernel_rfl)
attribute [local irreducible] Go.Lg.lrun Go.Lg.lwp Go.Lg.exThen Go.Lg.exBlk Go.Lg.keep Go.Lg.goodPost sg mg oc mC twP tw bq kr chi eK gB cSer op oqp
theorem sameSeries_good (f : Int) (hf : -9223372036854775808 ≤ f ∧ f ≤ 9223372036854775807) (l : List Rat) (hl : l.length ≤ 1000000) (hb : ∀ q ∈ l,lq q ≤ 100000) : PureGood Tryz.prog 36 [.agg [i64 f,.sl l.length (qc l)],.agg [i64 f,.sl l.length (qc l)]] (.lit (.bool true)) := by
 have g := sameRats_self l hb (by omega)
 rw [encF_qc] at g
 simp only [i64]
 refine good_of_lwp mix Tryz.func36 rfl (by decide) (nt := 17) rfl (rs := [.tmp 4]) rfl (nle rfl) ?_
 (repeat (first|apply zO (by decide +kernel)|apply zP (by decide +kernel)|(apply zS;(case h=>constructor<;>decide))|((first|apply l_go rfl|apply c_dec|apply zT rfl (by decide) rfl);(case hs=>(simp (disch := first|omega|exact kD rfl|exact kX rfl) only [smY,simprocAttr,bl,i64,smT];exact rfl));first|refine c_bt ?_|refine c_bf ?_|refine zq ?_|(case hg=>assumption))))
 ((first|apply g_ret|apply g_end);case hres => (simp only [smR];simp (disch := first|omega|exact kD rfl|exact kX rfl) only [smY,simprocAttr,bl,i64,smT];exact rfl))
 simp (disch := first|omega|exact kD rfl|exact kX rfl) only [smY,simprocAttr,bl,i64,smT]
theorem cSer_form2 (h : Int) (a : Nat → Rat) (N B : Nat) (ba : ∀ i,i < N → lq (a i) ≤ B) : ∃ x L,cSer h a N = .agg [i64 x,.sl L.length (qc L)] ∧ L.length ≤ N ∧ x = h + ((N : Int) - L.length) ∧ ∀ q ∈ L,lq q ≤ B := by
 obtain ⟨h1,_,_⟩ := ordN_spec a N
 refine ⟨_,aP (fun i => a (ordN a N + i)) (N - ordN a N),by rw [cSer_eq rfl,aP_len],by rw [aP_len];omega,by rw [aP_len];omega,?_⟩
 intro q hq
 simp only [aP,List.mem_map] at hq
 obtain ⟨i,hi,rfl⟩ := hq
 have := List.mem_range.1 hi
 exact ba _ (by omega)
theorem same_list (f : Int) (hf : -9223372036854775808 ≤ f ∧ f ≤ 9223372036854775807) (l : List Rat) (e : Int) (hl : l.length ≤ 1000000) (hb : ∀ q ∈ l,lq q ≤ 100000) : PureGood Tryz.prog 15 [.agg [i64 f,.sl l.length (qc l)],i64 e,.agg [i64 f,.sl l.length (qc l)],i64 e] (.lit (.bool true)) := by
 have g := sameSeries_good f hf l hl hb
 simp only [i64] at *
 refine good_of_lwp mix Tryz.func15 rfl (by decide) (nt := 17) rfl (rs := [.tmp 8]) rfl (nle rfl) ?_
 (repeat (first|apply zO (by decide +kernel)|apply zP (by decide +kernel)|(apply zS;(case h=>constructor<;>decide))|((first|apply l_go rfl|apply c_dec|apply zT rfl (by decide) rfl);(case hs=>(simp (disch := first|omega|exact kD rfl|exact kX rfl) only [smY,simprocAttr,bl,i64,smT];exact rfl));first|refine c_bt ?_|refine c_bf ?_|refine zq ?_|(case hg=>assumption))))
 ((first|apply g_ret|apply g_end);case hres => (simp only [smR];simp (disch := first|omega|exact kD rfl|exact kX rfl) only [smY,simprocAttr,bl,i64,smT];exact rfl))
 simp (disch := first|omega|exact kD rfl|exact kX rfl) only [smY,simprocAttr,bl,i64,smT]
theorem long_good (p : Int) : PureGood Tryz.prog 9 [i64 p] (bl (decide (40 < p ∧ p ≤ 1000))) := by
 by_cases h1 : 40 < p
 ·by_cases h2 : p ≤ 1000
  ·rw [dec_t ⟨h1,h2⟩]
   simp only [i64,bl]
   refine good_of_lwp mix Tryz.func9 rfl (by decide) (nt := 9) rfl (rs := [.tmp 2]) rfl (nle rfl) ?_
   (repeat (first|apply zO (by decide +kernel)|apply zP (by decide +kernel)|(apply zS;(case h=>constructor<;>decide))|((first|apply l_go rfl|apply c_dec|apply zT rfl (by decide) rfl);(case hs=>(simp (disch := first|omega|exact kD rfl|exact kX rfl) only [smY,simprocAttr,bl,i64,smT];exact rfl));first|refine c_bt ?_|refine c_bf ?_|refine zq ?_|(case hg=>assumption))))
   ((first|apply g_ret|apply g_end);case hres => (simp only [smR];simp (disch := first|omega|exact kD rfl|exact kX rfl) only [smY,simprocAttr,bl,i64,smT];exact rfl))
   simp (disch := first|omega|exact kD rfl|exact kX rfl) only [smY,simprocAttr,bl,i64,smT]
  ·rw [dec_f (fun e => h2 e.2)]
   simp only [i64,bl]
   refine good_of_lwp mix Tryz.func9 rfl (by decide) (nt := 9) rfl (rs := [.tmp 2]) rfl (nle rfl) ?_
   (repeat (first|apply zO (by decide +kernel)|apply zP (by decide +kernel)|(apply zS;(case h=>constructor<;>decide))|((first|apply l_go rfl|apply c_dec|apply zT rfl (by decide) rfl);(case hs=>(simp (disch := first|omega|exact kD rfl|exact kX rfl) only [smY,simprocAttr,bl,i64,smT];exact rfl));first|refine c_bt ?_|refine c_bf ?_|refine zq ?_|(case hg=>assumption))))
   ((first|apply g_ret|apply g_end);case hres => (simp only [smR];simp (disch := first|omega|exact kD rfl|exact kX rfl) only [smY,simprocAttr,bl,i64,smT];exact rfl))
   simp (disch := first|omega|exact kD rfl|exact kX rfl) only [smY,simprocAttr,bl,i64,smT]
 ·rw [dec_f (fun e => h1 e.1)]
  simp only [i64,bl]
  refine good_of_lwp mix Tryz.func9 rfl (by decide) (nt := 9) rfl (rs := [.tmp 2]) rfl (nle rfl) ?_
  (repeat (first|apply zO (by decide +kernel)|apply zP (by decide +kernel)|(apply zS;(case h=>constructor<;>decide))|((first|apply l_go rfl|apply c_dec|apply zT rfl (by decide) rfl);(case hs=>(simp (disch := first|omega|exact kD rfl|exact kX rfl) only [smY,simprocAttr,bl,i64,smT];exact rfl));first|refine c_bt ?_|refine c_bf ?_|refine zq ?_|(case hg=>assumption))))
  ((first|apply g_ret|apply g_end);case hres => (simp only [smR];simp (disch := first|omega|exact kD rfl|exact kX rfl) only [smY,simprocAttr,bl,i64,smT];exact rfl))
  simp (disch := first|omega|exact kD rfl|exact kX rfl) only [smY,simprocAttr,bl,i64,smT]
theorem lq_wR {k t p i : Nat} {d1 d2 : Int} (hk1 : 2 ≤ k) (hk2 : k ≤ 40) (hd1 : d1 ∈ fdL) (hd2 : d2 ∈ fdL) (ht1 : 1 ≤ t) (ht : t ≤ 1000) (hp : p ≤ 1000) (hi : i < p) : lq (wR k d1 d2 t i) ≤ 2000 := by
 have hpt : p ≤ t * p := Nat.le_mul_of_pos_left p (by omega)
 have b0 : ∀ i,i < p → lq (eK k d1 d2 i) ≤ 410 := fun i hi => lq_eK (by omega) hk2 hd1 hd2 (by omega)
 have h2 : lq (upT (eK k d1 d2) t i) ≤ 410 := lq_upT b0 (by omega) (by omega : i < t * p)
 unfold wR
 split
 ·have h1 := b0 i hi
  have h3 := lq_mul ((t : Int) : Rat) (upT (eK k d1 d2) t i)
  have h4 := lq_i64 (z := (t : Int)) (by omega)
  have h5 := lq_sub (eK k d1 d2 i) (((t : Int) : Rat) * upT (eK k d1 d2) t i)
  unfold dfT
  omega
 ·omega
theorem real_spec (k d1 d2 t prec : Int) (rk : -9223372036854775808 ≤ k ∧ k ≤ 9223372036854775807) (r1 : -9223372036854775808 ≤ d1 ∧ d1 ≤ 9223372036854775807) (r2 : -9223372036854775808 ≤ d2 ∧ d2 ≤ 9223372036854775807) (rt : -9223372036854775808 ≤ t ∧ t ≤ 9223372036854775807) (rp : -9223372036854775808 ≤ prec ∧ prec ≤ 9223372036854775807) :
  (∃ e : Int,1 ≤ e ∧ e ≤ 30 ∧ bothR k d1 d2 t prec (eR e)) ∨ ∃ K T P : Nat,k = K ∧ t = T ∧ prec = P ∧ 2 ≤ K ∧ K ≤ 40 ∧ d1 ∈ fdL ∧ d2 ∈ fdL ∧ decide (0 < d1 * d2) = decide ((K : Int) % 2 = 0) ∧ 1 ≤ T ∧ T ≤ 1000 ∧ P ≤ 1000 ∧ ¬ (K = 2 ∧ d1 = 1 ∧ d2 = 1 ∧ T = 1) ∧ bothR k d1 d2 t prec (.tup [cSer 0 (wR K d1 d2 T) P,i64 0]) := by
 by_cases c1 : k < 2 ∨ 40 < k
 ·exact .inl ⟨2,by omega,by omega,real_e1 c1⟩
 ·by_cases c2 : d1 ∈ fdL ∧ d2 ∈ fdL
  ·obtain ⟨hd1,hd2⟩ := c2
   by_cases c3 : decide (0 < d1 * d2) = decide (k % 2 = 0)
   ·by_cases c4 : t < 1 ∨ 1000 < t
    ·exact .inl ⟨2,by omega,by omega,real_e4 (by omega) hd1 hd2 c3 c4⟩
    ·by_cases c5 : k = 2 ∧ d1 = 1 ∧ d2 = 1 ∧ t = 1
     ·exact .inl ⟨20,by omega,by omega,real_e5 k c5.1 c5.2.1 c5.2.2.1 c5.2.2.2⟩
     ·by_cases c6 : prec < 0 ∨ 1000 < prec
      ·exact .inl ⟨2,by omega,by omega,real_e6 (by omega) hd1 hd2 c3 (by omega) c5 rp c6⟩
      ·obtain ⟨K,rfl⟩ : ∃ n : Nat,k = n := ⟨k.toNat,by omega⟩
       obtain ⟨T,rfl⟩ : ∃ n : Nat,t = n := ⟨t.toNat,by omega⟩
       obtain ⟨P,rfl⟩ : ∃ n : Nat,prec = n := ⟨prec.toNat,by omega⟩
       refine .inr ⟨K,T,P,rfl,rfl,rfl,by omega,by omega,hd1,hd2,c3,by omega,by omega,by omega,by omega,?_⟩
       by_cases hpl : K = 2 ∧ d1 = 1 ∧ d2 = 1
       ·have hw : wR K d1 d2 T = dfT (eK 2 1 1) T := by
         unfold wR
         rw [if_pos hpl,hpl.1,hpl.2.1,hpl.2.2]
        rw [hw]
        exact real_ok1 T P d1 d2 K (by omega) hpl.2.1 hpl.2.2 (by omega) (by omega) (by omega)
       ·have hw : wR K d1 d2 T = upT (eK K d1 d2) T := by
         unfold wR
         rw [if_neg hpl]
        rw [hw]
        exact real_ok2 K T P d1 d2 (by omega) (by omega) hd1 hd2 c3 (by omega) (by omega) (by omega) hpl
   ·exact .inl ⟨16,by omega,by omega,real_e3 (by omega) hd1 hd2 c3⟩
  ·exact .inl ⟨15,by omega,by omega,real_e2 (by omega) r1 r2 c2⟩
theorem lawReal_good (k d1 d2 t prec : Int) (rk : -9223372036854775808 ≤ k ∧ k ≤ 9223372036854775807) (r1 : -9223372036854775808 ≤ d1 ∧ d1 ≤ 9223372036854775807) (r2 : -9223372036854775808 ≤ d2 ∧ d2 ≤ 9223372036854775807) (rt : -9223372036854775808 ≤ t ∧ t ≤ 9223372036854775807) (rp : -9223372036854775808 ≤ prec ∧ prec ≤ 9223372036854775807) : PureGood Tryz.prog 4 [.agg [i64 k,i64 d1,i64 d2,i64 t,i64 prec]] (.lit (.bool true)) := by
 have ha := awake_good
 have g0 := long_good prec
 by_cases hl : 40 < prec ∧ prec ≤ 1000
 ·rw [dec_t hl] at g0
  simp only [i64,bl] at *
  refine good_of_lwp mix Tryz.func4 rfl (by decide) (nt := 47) rfl (rs := [.tmp 2]) rfl (nle rfl) ?_
  (repeat (first|apply zO (by decide +kernel)|apply zP (by decide +kernel)|(apply zS;(case h=>constructor<;>decide))|((first|apply l_go rfl|apply c_dec|apply zT rfl (by decide) rfl);(case hs=>(simp (disch := first|omega|exact kD rfl|exact kX rfl) only [smY,simprocAttr,bl,i64,smT];exact rfl));first|refine c_bt ?_|refine c_bf ?_|refine zq ?_|(case hg=>assumption))))
  ((first|apply g_ret|apply g_end);case hres => (simp only [smR];simp (disch := first|omega|exact kD rfl|exact kX rfl) only [smY,simprocAttr,bl,i64,smT];exact rfl))
  simp (disch := first|omega|exact kD rfl|exact kX rfl) only [smY,simprocAttr,bl,i64,smT]
 ·rw [dec_f hl] at g0
  rcases real_spec k d1 d2 t prec rk r1 r2 rt rp with ⟨e,e1,e2,h1,h2⟩ | ⟨K,T,P,rfl,rfl,rfl,k1,k2,hd1,hd2,hpar,t1,t2,p1,hpl,h1,h2⟩
  ·have gs := same_list 0 (by omega) [] e (by simp) (by simp)
   unfold eR at h1 h2
   rw [show qc [] = [] from rfl,List.length_nil] at gs
   simp only [i64,bl] at *
   refine good_of_lwp mix Tryz.func4 rfl (by decide) (nt := 47) rfl (rs := [.tmp 2]) rfl (nle rfl) ?_
   (repeat (first|apply zO (by decide +kernel)|apply zP (by decide +kernel)|(apply zS;(case h=>constructor<;>decide))|((first|apply l_go rfl|apply c_dec|apply zT rfl (by decide) rfl);(case hs=>(simp (disch := first|omega|exact kD rfl|exact kX rfl) only [smY,simprocAttr,bl,i64,smT];exact rfl));first|refine c_bt ?_|refine c_bf ?_|refine zq ?_|(case hg=>assumption))))
   ((first|apply g_ret|apply g_end);case hres => (simp only [smR];simp (disch := first|omega|exact kD rfl|exact kX rfl) only [smY,simprocAttr,bl,i64,smT];exact rfl))
   simp (disch := first|omega|exact kD rfl|exact kX rfl) only [smY,simprocAttr,bl,i64,smT]
  ·obtain ⟨x,L,hR,hL,hx,hq⟩ := cSer_form2 0 (wR K d1 d2 T) P 2000 (fun i hi => lq_wR k1 k2 hd1 hd2 t1 t2 p1 hi)
   have gs := same_list x (by omega) L 0 (by omega) (fun q h => Nat.le_trans (hq q h) (by omega))
   rw [hR] at h1 h2
   simp only [i64,bl] at *
   refine good_of_lwp mix Tryz.func4 rfl (by decide) (nt := 47) rfl (rs := [.tmp 2]) rfl (nle rfl) ?_
   (repeat (first|apply zO (by decide +kernel)|apply zP (by decide +kernel)|(apply zS;(case h=>constructor<;>decide))|((first|apply l_go rfl|apply c_dec|apply zT rfl (by decide) rfl);(case hs=>(simp (disch := first|omega|exact kD rfl|exact kX rfl) only [smY,simprocAttr,bl,i64,smT];exact rfl));first|refine c_bt ?_|refine c_bf ?_|refine zq ?_|(case hg=>assumption))))
   ((first|apply g_ret|apply g_end);case hres => (simp only [smR];simp (disch := first|omega|exact kD rfl|exact kX rfl) only [smY,simprocAttr,bl,i64,smT];exact rfl))
   simp (disch := first|omega|exact kD rfl|exact kX rfl) only [smY,simprocAttr,bl,i64,smT]
end Go.Proofs.YteecamhdbilmoaaGreatDoor
namespace Go.Proofs.YteecamhdbilmoaaGreatDoor
open Go Go.Lg Go.ChangeShapes Go.WideShapes Go.ChangeAt Go.RowKit
set_option maxRecDepth 100000
theorem cDat : Tryz.prog.cellsOf 35 = 5 := by kernel_rfl
theorem cIntD : Tryz.prog.cellsOf 3 = 1 := by kernel_rfl
section
variable {H : Type} {enc : TypeId × Value → H} {w : World} {base : Nat} {spare : Nat → Bool} {held : Bool}
def datV (a b c e f : Int) : Value := .agg #[.int .i64 a,.int .i64 b,.int .i64 c,.int .i64 e,.int .i64 f]
def datD (a b c e f : Int) : DataW H := .agg [.lit (.int .i64 a),.lit (.int .i64 b),.lit (.int .i64 c),.lit (.int .i64 e),.lit (.int .i64 f)]
theorem open_dat {r : Reach} {b0 : Nat} {v : Value} {d : DataW H} {ps : List MemPlace} (hval : Value.okWide Tryz.prog w r b0 35 v) (hd : DataW.Trod enc Tryz.prog w base spare held 35 v d ps) :
  ∃ a b c e f,v = datV a b c e f ∧ d = datD a b c e f ∧ ps = [] ∧ (Lit.int .i64 a).wf = true ∧ (Lit.int .i64 b).wf = true ∧ (Lit.int .i64 c).wf = true ∧ (Lit.int .i64 e).wf = true ∧ (Lit.int .i64 f).wf = true := by
 obtain ⟨cs,rfl,h2⟩ := okWide_struct Tryz.underlying35 hval
 rw [cDat] at h2
 obtain ⟨fuel,hf⟩ := hd
 obtain ⟨xs,n,rfl,hx,hlen,hn,hel⟩ := DataW.trod_struct Tryz.underlying35 hf
 obtain ⟨l⟩ := cs
 match l,h2 with
 | [c0,c1,c2,c3,c4],_ =>
   match xs,hn with
   | [x0,x1,x2,x3,x4],_ =>
     have hc : (Value.agg #[c0,c1,c2,c3,c4]).cells = #[c0,c1,c2,c3,c4] := rfl
     have e0 : DataW.trod enc Tryz.prog w base spare held n 3 (([c0,c1,c2,c3,c4].drop 0).take (Tryz.prog.cellsOf 3)) = some x0 := hel 0 _ rfl
     have e1 : DataW.trod enc Tryz.prog w base spare held n 3 (([c0,c1,c2,c3,c4].drop 1).take (Tryz.prog.cellsOf 3)) = some x1 := hel 1 _ rfl
     have e2 : DataW.trod enc Tryz.prog w base spare held n 3 (([c0,c1,c2,c3,c4].drop 2).take (Tryz.prog.cellsOf 3)) = some x2 := hel 2 _ rfl
     have e3 : DataW.trod enc Tryz.prog w base spare held n 3 (([c0,c1,c2,c3,c4].drop 3).take (Tryz.prog.cellsOf 3)) = some x3 := hel 3 _ rfl
     have e4 : DataW.trod enc Tryz.prog w base spare held n 3 (([c0,c1,c2,c3,c4].drop 4).take (Tryz.prog.cellsOf 3)) = some x4 := hel 4 _ rfl
     simp only [hc,cIntD,List.drop_zero,List.drop_succ_cons,List.take_succ_cons,List.take_zero,List.getElem?_cons_zero,List.getElem?_cons_succ] at e0 e1 e2 e3 e4
     obtain ⟨a0,a1,rfl,w0⟩ := DataW.trod_int Tryz.underlying3 e0
     obtain ⟨b0,b1,rfl,w1⟩ := DataW.trod_int Tryz.underlying3 e1
     obtain ⟨g0,g1,rfl,w2⟩ := DataW.trod_int Tryz.underlying3 e2
     obtain ⟨h0,h1,rfl,w3⟩ := DataW.trod_int Tryz.underlying3 e3
     obtain ⟨k0,k1,rfl,w4⟩ := DataW.trod_int Tryz.underlying3 e4
     simp only [List.cons.injEq,and_true] at a1 b1 g1 h1 k1
     subst a1 b1 g1 h1 k1
     obtain ⟨hx1,hx2⟩ := Prod.mk.inj hx
     exact ⟨_,_,_,_,_,rfl,hx1,by simpa using hx2,w0,w1,w2,w3,w4⟩
theorem shut_dat {a b c e f : Int} (w0 : (Lit.int .i64 a).wf = true) (w1 : (Lit.int .i64 b).wf = true) (w2 : (Lit.int .i64 c).wf = true) (w3 : (Lit.int .i64 e).wf = true) (w4 : (Lit.int .i64 f).wf = true) :
  DataW.Trod enc Tryz.prog w base spare held 35 (datV a b c e f) (datD a b c e f) [] := by
 have hc : (datV a b c e f).cells = #[.int .i64 a,.int .i64 b,.int .i64 c,.int .i64 e,.int .i64 f] := rfl
 refine ⟨2,?_⟩
 have := trod_struct_mk (enc := enc) (w := w) (base := base) (spare := spare) (held := held) (n := 1) (cs := [.int .i64 a,.int .i64 b,.int .i64 c,.int .i64 e,.int .i64 f]) (xs := [(.lit (.int .i64 a),[]),(.lit (.int .i64 b),[]),(.lit (.int .i64 c),[]),(.lit (.int .i64 e),[]),(.lit (.int .i64 f),[])]) Tryz.underlying35 (by rw [cDat];rfl) (by
  simp [cIntD,DataW.trod,Tryz.underlying3,w0,w1,w2,w3,w4])
 rw [hc]
 exact this
theorem rep_dat {St : Nat → Prop} {hp : Array Obj} {μ : Nat → Option (Nat × Nat)} (a b c e f : Int) : Rep St hp μ (.agg [.lit (.int .i64 a),.lit (.int .i64 b),.lit (.int .i64 c),.lit (.int .i64 e),.lit (.int .i64 f)]) (datV a b c e f) := by
 refine Rep.agg (us := [.int .i64 a,.int .i64 b,.int .i64 c,.int .i64 e,.int .i64 f]) rfl (by simp [Value.oneCell']) ?_
 intro j x u hc hu
 match j with
 | 0 => simp at hc hu;subst hc;subst hu;exact .lit _
 | 1 => simp at hc hu;subst hc;subst hu;exact .lit _
 | 2 => simp at hc hu;subst hc;subst hu;exact .lit _
 | 3 => simp at hc hu;subst hc;subst hu;exact .lit _
 | 4 => simp at hc hu;subst hc;subst hu;exact .lit _
 | j + 5 => simp at hc
end
end Go.Proofs.YteecamhdbilmoaaGreatDoor