/- Contracts of functions of the program, and what proves them (texts: P4 P5 L8 ClsD). -/
import Derived.Test.YteecamhdbilmoaaGreatDoorZEAO
import Derived.Test.YteecamhdbilmoaaGreatDoorZEFinEigenAB
set_option linter.all false
namespace Go.Proofs.YteecamhdbilmoaaGreatDoor
open Go Go.Lg Go.Num
set_option maxRecDepth 100000
set_option maxHeartbeats 8000000
attribute [local irreducible] Go.Lg.lrun Go.Lg.lwp Go.Lg.exThen Go.Lg.exBlk Go.Lg.keep Go.Lg.goodPost sg mg oc mC twP tw bq kr chi eK gB cSer
def progR (k d1 d2 t prec : Int) (r : LV) : Prop := PureGood Tryz.prog 16 [i64 k,i64 d1,i64 d2,i64 t,i64 prec] r
theorem preal_e1 {k d1 d2 t prec : Int} (h : k < 2 ∨ 40 < k) : progR k d1 d2 t prec (eR 2) := by
 unfold progR eR
 simp only [i64]
 by_cases c : k < 2
 ·
  refine good_of_lwp mix Tryz.func16 rfl (by decide) (nt := 83) rfl (rs := [.cell 10 26,.tmp 11]) rfl (nle rfl) ?_
  (repeat (first|apply zO (by decide +kernel)|apply zP (by decide +kernel)|(apply zS;(case h=>constructor<;>decide))|((first|apply l_go rfl|apply c_dec|apply zT rfl (by decide) rfl);(case hs=>(simp (disch := first|omega|exact kD rfl|exact kX rfl) only [smY,simprocAttr,bl,i64,smT];exact rfl));first|refine c_bt ?_|refine c_bf ?_|refine zq ?_|(case hg=>assumption))))
  ((first|apply g_ret|apply g_end);case hres => (simp only [smR];simp (disch := first|omega|exact kD rfl|exact kX rfl) only [smY,simprocAttr,bl,i64,smT];exact rfl))
  simp (disch := first|omega|exact kD rfl|exact kX rfl) only [smY,simprocAttr,bl,i64,smT]
 ·have c2 : 40 < k := by omega
  refine good_of_lwp mix Tryz.func16 rfl (by decide) (nt := 83) rfl (rs := [.cell 10 26,.tmp 11]) rfl (nle rfl) ?_
  (repeat (first|apply zO (by decide +kernel)|apply zP (by decide +kernel)|(apply zS;(case h=>constructor<;>decide))|((first|apply l_go rfl|apply c_dec|apply zT rfl (by decide) rfl);(case hs=>(simp (disch := first|omega|exact kD rfl|exact kX rfl) only [smY,simprocAttr,bl,i64,smT];exact rfl));first|refine c_bt ?_|refine c_bf ?_|refine zq ?_|(case hg=>assumption))))
  ((first|apply g_ret|apply g_end);case hres => (simp only [smR];simp (disch := first|omega|exact kD rfl|exact kX rfl) only [smY,simprocAttr,bl,i64,smT];exact rfl))
  simp (disch := first|omega|exact kD rfl|exact kX rfl) only [smY,simprocAttr,bl,i64,smT]
theorem preal_e2 {k d1 d2 t prec : Int} (hk : 2 ≤ k ∧ k ≤ 40) (r1 : -9223372036854775808 ≤ d1 ∧ d1 ≤ 9223372036854775807) (r2 : -9223372036854775808 ≤ d2 ∧ d2 ≤ 9223372036854775807) (h : ¬ (d1 ∈ fdL ∧ d2 ∈ fdL)) : progR k d1 d2 t prec (eR 15) := by
 obtain ⟨q1,q1'⟩ := qd_good d1 r1
 obtain ⟨q2,q2'⟩ := qd_good d2 r2
 unfold progR eR
 by_cases c : d1 ∈ fdL
 ·have e1 : fdL.contains d1 = true := List.contains_iff_mem.2 c
  have e2 : fdL.contains d2 = false := by
   cases e : fdL.contains d2 with
   | false => rfl
   | true => exact absurd ⟨c,List.contains_iff_mem.1 e⟩ h
  rw [e1] at q1 q1'
  rw [e2] at q2 q2'
  simp only [i64,bl] at *
  refine good_of_lwp mix Tryz.func16 rfl (by decide) (nt := 83) rfl (rs := [.cell 10 26,.tmp 11]) rfl (nle rfl) ?_
  (repeat (first|apply zO (by decide +kernel)|apply zP (by decide +kernel)|(apply zS;(case h=>constructor<;>decide))|((first|apply l_go rfl|apply c_dec|apply zT rfl (by decide) rfl);(case hs=>(simp (disch := first|omega|exact kD rfl|exact kX rfl) only [smY,simprocAttr,bl,i64,smT];exact rfl));first|refine c_bt ?_|refine c_bf ?_|refine zq ?_|(case hg=>assumption))))
  ((first|apply g_ret|apply g_end);case hres => (simp only [smR];simp (disch := first|omega|exact kD rfl|exact kX rfl) only [smY,simprocAttr,bl,i64,smT];exact rfl))
  simp (disch := first|omega|exact kD rfl|exact kX rfl) only [smY,simprocAttr,bl,i64,smT]
 ·have e1 : fdL.contains d1 = false := by
   cases e : fdL.contains d1 with
   | false => rfl
   | true => exact absurd (List.contains_iff_mem.1 e) c
  rw [e1] at q1 q1'
  simp only [i64,bl] at *
  refine good_of_lwp mix Tryz.func16 rfl (by decide) (nt := 83) rfl (rs := [.cell 10 26,.tmp 11]) rfl (nle rfl) ?_
  (repeat (first|apply zO (by decide +kernel)|apply zP (by decide +kernel)|(apply zS;(case h=>constructor<;>decide))|((first|apply l_go rfl|apply c_dec|apply zT rfl (by decide) rfl);(case hs=>(simp (disch := first|omega|exact kD rfl|exact kX rfl) only [smY,simprocAttr,bl,i64,smT];exact rfl));first|refine c_bt ?_|refine c_bf ?_|refine zq ?_|(case hg=>assumption))))
  refine l_cskip rfl (by decide) rfl ?_
  (repeat (first|apply zO (by decide +kernel)|apply zP (by decide +kernel)|(apply zS;(case h=>constructor<;>decide))|((first|apply l_go rfl|apply c_dec|apply zT rfl (by decide) rfl);(case hs=>(simp (disch := first|omega|exact kD rfl|exact kX rfl) only [smY,simprocAttr,bl,i64,smT];exact rfl));first|refine c_bt ?_|refine c_bf ?_|refine zq ?_|(case hg=>assumption))))
  ((first|apply g_ret|apply g_end);case hres => (simp only [smR];simp (disch := first|omega|exact kD rfl|exact kX rfl) only [smY,simprocAttr,bl,i64,smT];exact rfl))
  simp (disch := first|omega|exact kD rfl|exact kX rfl) only [smY,simprocAttr,bl,i64,smT]
theorem preal_e3 {k d1 d2 t prec : Int} (hk : 2 ≤ k ∧ k ≤ 40) (hd1 : d1 ∈ fdL) (hd2 : d2 ∈ fdL) (h : ¬ (decide (0 < d1 * d2) = decide (k % 2 = 0))) : progR k d1 d2 t prec (eR 16) := by
 obtain ⟨n1,r1⟩ := fd_rng hd1
 obtain ⟨n2,r2⟩ := fd_rng hd2
 obtain ⟨q1,q1'⟩ := qd_good d1 (by omega)
 obtain ⟨q2,q2'⟩ := qd_good d2 (by omega)
 rw [List.contains_iff_mem.2 hd1] at q1 q1'
 rw [List.contains_iff_mem.2 hd2] at q2 q2'
 simp only [i64,bl] at q1 q1' q2 q2'
 have hm := mul_rng r1 r2
 have hp := par_eq n1 n2
 have hx : (decide (d1 * d2 > 0) != (k % 2 == 0)) = true := by
  have e : (k % 2 == 0) = decide (k % 2 = 0) := by by_cases c : k % 2 = 0 <;> simp [c]
  rw [e]
  show (decide (0 < d1 * d2) != decide (k % 2 = 0)) = true
  cases h1 : decide (0 < d1 * d2) <;> cases h2 : decide (k % 2 = 0) <;> simp_all
 have hy : ((decide (d1 > 0) == decide (d2 > 0)) != (k % 2 == 0)) = true := by
  have e : (decide (d1 > 0) == decide (d2 > 0)) = decide (d1 * d2 > 0) := hp
  rw [e]
  exact hx
 clear h
 unfold progR eR
 simp only [i64]
 refine good_of_lwp mix Tryz.func16 rfl (by decide) (nt := 83) rfl (rs := [.cell 10 26,.tmp 11]) rfl (nle rfl) ?_
 (repeat (first|apply zO (by decide +kernel)|apply zP (by decide +kernel)|(apply zS;(case h=>constructor<;>decide))|((first|apply l_go rfl|apply c_dec|apply zT rfl (by decide) rfl);(case hs=>(simp (disch := first|omega|exact kD rfl|exact kX rfl) only [smY,simprocAttr,bl,i64,smT,hx,hy];exact rfl));first|refine c_bt ?_|refine c_bf ?_|refine zq ?_|(case hg=>assumption))))
 ((first|apply g_ret|apply g_end);case hres => (simp only [smR];simp (disch := first|omega|exact kD rfl|exact kX rfl) only [smY,simprocAttr,bl,i64,smT,hx,hy];exact rfl))
 simp (disch := first|omega|exact kD rfl|exact kX rfl) only [smY,simprocAttr,bl,i64,smT,hx,hy]
theorem preal_e4 {k d1 d2 t prec : Int} (hk : 2 ≤ k ∧ k ≤ 40) (hd1 : d1 ∈ fdL) (hd2 : d2 ∈ fdL) (h : decide (0 < d1 * d2) = decide (k % 2 = 0)) (ht : t < 1 ∨ 1000 < t) : progR k d1 d2 t prec (eR 2) := by
 obtain ⟨n1,r1⟩ := fd_rng hd1
 obtain ⟨n2,r2⟩ := fd_rng hd2
 obtain ⟨q1,q1'⟩ := qd_good d1 (by omega)
 obtain ⟨q2,q2'⟩ := qd_good d2 (by omega)
 rw [List.contains_iff_mem.2 hd1] at q1 q1'
 rw [List.contains_iff_mem.2 hd2] at q2 q2'
 simp only [i64,bl] at q1 q1' q2 q2'
 have hm := mul_rng r1 r2
 have hp := par_eq n1 n2
 have hx : (decide (d1 * d2 > 0) != (k % 2 == 0)) = false := by
  have e : (k % 2 == 0) = decide (k % 2 = 0) := by by_cases c : k % 2 = 0 <;> simp [c]
  rw [e]
  show (decide (0 < d1 * d2) != decide (k % 2 = 0)) = false
  cases h1 : decide (0 < d1 * d2) <;> cases h2 : decide (k % 2 = 0) <;> simp_all
 have hy : ((decide (d1 > 0) == decide (d2 > 0)) != (k % 2 == 0)) = false := by
  have e : (decide (d1 > 0) == decide (d2 > 0)) = decide (d1 * d2 > 0) := hp
  rw [e]
  exact hx
 clear hx hy
 unfold progR eR
 simp only [i64]
 by_cases c : t < 1
 ·
  by_cases c0 : k % 2 = 0
  ·
   have c0 : k % 2 = 0 := by omega
   have hs : 0 < d1 * d2 := of_decide_eq_true (h.trans (decide_eq_true c0))
   have hz : (decide (d1 > 0) == decide (d2 > 0)) = true := hp.trans (decide_eq_true hs)
   refine good_of_lwp mix Tryz.func16 rfl (by decide) (nt := 83) rfl (rs := [.cell 10 26,.tmp 11]) rfl (nle rfl) ?_
   (repeat (first|apply zO (by decide +kernel)|apply zP (by decide +kernel)|(apply zS;(case h=>constructor<;>decide))|((first|apply l_go rfl|apply c_dec|apply zT rfl (by decide) rfl);(case hs=>(simp (disch := first|omega|exact kD rfl|exact kX rfl) only [smY,simprocAttr,bl,i64,smT,hz];exact rfl));first|refine c_bt ?_|refine c_bf ?_|refine zq ?_|(case hg=>assumption))))
   ((first|apply g_ret|apply g_end);case hres => (simp only [smR];simp (disch := first|omega|exact kD rfl|exact kX rfl) only [smY,simprocAttr,bl,i64,smT,hz];exact rfl))
   simp (disch := first|omega|exact kD rfl|exact kX rfl) only [smY,simprocAttr,bl,i64,smT,hz]
  ·have hs : ¬ 0 < d1 * d2 := of_decide_eq_false (h.trans (decide_eq_false c0))
   have hz : (decide (d1 > 0) == decide (d2 > 0)) = false := hp.trans (decide_eq_false hs)
   refine good_of_lwp mix Tryz.func16 rfl (by decide) (nt := 83) rfl (rs := [.cell 10 26,.tmp 11]) rfl (nle rfl) ?_
   (repeat (first|apply zO (by decide +kernel)|apply zP (by decide +kernel)|(apply zS;(case h=>constructor<;>decide))|((first|apply l_go rfl|apply c_dec|apply zT rfl (by decide) rfl);(case hs=>(simp (disch := first|omega|exact kD rfl|exact kX rfl) only [smY,simprocAttr,bl,i64,smT,hz];exact rfl));first|refine c_bt ?_|refine c_bf ?_|refine zq ?_|(case hg=>assumption))))
   ((first|apply g_ret|apply g_end);case hres => (simp only [smR];simp (disch := first|omega|exact kD rfl|exact kX rfl) only [smY,simprocAttr,bl,i64,smT,hz];exact rfl))
   simp (disch := first|omega|exact kD rfl|exact kX rfl) only [smY,simprocAttr,bl,i64,smT,hz]
 ·have c2 : 1000 < t := by omega
  by_cases c0 : k % 2 = 0
  ·
   have c0 : k % 2 = 0 := by omega
   have hs : 0 < d1 * d2 := of_decide_eq_true (h.trans (decide_eq_true c0))
   have hz : (decide (d1 > 0) == decide (d2 > 0)) = true := hp.trans (decide_eq_true hs)
   refine good_of_lwp mix Tryz.func16 rfl (by decide) (nt := 83) rfl (rs := [.cell 10 26,.tmp 11]) rfl (nle rfl) ?_
   (repeat (first|apply zO (by decide +kernel)|apply zP (by decide +kernel)|(apply zS;(case h=>constructor<;>decide))|((first|apply l_go rfl|apply c_dec|apply zT rfl (by decide) rfl);(case hs=>(simp (disch := first|omega|exact kD rfl|exact kX rfl) only [smY,simprocAttr,bl,i64,smT,hz];exact rfl));first|refine c_bt ?_|refine c_bf ?_|refine zq ?_|(case hg=>assumption))))
   ((first|apply g_ret|apply g_end);case hres => (simp only [smR];simp (disch := first|omega|exact kD rfl|exact kX rfl) only [smY,simprocAttr,bl,i64,smT,hz];exact rfl))
   simp (disch := first|omega|exact kD rfl|exact kX rfl) only [smY,simprocAttr,bl,i64,smT,hz]
  ·have hs : ¬ 0 < d1 * d2 := of_decide_eq_false (h.trans (decide_eq_false c0))
   have hz : (decide (d1 > 0) == decide (d2 > 0)) = false := hp.trans (decide_eq_false hs)
   refine good_of_lwp mix Tryz.func16 rfl (by decide) (nt := 83) rfl (rs := [.cell 10 26,.tmp 11]) rfl (nle rfl) ?_
   (repeat (first|apply zO (by decide +kernel)|apply zP (by decide +kernel)|(apply zS;(case h=>constructor<;>decide))|((first|apply l_go rfl|apply c_dec|apply zT rfl (by decide) rfl);(case hs=>(simp (disch := first|omega|exact kD rfl|exact kX rfl) only [smY,simprocAttr,bl,i64,smT,hz];exact rfl));first|refine c_bt ?_|refine c_bf ?_|refine zq ?_|(case hg=>assumption))))
   ((first|apply g_ret|apply g_end);case hres => (simp only [smR];simp (disch := first|omega|exact kD rfl|exact kX rfl) only [smY,simprocAttr,bl,i64,smT,hz];exact rfl))
   simp (disch := first|omega|exact kD rfl|exact kX rfl) only [smY,simprocAttr,bl,i64,smT,hz]
theorem preal_e5 {d1 d2 t prec : Int} (k : Int) (hkk : k = 2) (h1 : d1 = 1) (h2 : d2 = 1) (ht : t = 1) : progR k d1 d2 t prec (eR 20) := by
 have hd1 : d1 ∈ fdL := by rw [h1];decide
 have hd2 : d2 ∈ fdL := by rw [h2];decide
 have h : decide (0 < d1 * d2) = decide (k % 2 = 0) := by rw [h1,h2,hkk];rfl
 obtain ⟨n1,r1⟩ := fd_rng hd1
 obtain ⟨n2,r2⟩ := fd_rng hd2
 obtain ⟨q1,q1'⟩ := qd_good d1 (by omega)
 obtain ⟨q2,q2'⟩ := qd_good d2 (by omega)
 rw [List.contains_iff_mem.2 hd1] at q1 q1'
 rw [List.contains_iff_mem.2 hd2] at q2 q2'
 simp only [i64,bl] at q1 q1' q2 q2'
 have hm := mul_rng r1 r2
 have hp := par_eq n1 n2
 have hx : (decide (d1 * d2 > 0) != (k % 2 == 0)) = false := by
  have e : (k % 2 == 0) = decide (k % 2 = 0) := by by_cases c : k % 2 = 0 <;> simp [c]
  rw [e]
  show (decide (0 < d1 * d2) != decide (k % 2 = 0)) = false
  cases h1 : decide (0 < d1 * d2) <;> cases h2 : decide (k % 2 = 0) <;> simp_all
 have hy : ((decide (d1 > 0) == decide (d2 > 0)) != (k % 2 == 0)) = false := by
  have e : (decide (d1 > 0) == decide (d2 > 0)) = decide (d1 * d2 > 0) := hp
  rw [e]
  exact hx
 clear hx hy
 unfold progR eR
 simp only [i64]
 have c0 : k % 2 = 0 := by omega
 have hs : 0 < d1 * d2 := of_decide_eq_true (h.trans (decide_eq_true c0))
 have hz : (decide (d1 > 0) == decide (d2 > 0)) = true := hp.trans (decide_eq_true hs)
 refine good_of_lwp mix Tryz.func16 rfl (by decide) (nt := 83) rfl (rs := [.cell 10 26,.tmp 11]) rfl (nle rfl) ?_
 (repeat (first|apply zO (by decide +kernel)|apply zP (by decide +kernel)|(apply zS;(case h=>constructor<;>decide))|((first|apply l_go rfl|apply c_dec|apply zT rfl (by decide) rfl);(case hs=>(simp (disch := first|omega|exact kD rfl|exact kX rfl) only [smY,simprocAttr,bl,i64,smT,hz];exact rfl));first|refine c_bt ?_|refine c_bf ?_|refine zq ?_|(case hg=>assumption))))
 ((first|apply g_ret|apply g_end);case hres => (simp only [smR];simp (disch := first|omega|exact kD rfl|exact kX rfl) only [smY,simprocAttr,bl,i64,smT,hz];exact rfl))
 simp (disch := first|omega|exact kD rfl|exact kX rfl) only [smY,simprocAttr,bl,i64,smT,hz]
theorem preal_e6 {k d1 d2 t prec : Int} (hk : 2 ≤ k ∧ k ≤ 40) (hd1 : d1 ∈ fdL) (hd2 : d2 ∈ fdL) (h : decide (0 < d1 * d2) = decide (k % 2 = 0)) (ht : 1 ≤ t ∧ t ≤ 1000) (hpl : ¬ (k = 2 ∧ d1 = 1 ∧ d2 = 1 ∧ t = 1)) (rp : -9223372036854775808 ≤ prec ∧ prec ≤ 9223372036854775807) (hpr : prec < 0 ∨ 1000 < prec) : progR k d1 d2 t prec (eR 2) := by
 obtain ⟨n1,r1⟩ := fd_rng hd1
 obtain ⟨n2,r2⟩ := fd_rng hd2
 obtain ⟨q1,q1'⟩ := qd_good d1 (by omega)
 obtain ⟨q2,q2'⟩ := qd_good d2 (by omega)
 rw [List.contains_iff_mem.2 hd1] at q1 q1'
 rw [List.contains_iff_mem.2 hd2] at q2 q2'
 simp only [i64,bl] at q1 q1' q2 q2'
 have hm := mul_rng r1 r2
 have hp := par_eq n1 n2
 have hx : (decide (d1 * d2 > 0) != (k % 2 == 0)) = false := by
  have e : (k % 2 == 0) = decide (k % 2 = 0) := by by_cases c : k % 2 = 0 <;> simp [c]
  rw [e]
  show (decide (0 < d1 * d2) != decide (k % 2 = 0)) = false
  cases h1 : decide (0 < d1 * d2) <;> cases h2 : decide (k % 2 = 0) <;> simp_all
 have hy : ((decide (d1 > 0) == decide (d2 > 0)) != (k % 2 == 0)) = false := by
  have e : (decide (d1 > 0) == decide (d2 > 0)) = decide (d1 * d2 > 0) := hp
  rw [e]
  exact hx
 clear hx hy
 have gi := inside_good prec rp
 rw [dec_f (by omega)] at gi
 unfold progR eR
 simp only [i64,bl] at *
 by_cases e1 : k = 2
 ·by_cases e2 : d1 = 1
  ·by_cases e3 : d2 = 1
   ·have e4 : ¬ t = 1 := fun e => hpl ⟨e1,e2,e3,e⟩
    by_cases c : prec < 0
    ·
     have c0 : k % 2 = 0 := by omega
     have hs : 0 < d1 * d2 := of_decide_eq_true (h.trans (decide_eq_true c0))
     have hz : (decide (d1 > 0) == decide (d2 > 0)) = true := hp.trans (decide_eq_true hs)
     refine good_of_lwp mix Tryz.func16 rfl (by decide) (nt := 83) rfl (rs := [.cell 10 26,.tmp 11]) rfl (nle rfl) ?_
     (repeat (first|apply zO (by decide +kernel)|apply zP (by decide +kernel)|(apply zS;(case h=>constructor<;>decide))|((first|apply l_go rfl|apply c_dec|apply zT rfl (by decide) rfl);(case hs=>(simp (disch := first|omega|exact kD rfl|exact kX rfl) only [smY,simprocAttr,bl,i64,smT,hz];exact rfl));first|refine c_bt ?_|refine c_bf ?_|refine zq ?_|(case hg=>assumption))))
     ((first|apply g_ret|apply g_end);case hres => (simp only [smR];simp (disch := first|omega|exact kD rfl|exact kX rfl) only [smY,simprocAttr,bl,i64,smT,hz];exact rfl))
     simp (disch := first|omega|exact kD rfl|exact kX rfl) only [smY,simprocAttr,bl,i64,smT,hz]
    ·have c2 : 1000 < prec := by omega
     have c0 : k % 2 = 0 := by omega
     have hs : 0 < d1 * d2 := of_decide_eq_true (h.trans (decide_eq_true c0))
     have hz : (decide (d1 > 0) == decide (d2 > 0)) = true := hp.trans (decide_eq_true hs)
     refine good_of_lwp mix Tryz.func16 rfl (by decide) (nt := 83) rfl (rs := [.cell 10 26,.tmp 11]) rfl (nle rfl) ?_
     (repeat (first|apply zO (by decide +kernel)|apply zP (by decide +kernel)|(apply zS;(case h=>constructor<;>decide))|((first|apply l_go rfl|apply c_dec|apply zT rfl (by decide) rfl);(case hs=>(simp (disch := first|omega|exact kD rfl|exact kX rfl) only [smY,simprocAttr,bl,i64,smT,hz];exact rfl));first|refine c_bt ?_|refine c_bf ?_|refine zq ?_|(case hg=>assumption))))
     ((first|apply g_ret|apply g_end);case hres => (simp only [smR];simp (disch := first|omega|exact kD rfl|exact kX rfl) only [smY,simprocAttr,bl,i64,smT,hz];exact rfl))
     simp (disch := first|omega|exact kD rfl|exact kX rfl) only [smY,simprocAttr,bl,i64,smT,hz]
   ·have hs0 : 0 < d1 * d2 := of_decide_eq_true (h.trans (decide_eq_true (by omega)))
    have hd2p : 0 < d2 := by rw [e2,Int.one_mul] at hs0;exact hs0
    by_cases c : prec < 0
    ·
     have c0 : k % 2 = 0 := by omega
     have hs : 0 < d1 * d2 := of_decide_eq_true (h.trans (decide_eq_true c0))
     have hz : (decide (d1 > 0) == decide (d2 > 0)) = true := hp.trans (decide_eq_true hs)
     refine good_of_lwp mix Tryz.func16 rfl (by decide) (nt := 83) rfl (rs := [.cell 10 26,.tmp 11]) rfl (nle rfl) ?_
     (repeat (first|apply zO (by decide +kernel)|apply zP (by decide +kernel)|(apply zS;(case h=>constructor<;>decide))|((first|apply l_go rfl|apply c_dec|apply zT rfl (by decide) rfl);(case hs=>(simp (disch := first|omega|exact kD rfl|exact kX rfl) only [smY,simprocAttr,bl,i64,smT,hz];exact rfl));first|refine c_bt ?_|refine c_bf ?_|refine zq ?_|(case hg=>assumption))))
     ((first|apply g_ret|apply g_end);case hres => (simp only [smR];simp (disch := first|omega|exact kD rfl|exact kX rfl) only [smY,simprocAttr,bl,i64,smT,hz];exact rfl))
     simp (disch := first|omega|exact kD rfl|exact kX rfl) only [smY,simprocAttr,bl,i64,smT,hz]
    ·have c2 : 1000 < prec := by omega
     have c0 : k % 2 = 0 := by omega
     have hs : 0 < d1 * d2 := of_decide_eq_true (h.trans (decide_eq_true c0))
     have hz : (decide (d1 > 0) == decide (d2 > 0)) = true := hp.trans (decide_eq_true hs)
     refine good_of_lwp mix Tryz.func16 rfl (by decide) (nt := 83) rfl (rs := [.cell 10 26,.tmp 11]) rfl (nle rfl) ?_
     (repeat (first|apply zO (by decide +kernel)|apply zP (by decide +kernel)|(apply zS;(case h=>constructor<;>decide))|((first|apply l_go rfl|apply c_dec|apply zT rfl (by decide) rfl);(case hs=>(simp (disch := first|omega|exact kD rfl|exact kX rfl) only [smY,simprocAttr,bl,i64,smT,hz];exact rfl));first|refine c_bt ?_|refine c_bf ?_|refine zq ?_|(case hg=>assumption))))
     ((first|apply g_ret|apply g_end);case hres => (simp only [smR];simp (disch := first|omega|exact kD rfl|exact kX rfl) only [smY,simprocAttr,bl,i64,smT,hz];exact rfl))
     simp (disch := first|omega|exact kD rfl|exact kX rfl) only [smY,simprocAttr,bl,i64,smT,hz]
  ·
   by_cases c : prec < 0
   ·
    have c0 : k % 2 = 0 := by omega
    have hs : 0 < d1 * d2 := of_decide_eq_true (h.trans (decide_eq_true c0))
    have hz : (decide (d1 > 0) == decide (d2 > 0)) = true := hp.trans (decide_eq_true hs)
    refine good_of_lwp mix Tryz.func16 rfl (by decide) (nt := 83) rfl (rs := [.cell 10 26,.tmp 11]) rfl (nle rfl) ?_
    (repeat (first|apply zO (by decide +kernel)|apply zP (by decide +kernel)|(apply zS;(case h=>constructor<;>decide))|((first|apply l_go rfl|apply c_dec|apply zT rfl (by decide) rfl);(case hs=>(simp (disch := first|omega|exact kD rfl|exact kX rfl) only [smY,simprocAttr,bl,i64,smT,hz];exact rfl));first|refine c_bt ?_|refine c_bf ?_|refine zq ?_|(case hg=>assumption))))
    ((first|apply g_ret|apply g_end);case hres => (simp only [smR];simp (disch := first|omega|exact kD rfl|exact kX rfl) only [smY,simprocAttr,bl,i64,smT,hz];exact rfl))
    simp (disch := first|omega|exact kD rfl|exact kX rfl) only [smY,simprocAttr,bl,i64,smT,hz]
   ·have c2 : 1000 < prec := by omega
    have c0 : k % 2 = 0 := by omega
    have hs : 0 < d1 * d2 := of_decide_eq_true (h.trans (decide_eq_true c0))
    have hz : (decide (d1 > 0) == decide (d2 > 0)) = true := hp.trans (decide_eq_true hs)
    refine good_of_lwp mix Tryz.func16 rfl (by decide) (nt := 83) rfl (rs := [.cell 10 26,.tmp 11]) rfl (nle rfl) ?_
    (repeat (first|apply zO (by decide +kernel)|apply zP (by decide +kernel)|(apply zS;(case h=>constructor<;>decide))|((first|apply l_go rfl|apply c_dec|apply zT rfl (by decide) rfl);(case hs=>(simp (disch := first|omega|exact kD rfl|exact kX rfl) only [smY,simprocAttr,bl,i64,smT,hz];exact rfl));first|refine c_bt ?_|refine c_bf ?_|refine zq ?_|(case hg=>assumption))))
    ((first|apply g_ret|apply g_end);case hres => (simp only [smR];simp (disch := first|omega|exact kD rfl|exact kX rfl) only [smY,simprocAttr,bl,i64,smT,hz];exact rfl))
    simp (disch := first|omega|exact kD rfl|exact kX rfl) only [smY,simprocAttr,bl,i64,smT,hz]
 ·
  by_cases c : prec < 0
  ·
   by_cases c0 : k % 2 = 0
   ·
    have c0 : k % 2 = 0 := by omega
    have hs : 0 < d1 * d2 := of_decide_eq_true (h.trans (decide_eq_true c0))
    have hz : (decide (d1 > 0) == decide (d2 > 0)) = true := hp.trans (decide_eq_true hs)
    refine good_of_lwp mix Tryz.func16 rfl (by decide) (nt := 83) rfl (rs := [.cell 10 26,.tmp 11]) rfl (nle rfl) ?_
    (repeat (first|apply zO (by decide +kernel)|apply zP (by decide +kernel)|(apply zS;(case h=>constructor<;>decide))|((first|apply l_go rfl|apply c_dec|apply zT rfl (by decide) rfl);(case hs=>(simp (disch := first|omega|exact kD rfl|exact kX rfl) only [smY,simprocAttr,bl,i64,smT,hz];exact rfl));first|refine c_bt ?_|refine c_bf ?_|refine zq ?_|(case hg=>assumption))))
    ((first|apply g_ret|apply g_end);case hres => (simp only [smR];simp (disch := first|omega|exact kD rfl|exact kX rfl) only [smY,simprocAttr,bl,i64,smT,hz];exact rfl))
    simp (disch := first|omega|exact kD rfl|exact kX rfl) only [smY,simprocAttr,bl,i64,smT,hz]
   ·have hs : ¬ 0 < d1 * d2 := of_decide_eq_false (h.trans (decide_eq_false c0))
    have hz : (decide (d1 > 0) == decide (d2 > 0)) = false := hp.trans (decide_eq_false hs)
    refine good_of_lwp mix Tryz.func16 rfl (by decide) (nt := 83) rfl (rs := [.cell 10 26,.tmp 11]) rfl (nle rfl) ?_
    (repeat (first|apply zO (by decide +kernel)|apply zP (by decide +kernel)|(apply zS;(case h=>constructor<;>decide))|((first|apply l_go rfl|apply c_dec|apply zT rfl (by decide) rfl);(case hs=>(simp (disch := first|omega|exact kD rfl|exact kX rfl) only [smY,simprocAttr,bl,i64,smT,hz];exact rfl));first|refine c_bt ?_|refine c_bf ?_|refine zq ?_|(case hg=>assumption))))
    ((first|apply g_ret|apply g_end);case hres => (simp only [smR];simp (disch := first|omega|exact kD rfl|exact kX rfl) only [smY,simprocAttr,bl,i64,smT,hz];exact rfl))
    simp (disch := first|omega|exact kD rfl|exact kX rfl) only [smY,simprocAttr,bl,i64,smT,hz]
  ·have c2 : 1000 < prec := by omega
   by_cases c0 : k % 2 = 0
   ·
    have c0 : k % 2 = 0 := by omega
    have hs : 0 < d1 * d2 := of_decide_eq_true (h.trans (decide_eq_true c0))
    have hz : (decide (d1 > 0) == decide (d2 > 0)) = true := hp.trans (decide_eq_true hs)
    refine good_of_lwp mix Tryz.func16 rfl (by decide) (nt := 83) rfl (rs := [.cell 10 26,.tmp 11]) rfl (nle rfl) ?_
    (repeat (first|apply zO (by decide +kernel)|apply zP (by decide +kernel)|(apply zS;(case h=>constructor<;>decide))|((first|apply l_go rfl|apply c_dec|apply zT rfl (by decide) rfl);(case hs=>(simp (disch := first|omega|exact kD rfl|exact kX rfl) only [smY,simprocAttr,bl,i64,smT,hz];exact rfl));first|refine c_bt ?_|refine c_bf ?_|refine zq ?_|(case hg=>assumption))))
    ((first|apply g_ret|apply g_end);case hres => (simp only [smR];simp (disch := first|omega|exact kD rfl|exact kX rfl) only [smY,simprocAttr,bl,i64,smT,hz];exact rfl))
    simp (disch := first|omega|exact kD rfl|exact kX rfl) only [smY,simprocAttr,bl,i64,smT,hz]
   ·have hs : ¬ 0 < d1 * d2 := of_decide_eq_false (h.trans (decide_eq_false c0))
    have hz : (decide (d1 > 0) == decide (d2 > 0)) = false := hp.trans (decide_eq_false hs)
    refine good_of_lwp mix Tryz.func16 rfl (by decide) (nt := 83) rfl (rs := [.cell 10 26,.tmp 11]) rfl (nle rfl) ?_
    (repeat (first|apply zO (by decide +kernel)|apply zP (by decide +kernel)|(apply zS;(case h=>constructor<;>decide))|((first|apply l_go rfl|apply c_dec|apply zT rfl (by decide) rfl);(case hs=>(simp (disch := first|omega|exact kD rfl|exact kX rfl) only [smY,simprocAttr,bl,i64,smT,hz];exact rfl));first|refine c_bt ?_|refine c_bf ?_|refine zq ?_|(case hg=>assumption))))
    ((first|apply g_ret|apply g_end);case hres => (simp only [smR];simp (disch := first|omega|exact kD rfl|exact kX rfl) only [smY,simprocAttr,bl,i64,smT,hz];exact rfl))
    simp (disch := first|omega|exact kD rfl|exact kX rfl) only [smY,simprocAttr,bl,i64,smT,hz]
end Go.Proofs.YteecamhdbilmoaaGreatDoor
namespace Go.Proofs.YteecamhdbilmoaaGreatDoor
open Go Go.Lg Go.Num
set_option maxRecDepth 100000
set_option maxHeartbeats 8000000
attribute [local irreducible] Go.Lg.lrun Go.Lg.lwp Go.Lg.exThen Go.Lg.exBlk Go.Lg.keep Go.Lg.goodPost sg mg oc mC twP tw bq kr chi eK gB cSer op oqp
theorem preal_ok1 (t p : Nat) (d1 d2 k : Int) (ek : k = 2) (e1 : d1 = 1) (e2 : d2 = 1) (ht1 : 2 ≤ t) (ht : t ≤ 1000) (hp : p ≤ 1000) : progR k d1 d2 t p (.tup [cSer 0 (dfT (eK 2 1 1) t) p,i64 0]) := by
 have hd : (1 : Int) ∈ fdL := by decide
 have b0 : ∀ i,i < p → lq (eK 2 1 1 i) ≤ 30 := fun i hi => lq_eK21 (by omega)
 have gc := classical_good 2 p 1 1 hd hd (by omega) (by omega) hp
 have gr := raise1_good (eK 2 1 1) p t hp (by omega) ht (fun i hi => Nat.le_trans (b0 i hi) (by omega))
 have gn := snormal_all 0 (dfO (eK 2 1 1) t) (dfT (eK 2 1 1) t) p (fun i hi => rfl) (by omega) (by omega) (fun i hi => by
  have hpt : p ≤ t * p := Nat.le_mul_of_pos_left p (by omega)
  have h1 := b0 i hi
  have h2 : lq (upT (eK 2 1 1) t i) ≤ 30 := lq_upT b0 (by omega) (by omega : i < t * p)
  have h3 := lq_mul ((t : Int) : Rat) (upT (eK 2 1 1) t i)
  have h4 := lq_i64 (z := (t : Int)) (by omega)
  have h5 := lq_sub (eK 2 1 1 i) (((t : Int) : Rat) * upT (eK 2 1 1) t i)
  unfold dfT
  omega)
 rw [show oP (dfO (eK 2 1 1) t) p = oP (fun i => some (dfT (eK 2 1 1) t i)) p from rfl,aP_oP] at gn
 have gi := inside_good (p : Int) (by omega)
 rw [dec_t (by omega)] at gi
 have hl1 := aP_len (eK 2 1 1) p
 have hl2 := aP_len (dfT (eK 2 1 1) t) p
 obtain ⟨q1,q1'⟩ := qd_good 1 (by omega)
 rw [List.contains_iff_mem.2 hd] at q1 q1'
 generalize eK 2 1 1 = a at *
 generalize dfT a t = w at *
 obtain ⟨x2,M2,L2,hR2,hL2,hM2,hx2⟩ := cSer_form 0 w p
 rw [hR2] at gn ⊢
 clear hR2
 subst ek e1 e2
 unfold progR
 have ht1' : ¬ (t : Int) = 1 := by omega
 simp only [i64,bl] at *
 refine good_of_lwp mix Tryz.func16 rfl (by decide) (nt := 83) rfl (rs := [.cell 10 26,.tmp 11]) rfl (nle rfl) ?_
 (repeat (first|apply zO (by decide +kernel)|apply zP (by decide +kernel)|(apply zS;(case h=>constructor<;>decide))|((first|apply l_go rfl|apply c_dec|apply zT rfl (by decide) rfl);(case hs=>(simp (disch := first|omega|exact kD rfl|exact kX rfl) only [smY,simprocAttr,bl,i64,smT];exact rfl));first|refine c_bt ?_|refine c_bf ?_|refine zq ?_|(case hg=>assumption))))
 ((first|apply g_ret|apply g_end);case hres => (simp only [smR];simp (disch := first|omega|exact kD rfl|exact kX rfl) only [smY,simprocAttr,bl,i64,smT];exact rfl))
 simp (disch := first|omega|exact kD rfl|exact kX rfl) only [smY,simprocAttr,bl,i64,smT]
theorem preal_ok2 (k t p : Nat) (d1 d2 : Int) (hk1 : 2 ≤ k) (hk2 : k ≤ 40) (hd1 : d1 ∈ fdL) (hd2 : d2 ∈ fdL) (h : decide (0 < d1 * d2) = decide ((k : Int) % 2 = 0)) (ht1 : 1 ≤ t) (ht : t ≤ 1000) (hp : p ≤ 1000) (hpl : ¬ (k = 2 ∧ d1 = 1 ∧ d2 = 1)) : progR k d1 d2 t p (.tup [cSer 0 (upT (eK k d1 d2) t) p,i64 0]) := by
 obtain ⟨n1,r1⟩ := fd_rng hd1
 obtain ⟨n2,r2⟩ := fd_rng hd2
 obtain ⟨q1,q1'⟩ := qd_good d1 (by omega)
 obtain ⟨q2,q2'⟩ := qd_good d2 (by omega)
 rw [List.contains_iff_mem.2 hd1] at q1 q1'
 rw [List.contains_iff_mem.2 hd2] at q2 q2'
 simp only [i64,bl] at q1 q1' q2 q2'
 have hm := mul_rng r1 r2
 have hp' := par_eq n1 n2
 have hpp := hp
 have b0 : ∀ i,i < p → lq (eK k d1 d2 i) ≤ 410 := fun i hi => lq_eK (by omega) hk2 hd1 hd2 (by omega)
 have gc := classical_good k p d1 d2 hd1 hd2 hk1 hk2 hpp
 have gr := raise0_good (eK k d1 d2) p t hpp (by omega) ht
 have hpt : p ≤ t * p := Nat.le_mul_of_pos_left p (by omega)
 have gn := snormal_all 0 (upO (eK k d1 d2) t) (upT (eK k d1 d2) t) p (fun i hi => (upO_get _ _ _).symm) (by omega) (by omega) (fun i hi => Nat.le_trans (lq_upT b0 (by omega) (by omega : i < t * p)) (by omega))
 have gi := inside_good (p : Int) (by omega)
 rw [dec_t (by omega)] at gi
 have hl1 := aP_len (eK k d1 d2) p
 have hl2 := oP_len (upO (eK k d1 d2) t) p
 have hl3 := op_len (oP (upO (eK k d1 d2) t) p)
 generalize upO (eK k d1 d2) t = wo at *
 generalize upT (eK k d1 d2) t = w at *
 generalize eK k d1 d2 = a at *
 obtain ⟨x2,M2,L2,hR2,hL2,hM2,hx2⟩ := cSer_form 0 w p
 rw [hR2] at gn ⊢
 clear hR2 hp
 have hp := hp'
 by_cases e1 : k = 2
 ·by_cases e2 : d1 = 1
  ·have e3 : ¬ d2 = 1 := fun e => hpl ⟨e1,e2,e⟩
   have hs0 : 0 < d1 * d2 := of_decide_eq_true (h.trans (decide_eq_true (by omega)))
   have hd2p : 0 < d2 := by rw [e2,Int.one_mul] at hs0;exact hs0
   unfold progR
   simp only [i64,bl] at *
   have c0 : (k : Int) % 2 = 0 := by omega
   have hs : 0 < d1 * d2 := of_decide_eq_true (h.trans (decide_eq_true c0))
   have hz : (decide (d1 > 0) == decide (d2 > 0)) = true := hp.trans (decide_eq_true hs)
   refine good_of_lwp mix Tryz.func16 rfl (by decide) (nt := 83) rfl (rs := [.cell 10 26,.tmp 11]) rfl (nle rfl) ?_
   (repeat (first|apply zO (by decide +kernel)|apply zP (by decide +kernel)|(apply zS;(case h=>constructor<;>decide))|((first|apply l_go rfl|apply c_dec|apply zT rfl (by decide) rfl);(case hs=>(simp (disch := first|omega|exact kD rfl|exact kX rfl) only [smY,simprocAttr,bl,i64,smT,hz];exact rfl));first|refine c_bt ?_|refine c_bf ?_|refine zq ?_|(case hg=>assumption))))
   ((first|apply g_ret|apply g_end);case hres => (simp only [smR];simp (disch := first|omega|exact kD rfl|exact kX rfl) only [smY,simprocAttr,bl,i64,smT,hz];exact rfl))
   simp (disch := first|omega|exact kD rfl|exact kX rfl) only [smY,simprocAttr,bl,i64,smT,hz]
  ·unfold progR
   simp only [i64,bl] at *
   have c0 : (k : Int) % 2 = 0 := by omega
   have hs : 0 < d1 * d2 := of_decide_eq_true (h.trans (decide_eq_true c0))
   have hz : (decide (d1 > 0) == decide (d2 > 0)) = true := hp.trans (decide_eq_true hs)
   refine good_of_lwp mix Tryz.func16 rfl (by decide) (nt := 83) rfl (rs := [.cell 10 26,.tmp 11]) rfl (nle rfl) ?_
   (repeat (first|apply zO (by decide +kernel)|apply zP (by decide +kernel)|(apply zS;(case h=>constructor<;>decide))|((first|apply l_go rfl|apply c_dec|apply zT rfl (by decide) rfl);(case hs=>(simp (disch := first|omega|exact kD rfl|exact kX rfl) only [smY,simprocAttr,bl,i64,smT,hz];exact rfl));first|refine c_bt ?_|refine c_bf ?_|refine zq ?_|(case hg=>assumption))))
   ((first|apply g_ret|apply g_end);case hres => (simp only [smR];simp (disch := first|omega|exact kD rfl|exact kX rfl) only [smY,simprocAttr,bl,i64,smT,hz];exact rfl))
   simp (disch := first|omega|exact kD rfl|exact kX rfl) only [smY,simprocAttr,bl,i64,smT,hz]
 ·have e1' : ¬ (k : Int) = 2 := by omega
  by_cases e2 : d1 = 1
  ·by_cases e3 : d2 = 1
   ·have he : (k : Int) % 2 = 0 := of_decide_eq_true (h.symm.trans (by rw [e2,e3];rfl))
    unfold progR
    simp only [i64,bl] at *
    have c0 : (k : Int) % 2 = 0 := by omega
    have hs : 0 < d1 * d2 := of_decide_eq_true (h.trans (decide_eq_true c0))
    have hz : (decide (d1 > 0) == decide (d2 > 0)) = true := hp.trans (decide_eq_true hs)
    refine good_of_lwp mix Tryz.func16 rfl (by decide) (nt := 83) rfl (rs := [.cell 10 26,.tmp 11]) rfl (nle rfl) ?_
    (repeat (first|apply zO (by decide +kernel)|apply zP (by decide +kernel)|(apply zS;(case h=>constructor<;>decide))|((first|apply l_go rfl|apply c_dec|apply zT rfl (by decide) rfl);(case hs=>(simp (disch := first|omega|exact kD rfl|exact kX rfl) only [smY,simprocAttr,bl,i64,smT,hz];exact rfl));first|refine c_bt ?_|refine c_bf ?_|refine zq ?_|(case hg=>assumption))))
    ((first|apply g_ret|apply g_end);case hres => (simp only [smR];simp (disch := first|omega|exact kD rfl|exact kX rfl) only [smY,simprocAttr,bl,i64,smT,hz];exact rfl))
    simp (disch := first|omega|exact kD rfl|exact kX rfl) only [smY,simprocAttr,bl,i64,smT,hz]
   ·unfold progR
    simp only [i64,bl] at *
    by_cases c0 : (k : Int) % 2 = 0
    ·have hs : 0 < d1 * d2 := of_decide_eq_true (h.trans (decide_eq_true c0))
     have hd2p : 0 < d2 := by rw [e2,Int.one_mul] at hs;exact hs
     refine good_of_lwp mix Tryz.func16 rfl (by decide) (nt := 83) rfl (rs := [.cell 10 26,.tmp 11]) rfl (nle rfl) ?_
     (repeat (first|apply zO (by decide +kernel)|apply zP (by decide +kernel)|(apply zS;(case h=>constructor<;>decide))|((first|apply l_go rfl|apply c_dec|apply zT rfl (by decide) rfl);(case hs=>(simp (disch := first|omega|exact kD rfl|exact kX rfl) only [smY,simprocAttr,bl,i64,smT];exact rfl));first|refine c_bt ?_|refine c_bf ?_|refine zq ?_|(case hg=>assumption))))
     ((first|apply g_ret|apply g_end);case hres => (simp only [smR];simp (disch := first|omega|exact kD rfl|exact kX rfl) only [smY,simprocAttr,bl,i64,smT];exact rfl))
     simp (disch := first|omega|exact kD rfl|exact kX rfl) only [smY,simprocAttr,bl,i64,smT]
    ·have hs : ¬ 0 < d1 * d2 := of_decide_eq_false (h.trans (decide_eq_false c0))
     have hd2p : ¬ 0 < d2 := by rw [e2,Int.one_mul] at hs;exact hs
     refine good_of_lwp mix Tryz.func16 rfl (by decide) (nt := 83) rfl (rs := [.cell 10 26,.tmp 11]) rfl (nle rfl) ?_
     (repeat (first|apply zO (by decide +kernel)|apply zP (by decide +kernel)|(apply zS;(case h=>constructor<;>decide))|((first|apply l_go rfl|apply c_dec|apply zT rfl (by decide) rfl);(case hs=>(simp (disch := first|omega|exact kD rfl|exact kX rfl) only [smY,simprocAttr,bl,i64,smT];exact rfl));first|refine c_bt ?_|refine c_bf ?_|refine zq ?_|(case hg=>assumption))))
     ((first|apply g_ret|apply g_end);case hres => (simp only [smR];simp (disch := first|omega|exact kD rfl|exact kX rfl) only [smY,simprocAttr,bl,i64,smT];exact rfl))
     simp (disch := first|omega|exact kD rfl|exact kX rfl) only [smY,simprocAttr,bl,i64,smT]
  ·unfold progR
   simp only [i64,bl] at *
   by_cases c0 : (k : Int) % 2 = 0
   ·
    have c0 : (k : Int) % 2 = 0 := by omega
    have hs : 0 < d1 * d2 := of_decide_eq_true (h.trans (decide_eq_true c0))
    have hz : (decide (d1 > 0) == decide (d2 > 0)) = true := hp.trans (decide_eq_true hs)
    refine good_of_lwp mix Tryz.func16 rfl (by decide) (nt := 83) rfl (rs := [.cell 10 26,.tmp 11]) rfl (nle rfl) ?_
    (repeat (first|apply zO (by decide +kernel)|apply zP (by decide +kernel)|(apply zS;(case h=>constructor<;>decide))|((first|apply l_go rfl|apply c_dec|apply zT rfl (by decide) rfl);(case hs=>(simp (disch := first|omega|exact kD rfl|exact kX rfl) only [smY,simprocAttr,bl,i64,smT,hz];exact rfl));first|refine c_bt ?_|refine c_bf ?_|refine zq ?_|(case hg=>assumption))))
    ((first|apply g_ret|apply g_end);case hres => (simp only [smR];simp (disch := first|omega|exact kD rfl|exact kX rfl) only [smY,simprocAttr,bl,i64,smT,hz];exact rfl))
    simp (disch := first|omega|exact kD rfl|exact kX rfl) only [smY,simprocAttr,bl,i64,smT,hz]
   ·have hs : ¬ 0 < d1 * d2 := of_decide_eq_false (h.trans (decide_eq_false c0))
    have hz : (decide (d1 > 0) == decide (d2 > 0)) = false := hp.trans (decide_eq_false hs)
    refine good_of_lwp mix Tryz.func16 rfl (by decide) (nt := 83) rfl (rs := [.cell 10 26,.tmp 11]) rfl (nle rfl) ?_
    (repeat (first|apply zO (by decide +kernel)|apply zP (by decide +kernel)|(apply zS;(case h=>constructor<;>decide))|((first|apply l_go rfl|apply c_dec|apply zT rfl (by decide) rfl);(case hs=>(simp (disch := first|omega|exact kD rfl|exact kX rfl) only [smY,simprocAttr,bl,i64,smT,hz];exact rfl));first|refine c_bt ?_|refine c_bf ?_|refine zq ?_|(case hg=>assumption))))
    ((first|apply g_ret|apply g_end);case hres => (simp only [smR];simp (disch := first|omega|exact kD rfl|exact kX rfl) only [smY,simprocAttr,bl,i64,smT,hz];exact rfl))
    simp (disch := first|omega|exact kD rfl|exact kX rfl) only [smY,simprocAttr,bl,i64,smT,hz]
theorem preal_spec (k d1 d2 t prec : Int) (rk : -9223372036854775808 ≤ k ∧ k ≤ 9223372036854775807) (r1 : -9223372036854775808 ≤ d1 ∧ d1 ≤ 9223372036854775807) (r2 : -9223372036854775808 ≤ d2 ∧ d2 ≤ 9223372036854775807) (rt : -9223372036854775808 ≤ t ∧ t ≤ 9223372036854775807) (rp : -9223372036854775808 ≤ prec ∧ prec ≤ 9223372036854775807) :
  (∃ e : Int,1 ≤ e ∧ e ≤ 30 ∧ progR k d1 d2 t prec (eR e)) ∨ ∃ K T P : Nat,k = K ∧ t = T ∧ prec = P ∧ 2 ≤ K ∧ K ≤ 40 ∧ d1 ∈ fdL ∧ d2 ∈ fdL ∧ decide (0 < d1 * d2) = decide ((K : Int) % 2 = 0) ∧ 1 ≤ T ∧ T ≤ 1000 ∧ P ≤ 1000 ∧ ¬ (K = 2 ∧ d1 = 1 ∧ d2 = 1 ∧ T = 1) ∧ progR k d1 d2 t prec (.tup [cSer 0 (wR K d1 d2 T) P,i64 0]) := by
 by_cases c1 : k < 2 ∨ 40 < k
 ·exact .inl ⟨2,by omega,by omega,preal_e1 c1⟩
 ·by_cases c2 : d1 ∈ fdL ∧ d2 ∈ fdL
  ·obtain ⟨hd1,hd2⟩ := c2
   by_cases c3 : decide (0 < d1 * d2) = decide (k % 2 = 0)
   ·by_cases c4 : t < 1 ∨ 1000 < t
    ·exact .inl ⟨2,by omega,by omega,preal_e4 (by omega) hd1 hd2 c3 c4⟩
    ·by_cases c5 : k = 2 ∧ d1 = 1 ∧ d2 = 1 ∧ t = 1
     ·exact .inl ⟨20,by omega,by omega,preal_e5 k c5.1 c5.2.1 c5.2.2.1 c5.2.2.2⟩
     ·by_cases c6 : prec < 0 ∨ 1000 < prec
      ·exact .inl ⟨2,by omega,by omega,preal_e6 (by omega) hd1 hd2 c3 (by omega) c5 rp c6⟩
      ·obtain ⟨K,rfl⟩ : ∃ n : Nat,k = n := ⟨k.toNat,by omega⟩
       obtain ⟨T,rfl⟩ : ∃ n : Nat,t = n := ⟨t.toNat,by omega⟩
       obtain ⟨P,rfl⟩ : ∃ n : Nat,prec = n := ⟨prec.toNat,by omega⟩
       refine .inr ⟨K,T,P,rfl,rfl,rfl,by omega,by omega,hd1,hd2,c3,by omega,by omega,by omega,by omega,?_⟩
       by_cases hpl : K = 2 ∧ d1 = 1 ∧ d2 = 1
       ·have hw : wR K d1 d2 T = dfT (eK 2 1 1) T := by
         unfold wR
         rw [if_pos hpl,hpl.1,hpl.2.1,hpl.2.2]
        rw [hw]
        exact preal_ok1 T P d1 d2 K (by omega) hpl.2.1 hpl.2.2 (by omega) (by omega) (by omega)
       ·have hw : wR K d1 d2 T = upT (eK K d1 d2) T := by
         unfold wR
         rw [if_neg hpl]
        rw [hw]
        exact preal_ok2 K T P d1 d2 (by omega) (by omega) hd1 hd2 c3 (by omega) (by omega) (by omega) hpl
   ·exact .inl ⟨16,by omega,by omega,preal_e3 (by omega) hd1 hd2 c3⟩
  ·exact .inl ⟨15,by omega,by omega,preal_e2 (by omega) r1 r2 c2⟩
end Go.Proofs.YteecamhdbilmoaaGreatDoor
namespace Go.Proofs.YteecamhdbilmoaaGreatDoor
open Go Go.Lg Go.Num
set_option maxRecDepth 100000
set_option maxHeartbeats 8000000
theorem lq_wR2 {k t p i : Nat} {d1 d2 : Int} (hk1 : 2 ≤ k) (hk2 : k ≤ 40) (hd1 : d1 ∈ fdL) (hd2 : d2 ∈ fdL) (ht1 : 1 ≤ t) (ht : t ≤ 1000) (hp : p ≤ 1000) (hi : i < p) : lq (wR k d1 d2 t i) ≤ 500 := by
 have hpt : p ≤ t * p := Nat.le_mul_of_pos_left p (by omega)
 unfold wR
 split
 ·rename_i h
  obtain ⟨rfl,rfl,rfl⟩ := h
  have b0 : ∀ i,i < p → lq (eK 2 1 1 i) ≤ 30 := fun i hi => lq_eK21 (by omega)
  have h1 := b0 i hi
  have h2 : lq (upT (eK 2 1 1) t i) ≤ 30 := lq_upT b0 (by omega) (by omega : i < t * p)
  have h3 := lq_mul ((t : Int) : Rat) (upT (eK 2 1 1) t i)
  have h4 := lq_i64 (z := (t : Int)) (by omega)
  have h5 := lq_sub (eK 2 1 1 i) (((t : Int) : Rat) * upT (eK 2 1 1) t i)
  unfold dfT
  omega
 ·have b0 : ∀ i,i < p → lq (eK k d1 d2 i) ≤ 410 := fun i hi => lq_eK (by omega) hk2 hd1 hd2 (by omega)
  have h2 : lq (upT (eK k d1 d2) t i) ≤ 410 := lq_upT b0 (by omega) (by omega : i < t * p)
  omega
attribute [local irreducible] Go.Lg.lrun Go.Lg.lwp Go.Lg.exThen Go.Lg.exBlk Go.Lg.keep Go.Lg.goodPost sg mg oc mC twP tw bq kr chi eK gB cSer op oqp wR
theorem bmodI_good (a : Int) (m : Nat) (ha : -9223372036854775808 ≤ a ∧ a ≤ 9223372036854775807) (hm : 1 ≤ m ∧ m ≤ 1000000) : PureGood Tryz.prog 18 [i64 a,i64 m] (i64 (dm a m)) := by
 have h1 := emod_of_tmod a (m := m) (by omega)
 have h2 := tmod_bd a (b := m) (by omega)
 rw [dm_eq a hm.1]
 by_cases h : a.tmod m < 0
 ·rw [if_pos h] at h1
  rw [h1]
  clear h1
  simp only [i64]
  refine good_of_lwp mix Tryz.func18 rfl (by decide) (nt := 15) rfl (rs := [.tmp 4]) rfl (nle rfl) ?_
  (repeat (first|apply zO (by decide +kernel)|apply zP (by decide +kernel)|(apply zS;(case h=>constructor<;>decide))|((first|apply l_go rfl|apply c_dec|apply zT rfl (by decide) rfl);(case hs=>(simp (disch := first|omega|exact kD rfl|exact kX rfl) only [smY,simprocAttr,bl,i64,smT];exact rfl));first|refine c_bt ?_|refine c_bf ?_|refine zq ?_|(case hg=>assumption))))
  ((first|apply g_ret|apply g_end);case hres => (simp only [smR];simp (disch := first|omega|exact kD rfl|exact kX rfl) only [smY,simprocAttr,bl,i64,smT];exact rfl))
  simp (disch := first|omega|exact kD rfl|exact kX rfl) only [smY,simprocAttr,bl,i64,smT]
 ·rw [if_neg h] at h1
  rw [h1]
  clear h1
  simp only [i64]
  refine good_of_lwp mix Tryz.func18 rfl (by decide) (nt := 15) rfl (rs := [.tmp 4]) rfl (nle rfl) ?_
  (repeat (first|apply zO (by decide +kernel)|apply zP (by decide +kernel)|(apply zS;(case h=>constructor<;>decide))|((first|apply l_go rfl|apply c_dec|apply zT rfl (by decide) rfl);(case hs=>(simp (disch := first|omega|exact kD rfl|exact kX rfl) only [smY,simprocAttr,bl,i64,smT];exact rfl));first|refine c_bt ?_|refine c_bf ?_|refine zq ?_|(case hg=>assumption))))
  ((first|apply g_ret|apply g_end);case hres => (simp only [smR];simp (disch := first|omega|exact kD rfl|exact kX rfl) only [smY,simprocAttr,bl,i64,smT];exact rfl))
  simp (disch := first|omega|exact kD rfl|exact kX rfl) only [smY,simprocAttr,bl,i64,smT]
theorem pick4 {r : Nat} (h : r < 4) : ∃ p : Nat,isP p ∧ List.head? (List.drop r [LV.lit (.int .i64 2),LV.lit (.int .i64 3),LV.lit (.int .i64 5),LV.lit (.int .i64 7)]) = some (.lit (.int .i64 (p : Int))) := by
 match r,h with
 | 0,_ => exact ⟨2,.inl rfl,rfl⟩
 | 1,_ => exact ⟨3,.inr (.inl rfl),rfl⟩
 | 2,_ => exact ⟨5,.inr (.inr (.inl rfl)),rfl⟩
 | 3,_ => exact ⟨7,.inr (.inr (.inr rfl)),rfl⟩
theorem lawEigen_good (k d1 d2 t prec i : Int) (rk : -9223372036854775808 ≤ k ∧ k ≤ 9223372036854775807) (r1 : -9223372036854775808 ≤ d1 ∧ d1 ≤ 9223372036854775807) (r2 : -9223372036854775808 ≤ d2 ∧ d2 ≤ 9223372036854775807) (rt : -9223372036854775808 ≤ t ∧ t ≤ 9223372036854775807) (rp : -9223372036854775808 ≤ prec ∧ prec ≤ 9223372036854775807) (ri : -9223372036854775808 ≤ i ∧ i ≤ 9223372036854775807) : PureGood Tryz.prog 5 [.agg [i64 k,i64 d1,i64 d2,i64 t,i64 prec],i64 i] (.lit (.bool true)) := by
 have ha := awake_good
 have gm := bmodI_good i 4 ri (by omega)
 have hr := dm_lt i (m := 4) (by omega)
 obtain ⟨p,hp,hX⟩ := pick4 hr
 generalize dm i 4 = r at *
 have hp1 : 2 ≤ p ∧ p ≤ 7 := by rcases hp with rfl | rfl | rfl | rfl <;> omega
 have b1 := tmod_bd d1 (b := p) (by omega)
 have b2 := tmod_bd d2 (b := p) (by omega)
 have b3 := tmod_bd t (b := p) (by omega)
 by_cases c1 : prec < 1
 ·simp only [i64,bl] at *
  refine good_of_lwp mix Tryz.func5 rfl (by decide) (nt := 134) rfl (rs := [.tmp 4]) rfl (nle rfl) ?_
  (repeat (first|apply zO (by decide +kernel)|apply zP (by decide +kernel)|(apply zS;(case h=>constructor<;>decide))|((first|apply l_go rfl|apply c_dec|apply zT rfl (by decide) rfl);(case hs=>(simp (disch := first|omega|exact kD rfl|exact kX rfl) only [smY,simprocAttr,bl,i64,smT,hX];exact rfl));first|refine c_bt ?_|refine c_bf ?_|refine zq ?_|(case hg=>assumption))))
  ((first|apply g_ret|apply g_end);case hres => (simp only [smR];simp (disch := first|omega|exact kD rfl|exact kX rfl) only [smY,simprocAttr,bl,i64,smT,hX];exact rfl))
  simp (disch := first|omega|exact kD rfl|exact kX rfl) only [smY,simprocAttr,bl,i64,smT,hX]
 by_cases c2 : 30 < prec
 ·simp only [i64,bl] at *
  refine good_of_lwp mix Tryz.func5 rfl (by decide) (nt := 134) rfl (rs := [.tmp 4]) rfl (nle rfl) ?_
  (repeat (first|apply zO (by decide +kernel)|apply zP (by decide +kernel)|(apply zS;(case h=>constructor<;>decide))|((first|apply l_go rfl|apply c_dec|apply zT rfl (by decide) rfl);(case hs=>(simp (disch := first|omega|exact kD rfl|exact kX rfl) only [smY,simprocAttr,bl,i64,smT,hX];exact rfl));first|refine c_bt ?_|refine c_bf ?_|refine zq ?_|(case hg=>assumption))))
  ((first|apply g_ret|apply g_end);case hres => (simp only [smR];simp (disch := first|omega|exact kD rfl|exact kX rfl) only [smY,simprocAttr,bl,i64,smT,hX];exact rfl))
  simp (disch := first|omega|exact kD rfl|exact kX rfl) only [smY,simprocAttr,bl,i64,smT,hX]
 by_cases c3 : d1.tmod p = 0
 ·simp only [i64,bl] at *
  refine good_of_lwp mix Tryz.func5 rfl (by decide) (nt := 134) rfl (rs := [.tmp 4]) rfl (nle rfl) ?_
  (repeat (first|apply zO (by decide +kernel)|apply zP (by decide +kernel)|(apply zS;(case h=>constructor<;>decide))|((first|apply l_go rfl|apply c_dec|apply zT rfl (by decide) rfl);(case hs=>(simp (disch := first|omega|exact kD rfl|exact kX rfl) only [smY,simprocAttr,bl,i64,smT,hX];exact rfl));first|refine c_bt ?_|refine c_bf ?_|refine zq ?_|(case hg=>assumption))))
  ((first|apply g_ret|apply g_end);case hres => (simp only [smR];simp (disch := first|omega|exact kD rfl|exact kX rfl) only [smY,simprocAttr,bl,i64,smT,hX];exact rfl))
  simp (disch := first|omega|exact kD rfl|exact kX rfl) only [smY,simprocAttr,bl,i64,smT,hX]
 by_cases c4 : d2.tmod p = 0
 ·simp only [i64,bl] at *
  refine good_of_lwp mix Tryz.func5 rfl (by decide) (nt := 134) rfl (rs := [.tmp 4]) rfl (nle rfl) ?_
  (repeat (first|apply zO (by decide +kernel)|apply zP (by decide +kernel)|(apply zS;(case h=>constructor<;>decide))|((first|apply l_go rfl|apply c_dec|apply zT rfl (by decide) rfl);(case hs=>(simp (disch := first|omega|exact kD rfl|exact kX rfl) only [smY,simprocAttr,bl,i64,smT,hX];exact rfl));first|refine c_bt ?_|refine c_bf ?_|refine zq ?_|(case hg=>assumption))))
  ((first|apply g_ret|apply g_end);case hres => (simp only [smR];simp (disch := first|omega|exact kD rfl|exact kX rfl) only [smY,simprocAttr,bl,i64,smT,hX];exact rfl))
  simp (disch := first|omega|exact kD rfl|exact kX rfl) only [smY,simprocAttr,bl,i64,smT,hX]
 by_cases c5 : t.tmod p = 0
 ·simp only [i64,bl] at *
  refine good_of_lwp mix Tryz.func5 rfl (by decide) (nt := 134) rfl (rs := [.tmp 4]) rfl (nle rfl) ?_
  (repeat (first|apply zO (by decide +kernel)|apply zP (by decide +kernel)|(apply zS;(case h=>constructor<;>decide))|((first|apply l_go rfl|apply c_dec|apply zT rfl (by decide) rfl);(case hs=>(simp (disch := first|omega|exact kD rfl|exact kX rfl) only [smY,simprocAttr,bl,i64,smT,hX];exact rfl));first|refine c_bt ?_|refine c_bf ?_|refine zq ?_|(case hg=>assumption))))
  ((first|apply g_ret|apply g_end);case hres => (simp only [smR];simp (disch := first|omega|exact kD rfl|exact kX rfl) only [smY,simprocAttr,bl,i64,smT,hX];exact rfl))
  simp (disch := first|omega|exact kD rfl|exact kX rfl) only [smY,simprocAttr,bl,i64,smT,hX]
 rcases preal_spec k d1 d2 t prec rk r1 r2 rt rp with ⟨e,e1,e2,h1⟩ | ⟨K,T,P,rfl,rfl,rfl,k1,k2,hd1,hd2,hpar,t1,t2,pp1,hpl,h1⟩
 ·unfold progR eR at h1
  simp only [i64,bl] at *
  refine good_of_lwp mix Tryz.func5 rfl (by decide) (nt := 134) rfl (rs := [.tmp 4]) rfl (nle rfl) ?_
  (repeat (first|apply zO (by decide +kernel)|apply zP (by decide +kernel)|(apply zS;(case h=>constructor<;>decide))|((first|apply l_go rfl|apply c_dec|apply zT rfl (by decide) rfl);(case hs=>(simp (disch := first|omega|exact kD rfl|exact kX rfl) only [smY,simprocAttr,bl,i64,smT,hX];exact rfl));first|refine c_bt ?_|refine c_bf ?_|refine zq ?_|(case hg=>assumption))))
  ((first|apply g_ret|apply g_end);case hres => (simp only [smR];simp (disch := first|omega|exact kD rfl|exact kX rfl) only [smY,simprocAttr,bl,i64,smT,hX];exact rfl))
  simp (disch := first|omega|exact kD rfl|exact kX rfl) only [smY,simprocAttr,bl,i64,smT,hX]
 ·unfold progR at h1
  have hT : T % p ≠ 0 := fun e => c5 (by rw [Int.tmod_eq_emod_of_nonneg (by omega)];omega)
  have hK := fun n (hn : p * n < 30) => hkQ_wR hp hd1 hd2 (k := K) t1 hT (n := n) hn
  have bw : ∀ i,i < P → lq (wR K d1 d2 T i) ≤ 500 := fun i hi => lq_wR2 k1 k2 hd1 hd2 t1 t2 pp1 hi
  obtain ⟨ho,hz,hnz⟩ := ordN_spec (wR K d1 d2 T) P
  rw [cSer_eq rfl,Int.zero_add] at h1
  generalize wR K d1 d2 T = f at *
  generalize ordN f P = o at *
  have hoM : o + (P - o) = P := by omega
  generalize P - o = M at *
  have q1 := kron_good d1 hd1 p (by omega) (by omega)
  have q2 := kron_good d2 hd2 p (by omega) (by omega)
  have v1 := isS_bd (kr_val hd1 (n := p) (by omega) (by omega)).2
  have v2 := isS_bd (kr_val hd2 (n := p) (by omega) (by omega)).2
  have v3 := isS_bd (isS_mul (kr_val hd1 (n := p) (by omega) (by omega)).2 (kr_val hd2 (n := p) (by omega) (by omega)).2)
  have z1 := baseZ_good (p : Int) (by omega)
  have z2 := raised_good p (K - 1) (by omega) (by omega) (by omega)
  have zl := len_dk' (d := p) (k := K - 1) (by omega) (by omega)
  have z3 := rwhole_good ((p : Int) ^ (K - 1)) (by omega)
  have lQ : lq ((((p : Int) ^ (K - 1) : Int)) : Rat) ≤ 15 := by rw [lq_int];omega
  have hk2 : ((K - 1 : Nat) : Int) = (K : Int) - 1 := by omega
  rw [hk2] at z2
  generalize kr d1 p = A at *
  generalize kr d2 p = B at *
  generalize ((((p : Int) ^ (K - 1) : Int)) : Rat) = Q at *
  generalize (p : Int) ^ (K - 1) = Qi at *
  have lA := lq_i64 (z := A) (by omega)
  have lB := lq_i64 (z := B) (by omega)
  have lAB := lq_i64 (z := A * B) (by omega)
  have y1 := baseQ_good A (by omega)
  have y2 := baseQ_good B (by omega)
  have y3 := baseQ_good (A * B) (by omega)
  have y4 := rqmul_good (B : Rat) Q (by omega) (by omega)
  have l4 := lq_mul (B : Rat) Q
  have y5 := rqadd_good (A : Rat) ((B : Rat) * Q) (by omega) (by omega)
  have l5 := lq_add (A : Rat) ((B : Rat) * Q)
  have y6 := rqmul_good ((A * B : Int) : Rat) Q (by omega) (by omega)
  have l6 := lq_mul ((A * B : Int) : Rat) Q
  unfold HkQ at hK
  generalize ((A : Rat) + (B : Rat) * Q) = C at *
  generalize ((A * B : Int) : Rat) * Q = E at *
  generalize ((B : Rat) * Q) = BQ at *
  generalize ((A * B : Int) : Rat) = ABq at *
  generalize hABv : A * B = AB at *
  generalize (A : Rat) = Aq at *
  generalize (B : Rat) = Bq at *
  have hl := aP_len (fun i => f (o + i)) M
  simp only [i64,bl,encI_sm,encQ_sm] at ha gm h1 q1 q2 z1 z2 z3 y1 y2 y3 y4 y5 y6 ⊢
  refine good_of_lwp mix Tryz.func5 rfl (by decide) (nt := 134) rfl (rs := [.tmp 4]) rfl (nle rfl) ?_
  (repeat (first|apply zO (by decide +kernel)|apply zP (by decide +kernel)|(apply zS;(case h=>constructor<;>decide))|((first|apply l_go rfl|apply c_dec|apply zT rfl (by decide) rfl);(case hs=>(simp (disch := first|omega|exact kD rfl|exact kX rfl) only [smY,simprocAttr,bl,i64,smT,hX,hABv];exact rfl));first|refine c_bt ?_|refine c_bf ?_|refine zq ?_|(case hg=>assumption))))
  refine w_loop (α := {n : Nat // n ≤ P}) (fun n => st 134 (lk [(2,.ptr 0 0),(5,i64 p),(6,.ptr 1 0),(8,i64 A),(9,i64 B),(10,.ptr 2 0),(11,.ptr 3 0),(12,i64 n.1)]) (lkH [(0,⟨35,[i64 K,i64 d1,i64 d2,i64 T,i64 P],false⟩),(1,⟨26,[i64 o,.sl M (qc (aP (fun i => f (o + i)) M))],false⟩),(2,⟨45,[sg (Q).num,mg (Q).num,sg ((Q).den : Int),mg ((Q).den : Int)],false⟩),(3,⟨45,[sg (C).num,mg (C).num,sg ((C).den : Int),mg ((C).den : Int)],false⟩)]) 4) (fun n => P - n.1) ⟨0,by omega⟩ ?_ ?_
  ·(refine Sub.heapL [0,51,73,82] rfl (by decide) ?_ (by simp only [smL];decide) ?_ ?_;all_goals (first|(simp only [plainC,smF,dg,renL,renLs,simprocAttr,bl,i64,smT,hX,hABv];done) | (simp only [smF,dg,renL,renLs,simprocAttr,bl,i64,smT,hX,hABv];(repeat' apply And.intro);all_goals rfl) | (simp only [smF,dg,renL,renLs,simprocAttr,bl,i64,smT,hX,hABv]) | skip))
   all_goals (first | done | ((repeat' apply And.intro);all_goals (first | trivial | rfl)))
  ·rintro ⟨n,hn⟩
   simp only [st]
   have hpn : (p : Int) * (n : Int) = ((p * n : Nat) : Int) := by simp
   have hnp : n ≤ p * n := Nat.le_mul_of_pos_left n (by omega)
   have hb0 : p * n ≤ 7 * 1000 := Nat.mul_le_mul (by omega) (by omega)
   by_cases hlt : p * n < P
   ·have hk := hK n (by omega)
    have bn := bw n (by omega)
    have bpn := bw (p * n) hlt
    have g1 := rcoef_good o M (p * n) f (by omega) hz (by omega) (by omega)
    have g2 := rcoef_good o M n f (by omega) hz (by omega) (by omega)
    have g3 := rqmul_good C (f n) (by omega) (by omega)
    have l3 := lq_mul C (f n)
    by_cases hm : n % p = 0
    ·rw [if_pos hm] at hk
     have hq1 : n / p ≤ n := Nat.div_le_self _ _
     have bq1 := bw (n / p) (by omega)
     have g4 := rcoef_good o M (n / p) f (by omega) hz (by omega) (by omega)
     have g5 := rqmul_good E (f (n / p)) (by omega) (by omega)
     have l5' := lq_mul E (f (n / p))
     have g6 := rqadd_good (f (p * n)) (E * f (n / p)) (by omega) (by omega)
     have g7 := rqsame_good (C * f n) (C * f n) (by omega) (by omega)
     rw [dec_t rfl] at g7
     rw [hk] at g6
     clear hk hK bw hz hnz
     generalize p * n = pn at *
     generalize hqv : n / p = q at *
     generalize E * f q = Ef at *
     generalize C * f n = Cf at *
     generalize f pn = f1 at *
     generalize f q = f2 at *
     generalize f n = f3 at *
     simp only [i64,bl,encQ_sm] at g1 g2 g3 g4 g5 g6 g7
     (repeat (first|apply zO (by decide +kernel)|apply zP (by decide +kernel)|(apply zS;(case h=>constructor<;>decide))|((first|apply l_go rfl|apply c_dec|apply zT rfl (by decide) rfl);(case hs=>(simp (disch := first|omega|exact kD rfl|exact kX rfl) only [smY,simprocAttr,bl,i64,smT,hABv,hpn,hqv];exact rfl));first|refine c_bt ?_|refine c_bf ?_|refine zq ?_|(case hg=>assumption))))
     refine ⟨⟨n + 1,by omega⟩,?_,by simp only;omega⟩
     (refine Sub.heapL [0,1,2,3] rfl (by decide) ?_ (by simp only [smL];decide) ?_ ?_;all_goals (first|(simp only [plainC,smF,dg,renL,renLs,simprocAttr,bl,i64,smT];done) | (simp only [smF,dg,renL,renLs,simprocAttr,bl,i64,smT];(repeat' apply And.intro);all_goals rfl) | (simp only [smF,dg,renL,renLs,simprocAttr,bl,i64,smT]) | skip))
     all_goals (first | done | ((repeat' apply And.intro);all_goals (first | trivial | rfl)))
    ·rw [if_neg hm] at hk
     have g7 := rqsame_good (C * f n) (C * f n) (by omega) (by omega)
     rw [dec_t rfl] at g7
     rw [hk] at g1
     clear hk hK bw hz hnz
     generalize p * n = pn at *
     generalize C * f n = Cf at *
     generalize f pn = f1 at *
     generalize f n = f3 at *
     simp only [i64,bl,encQ_sm] at g1 g2 g3 g7
     (repeat (first|apply zO (by decide +kernel)|apply zP (by decide +kernel)|(apply zS;(case h=>constructor<;>decide))|((first|apply l_go rfl|apply c_dec|apply zT rfl (by decide) rfl);(case hs=>(simp (disch := first|omega|exact kD rfl|exact kX rfl) only [smY,simprocAttr,bl,i64,smT,hpn];exact rfl));first|refine c_bt ?_|refine c_bf ?_|refine zq ?_|(case hg=>assumption))))
     refine ⟨⟨n + 1,by omega⟩,?_,by simp only;omega⟩
     (refine Sub.heapL [0,1,2,3] rfl (by decide) ?_ (by simp only [smL];decide) ?_ ?_;all_goals (first|(simp only [plainC,smF,dg,renL,renLs,simprocAttr,bl,i64,smT];done) | (simp only [smF,dg,renL,renLs,simprocAttr,bl,i64,smT];(repeat' apply And.intro);all_goals rfl) | (simp only [smF,dg,renL,renLs,simprocAttr,bl,i64,smT]) | skip))
     all_goals (first | done | ((repeat' apply And.intro);all_goals (first | trivial | rfl)))
   ·-- X: bl,i64,smT,hpn
    (repeat (first|apply zO (by decide +kernel)|apply zP (by decide +kernel)|(apply zS;(case h=>constructor<;>decide))|((first|apply l_go rfl|apply c_dec|apply zT rfl (by decide) rfl);(case hs=>(simp (disch := first|omega|exact kD rfl|exact kX rfl) only [smY,simprocAttr,bl,i64,smT];exact rfl));first|refine c_bt ?_|refine c_bf ?_|refine zq ?_|(case hg=>assumption))))
    ((first|apply g_ret|apply g_end);case hres => (simp only [smR];simp (disch := first|omega|exact kD rfl|exact kX rfl) only [smY,simprocAttr,bl,i64,smT];exact rfl))
    simp (disch := first|omega|exact kD rfl|exact kX rfl) only [smY,simprocAttr,bl,i64,smT]
end Go.Proofs.YteecamhdbilmoaaGreatDoor
namespace Go.Proofs.YteecamhdbilmoaaGreatDoor
open Go Go.Lg Go.ChangeShapes Go.WideShapes Go.ChangeAt Go.RowKit
set_option maxRecDepth 100000
theorem cDat : Tryz.prog.cellsOf 35 = 5 := by kernel_rfl
theorem cIntD : Tryz.prog.cellsOf 3 = 1 := by kernel_rfl
section
variable {H : Type} {enc : TypeId × Value → H} {w : World} {base : Nat} {spare : Nat → Bool} {held : Bool}
def datV (a b c e f : Int) : Value := .agg #[.int .i64 a,.int .i64 b,.int .i64 c,.int .i64 e,.int .i64 f]
def datD (a b c e f : Int) : DataW H := .agg [.lit (.int .i64 a),.lit (.int .i64 b),.lit (.int .i64 c),.lit (.int .i64 e),.lit (.int .i64 f)]
theorem open_dat {r : Reach} {b0 : Nat} {v : Value} {d : DataW H} {ps : List MemPlace} (hval : Value.okWide Tryz.prog w r b0 35 v) (hd : DataW.Trod enc Tryz.prog w base spare held 35 v d ps) :
  ∃ a b c e f,v = datV a b c e f ∧ d = datD a b c e f ∧ ps = [] ∧ (Lit.int .i64 a).wf = true ∧ (Lit.int .i64 b).wf = true ∧ (Lit.int .i64 c).wf = true ∧ (Lit.int .i64 e).wf = true ∧ (Lit.int .i64 f).wf = true := by
 obtain ⟨cs,rfl,h2⟩ := okWide_struct Tryz.underlying35 hval
 rw [cDat] at h2
 obtain ⟨fuel,hf⟩ := hd
 obtain ⟨xs,n,rfl,hx,hlen,hn,hel⟩ := DataW.trod_struct Tryz.underlying35 hf
 obtain ⟨l⟩ := cs
 match l,h2 with
 | [c0,c1,c2,c3,c4],_ =>
   match xs,hn with
   | [x0,x1,x2,x3,x4],_ =>
     have hc : (Value.agg #[c0,c1,c2,c3,c4]).cells = #[c0,c1,c2,c3,c4] := rfl
     have e0 : DataW.trod enc Tryz.prog w base spare held n 3 (([c0,c1,c2,c3,c4].drop 0).take (Tryz.prog.cellsOf 3)) = some x0 := hel 0 _ rfl
     have e1 : DataW.trod enc Tryz.prog w base spare held n 3 (([c0,c1,c2,c3,c4].drop 1).take (Tryz.prog.cellsOf 3)) = some x1 := hel 1 _ rfl
     have e2 : DataW.trod enc Tryz.prog w base spare held n 3 (([c0,c1,c2,c3,c4].drop 2).take (Tryz.prog.cellsOf 3)) = some x2 := hel 2 _ rfl
     have e3 : DataW.trod enc Tryz.prog w base spare held n 3 (([c0,c1,c2,c3,c4].drop 3).take (Tryz.prog.cellsOf 3)) = some x3 := hel 3 _ rfl
     have e4 : DataW.trod enc Tryz.prog w base spare held n 3 (([c0,c1,c2,c3,c4].drop 4).take (Tryz.prog.cellsOf 3)) = some x4 := hel 4 _ rfl
     simp only [hc,cIntD,List.drop_zero,List.drop_succ_cons,List.take_succ_cons,List.take_zero,List.getElem?_cons_zero,List.getElem?_cons_succ] at e0 e1 e2 e3 e4
     obtain ⟨a0,a1,rfl,w0⟩ := DataW.trod_int Tryz.underlying3 e0
     obtain ⟨b0,b1,rfl,w1⟩ := DataW.trod_int Tryz.underlying3 e1
     obtain ⟨g0,g1,rfl,w2⟩ := DataW.trod_int Tryz.underlying3 e2
     obtain ⟨h0,h1,rfl,w3⟩ := DataW.trod_int Tryz.underlying3 e3
     obtain ⟨k0,k1,rfl,w4⟩ := DataW.trod_int Tryz.underlying3 e4
     simp only [List.cons.injEq,and_true] at a1 b1 g1 h1 k1
     subst a1 b1 g1 h1 k1
     obtain ⟨hx1,hx2⟩ := Prod.mk.inj hx
     exact ⟨_,_,_,_,_,rfl,hx1,by simpa using hx2,w0,w1,w2,w3,w4⟩
theorem shut_dat {a b c e f : Int} (w0 : (Lit.int .i64 a).wf = true) (w1 : (Lit.int .i64 b).wf = true) (w2 : (Lit.int .i64 c).wf = true) (w3 : (Lit.int .i64 e).wf = true) (w4 : (Lit.int .i64 f).wf = true) :
  DataW.Trod enc Tryz.prog w base spare held 35 (datV a b c e f) (datD a b c e f) [] := by
 have hc : (datV a b c e f).cells = #[.int .i64 a,.int .i64 b,.int .i64 c,.int .i64 e,.int .i64 f] := rfl
 refine ⟨2,?_⟩
 have := trod_struct_mk (enc := enc) (w := w) (base := base) (spare := spare) (held := held) (n := 1) (cs := [.int .i64 a,.int .i64 b,.int .i64 c,.int .i64 e,.int .i64 f]) (xs := [(.lit (.int .i64 a),[]),(.lit (.int .i64 b),[]),(.lit (.int .i64 c),[]),(.lit (.int .i64 e),[]),(.lit (.int .i64 f),[])]) Tryz.underlying35 (by rw [cDat];rfl) (by
  simp [cIntD,DataW.trod,Tryz.underlying3,w0,w1,w2,w3,w4])
 rw [hc]
 exact this
theorem rep_dat {St : Nat → Prop} {hp : Array Obj} {μ : Nat → Option (Nat × Nat)} (a b c e f : Int) : Rep St hp μ (.agg [.lit (.int .i64 a),.lit (.int .i64 b),.lit (.int .i64 c),.lit (.int .i64 e),.lit (.int .i64 f)]) (datV a b c e f) := by
 refine Rep.agg (us := [.int .i64 a,.int .i64 b,.int .i64 c,.int .i64 e,.int .i64 f]) rfl (by simp [Value.oneCell']) ?_
 intro j x u hc hu
 match j with
 | 0 => simp at hc hu;subst hc;subst hu;exact .lit _
 | 1 => simp at hc hu;subst hc;subst hu;exact .lit _
 | 2 => simp at hc hu;subst hc;subst hu;exact .lit _
 | 3 => simp at hc hu;subst hc;subst hu;exact .lit _
 | 4 => simp at hc hu;subst hc;subst hu;exact .lit _
 | j + 5 => simp at hc
end
end Go.Proofs.YteecamhdbilmoaaGreatDoor