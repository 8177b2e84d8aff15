/- Contracts of functions of the program, and what proves them (texts: B13 B14 B15). -/
import Derived.Test.YtpkjokknpbclhaaGreatZAH
set_option linter.all false
namespace Go.Proofs.YtpkjokknpbclhaaGreat
open Go Go.Lg Go.Num
set_option maxRecDepth 100000
attribute [local irreducible] Go.Lg.lrun Go.Lg.lwp Go.Lg.exThen Go.Lg.exBlk Go.Lg.keep Go.Lg.goodPost Go.Lg.mutPost
def encP (n d : Int) : LV := .agg [bl (decide (n < 0)),dg (digs n.natAbs),bl (decide (d < 0)),dg (digs d.natAbs)]
def encQ (q : Rat) : LV := .agg [bl (decide (q.num < 0)),dg (digs q.num.natAbs),bl false,dg (digs q.den)]
theorem encQ_eq (q : Rat) : encQ q = encP q.num (q.den : Int) := by
 have : ¬ (q.den : Int) < 0 := by omega
 simp [encQ,encP,this]
def encN (n : Nat) : LV := .agg [bl false,dg (digs n)]
theorem encI_nat (n : Nat) : encI (n : Int) = encN n := by
 have : ¬ (n : Int) < 0 := by omega
 simp [encI,encN,this]
theorem one_good (z : Int) (h : len z ≤ 1099511627776) : PureGood Tryz.prog 138 [encI z] (bl (decide (z = 1))) := by
 unfold len at h
 have hok := (digs_ok z.natAbs).getD 0
 have key : (decide (z = 1)) = (decide ((digs z.natAbs).length = 1) && decide ((digs z.natAbs).getD 0 0 = 1) && decide (¬ z < 0)) := by
  rw [Bool.eq_iff_iff]
  simp only [Bool.and_eq_true,decide_eq_true_eq]
  constructor
  ·rintro rfl;simp [digs_small]
  ·rintro ⟨⟨h1,h2⟩,h3⟩
   have := (len_one h1).1
   omega
 rw [key]
 simp only [encI,bl]
 refine good_of_lwp mix Tryz.func138 rfl (by decide) (nt := 19) rfl (rs := [.tmp 2]) rfl (nle rfl) ?_
 by_cases h1 : (digs z.natAbs).length = 1
 ·by_cases h2 : (digs z.natAbs).getD 0 0 = 1
  ·by_cases h3 : z < 0
   ·(repeat (first|apply zO (by decide +kernel)|apply zP (by decide +kernel)|(apply zS;(case h=>constructor<;>decide))|((first|apply l_go rfl|apply c_dec);(case hs=>(simp (disch := first|omega|exact kD rfl|exact kX rfl) only [smY,simprocAttr,bl,u32,u64,i64];exact rfl));first|refine c_bt ?_|refine c_bf ?_|refine zq ?_)))
    ((first|apply g_ret|apply g_end);case hres => (simp only [smR];simp (disch := first|omega|exact kD rfl|exact kX rfl) only [smY,simprocAttr,bl,u32,u64,i64];exact rfl))
    simp (disch := first|omega|exact kD rfl|exact kX rfl) only [smY,simprocAttr,bl,u32,u64,i64]
   ·(repeat (first|apply zO (by decide +kernel)|apply zP (by decide +kernel)|(apply zS;(case h=>constructor<;>decide))|((first|apply l_go rfl|apply c_dec);(case hs=>(simp (disch := first|omega|exact kD rfl|exact kX rfl) only [smY,simprocAttr,bl,u32,u64,i64];exact rfl));first|refine c_bt ?_|refine c_bf ?_|refine zq ?_)))
    ((first|apply g_ret|apply g_end);case hres => (simp only [smR];simp (disch := first|omega|exact kD rfl|exact kX rfl) only [smY,simprocAttr,bl,u32,u64,i64];exact rfl))
    simp (disch := first|omega|exact kD rfl|exact kX rfl) only [smY,simprocAttr,bl,u32,u64,i64]
  ·(repeat (first|apply zO (by decide +kernel)|apply zP (by decide +kernel)|(apply zS;(case h=>constructor<;>decide))|((first|apply l_go rfl|apply c_dec);(case hs=>(simp (disch := first|omega|exact kD rfl|exact kX rfl) only [smY,simprocAttr,bl,u32,u64,i64];exact rfl));first|refine c_bt ?_|refine c_bf ?_|refine zq ?_)))
   ((first|apply g_ret|apply g_end);case hres => (simp only [smR];simp (disch := first|omega|exact kD rfl|exact kX rfl) only [smY,simprocAttr,bl,u32,u64,i64];exact rfl))
   simp (disch := first|omega|exact kD rfl|exact kX rfl) only [smY,simprocAttr,bl,u32,u64,i64]
 ·(repeat (first|apply zO (by decide +kernel)|apply zP (by decide +kernel)|(apply zS;(case h=>constructor<;>decide))|((first|apply l_go rfl|apply c_dec);(case hs=>(simp (disch := first|omega|exact kD rfl|exact kX rfl) only [smY,simprocAttr,bl,u32,u64,i64];exact rfl));first|refine c_bt ?_|refine c_bf ?_|refine zq ?_)))
  ((first|apply g_ret|apply g_end);case hres => (simp only [smR];simp (disch := first|omega|exact kD rfl|exact kX rfl) only [smY,simprocAttr,bl,u32,u64,i64];exact rfl))
  simp (disch := first|omega|exact kD rfl|exact kX rfl) only [smY,simprocAttr,bl,u32,u64,i64]
theorem over_zero (n d : Int) (h : d = 0 ∨ n = 0) (hn : len n ≤ 137438953472) (hd : len d ≤ 137438953472) : PureGood Tryz.prog 141 [encI n,encI d] (encQ 0) := by
 have h1 := normal_good n (by omega)
 have h2 := normal_good d (by omega)
 have hof := of_good 1 (by omega)
 unfold len at hn hd
 have e0 : (digs 0).length = 0 := by simp [digs_zero]
 simp only [encI,bl,i64] at h1 h2 hof ⊢
 refine good_of_lwp mix Tryz.func141 rfl (by decide) (nt := 56) rfl (rs := [.cell 4 68]) rfl (nle rfl) ?_
 (repeat (first|apply zO (by decide +kernel)|apply zP (by decide +kernel)|(apply zS;(case h=>constructor<;>decide))|((first|apply l_go rfl|apply c_dec|apply zT rfl (by decide) rfl);(case hs=>(simp (disch := first|omega|exact kD rfl|exact kX rfl) only [smY,simprocAttr,bl,u32,u64,i64];exact rfl));first|refine c_bt ?_|refine c_bf ?_|refine zq ?_|(case hg=>assumption))))
 rcases h with rfl | rfl
 ·(repeat (first|apply zO (by decide +kernel)|apply zP (by decide +kernel)|(apply zS;(case h=>constructor<;>decide))|((first|apply l_go rfl|apply c_dec);(case hs=>(simp (disch := first|omega|exact kD rfl|exact kX rfl) only [smY,simprocAttr,bl,u32,u64,i64];exact rfl));first|refine c_bt ?_|refine c_bf ?_|refine zq ?_)))
  refine l_call rfl (by decide) rfl (by simp (disch := first|omega|exact kD rfl|exact kX rfl) only [smY,simprocAttr,bl,u32,u64,i64];exact rfl) hof ?_
  (repeat (first|apply zO (by decide +kernel)|apply zP (by decide +kernel)|(apply zS;(case h=>constructor<;>decide))|((first|apply l_go rfl|apply c_dec);(case hs=>(simp (disch := first|omega|exact kD rfl|exact kX rfl) only [smY,simprocAttr,bl,u32,u64,i64];exact rfl));first|refine c_bt ?_|refine c_bf ?_|refine zq ?_)))
  ((first|apply g_ret|apply g_end);case hres => (simp only [smR];simp (disch := first|omega|exact kD rfl|exact kX rfl) only [smY,simprocAttr,bl,u32,u64,i64];exact rfl))
  simp (disch := first|omega|exact kD rfl|exact kX rfl) only [smY,simprocAttr,bl,u32,u64,i64]
  simp [encQ,encP,bl,dg,digs_zero,dgs]
 ·by_cases hd0 : (digs d.natAbs).length = 0
  ·(repeat (first|apply zO (by decide +kernel)|apply zP (by decide +kernel)|(apply zS;(case h=>constructor<;>decide))|((first|apply l_go rfl|apply c_dec);(case hs=>(simp (disch := first|omega|exact kD rfl|exact kX rfl) only [smY,simprocAttr,bl,u32,u64,i64];exact rfl));first|refine c_bt ?_|refine c_bf ?_|refine zq ?_)))
   refine l_call rfl (by decide) rfl (by simp (disch := first|omega|exact kD rfl|exact kX rfl) only [smY,simprocAttr,bl,u32,u64,i64];exact rfl) hof ?_
   (repeat (first|apply zO (by decide +kernel)|apply zP (by decide +kernel)|(apply zS;(case h=>constructor<;>decide))|((first|apply l_go rfl|apply c_dec);(case hs=>(simp (disch := first|omega|exact kD rfl|exact kX rfl) only [smY,simprocAttr,bl,u32,u64,i64];exact rfl));first|refine c_bt ?_|refine c_bf ?_|refine zq ?_)))
   ((first|apply g_ret|apply g_end);case hres => (simp only [smR];simp (disch := first|omega|exact kD rfl|exact kX rfl) only [smY,simprocAttr,bl,u32,u64,i64];exact rfl))
   simp (disch := first|omega|exact kD rfl|exact kX rfl) only [smY,simprocAttr,bl,u32,u64,i64]
   simp [encQ,encP,bl,dg,digs_zero,dgs]
  ·(repeat (first|apply zO (by decide +kernel)|apply zP (by decide +kernel)|(apply zS;(case h=>constructor<;>decide))|((first|apply l_go rfl|apply c_dec);(case hs=>(simp (disch := first|omega|exact kD rfl|exact kX rfl) only [smY,simprocAttr,bl,u32,u64,i64];exact rfl));first|refine c_bt ?_|refine c_bf ?_|refine zq ?_)))
   refine l_call rfl (by decide) rfl (by simp (disch := first|omega|exact kD rfl|exact kX rfl) only [smY,simprocAttr,bl,u32,u64,i64];exact rfl) hof ?_
   (repeat (first|apply zO (by decide +kernel)|apply zP (by decide +kernel)|(apply zS;(case h=>constructor<;>decide))|((first|apply l_go rfl|apply c_dec);(case hs=>(simp (disch := first|omega|exact kD rfl|exact kX rfl) only [smY,simprocAttr,bl,u32,u64,i64];exact rfl));first|refine c_bt ?_|refine c_bf ?_|refine zq ?_)))
   ((first|apply g_ret|apply g_end);case hres => (simp only [smR];simp (disch := first|omega|exact kD rfl|exact kX rfl) only [smY,simprocAttr,bl,u32,u64,i64];exact rfl))
   simp (disch := first|omega|exact kD rfl|exact kX rfl) only [smY,simprocAttr,bl,u32,u64,i64]
   simp [encQ,encP,bl,dg,digs_zero,dgs]
set_option maxHeartbeats 2000000 in
theorem over_good (n d : Int) (hn : len n ≤ 137438953472) (hd : len d ≤ 137438953472) : PureGood Tryz.prog 141 [encI n,encI d] (encQ (Rat.divInt n d)) := by
 by_cases h0 : d = 0 ∨ n = 0
 ·have : Rat.divInt n d = 0 := by rcases h0 with rfl | rfl <;> simp
  rw [this]
  exact over_zero n d h0 hn hd
 have hd0 : d ≠ 0 := fun e => h0 (.inl e)
 have hn0 : n ≠ 0 := fun e => h0 (.inr e)
 have hp := divInt_parts (n := n) hd0
 have h1 := normal_good n (by omega)
 have h2 := normal_good d (by omega)
 have h3 := neg_good n (by omega)
 have h4 := neg_good d (by omega)
 have hd' := hd
 have hn' := hn
 unfold len at hd' hn'
 have hdl : (digs d.natAbs).length ≠ 0 := fun e => hd0 (by have := digs_eq_nil.1 (List.eq_nil_of_length_eq_zero e);omega)
 have hnl : (digs n.natAbs).length ≠ 0 := fun e => hn0 (by have := digs_eq_nil.1 (List.eq_nil_of_length_eq_zero e);omega)
 rw [encQ_eq]
 simp only [encI,bl,i64] at h1 h2 h3 h4 ⊢
 refine good_of_lwp mix Tryz.func141 rfl (by decide) (nt := 56) rfl (rs := [.cell 4 68]) rfl (nle rfl) ?_
 (repeat (first|apply zO (by decide +kernel)|apply zP (by decide +kernel)|(apply zS;(case h=>constructor<;>decide))|((first|apply l_go rfl|apply c_dec|apply zT rfl (by decide) rfl);(case hs=>(simp (disch := first|omega|exact kD rfl|exact kX rfl) only [smY,simprocAttr,bl,u32,u64,i64];exact rfl));first|refine c_bt ?_|refine c_bf ?_|refine zq ?_|(case hg=>assumption))))
 by_cases hneg : d < 0
 ·(repeat (first|apply zO (by decide +kernel)|apply zP (by decide +kernel)|(apply zS;(case h=>constructor<;>decide))|((first|apply l_go rfl|apply c_dec);(case hs=>(simp (disch := first|omega|exact kD rfl|exact kX rfl) only [smY,simprocAttr,bl,u32,u64,i64];exact rfl));first|refine c_bt ?_|refine c_bf ?_|refine zq ?_)))
  refine l_call rfl (by decide) rfl (by simp (disch := first|omega|exact kD rfl|exact kX rfl) only [smY,simprocAttr,bl,u32,u64,i64];exact rfl) h3 ?_
  (repeat (first|apply zO (by decide +kernel)|apply zP (by decide +kernel)|(apply zS;(case h=>constructor<;>decide))|((first|apply l_go rfl|apply c_dec);(case hs=>(simp (disch := first|omega|exact kD rfl|exact kX rfl) only [smY,simprocAttr,bl,u32,u64,i64];exact rfl));first|refine c_bt ?_|refine c_bf ?_|refine zq ?_)))
  refine l_call rfl (by decide) rfl (by simp (disch := first|omega|exact kD rfl|exact kX rfl) only [smY,simprocAttr,bl,u32,u64,i64];exact rfl) h4 ?_
  have hnl2 := len_neg n
  have hdl2 := len_neg d
  rw [if_pos hneg,← Int.neg_neg d,← Int.neg_gcd,← Int.gcd_neg,Int.neg_neg d,show ((d.natAbs : Nat) : Int) = -d by omega] at hp
  generalize hNN : -n = N at *
  generalize hDD : -d = D at *
  have hg0 : (Int.gcd N D : Nat) ≠ 0 := fun e => by have := Int.gcd_eq_zero_iff.1 e;omega
  have hgl : len ((Int.gcd N D : Nat) : Int) ≤ 137438953472 := Nat.le_trans (len_gcd_le (x := N) (y := D) (by omega)) (by omega)
  have hgo := gcd_good N D (by omega) (by omega)
  have hone1 := one_good D (by omega)
  have hone2 := one_good ((Int.gcd N D : Nat) : Int) (by omega)
  have hen := exact_good N ((Int.gcd N D : Nat) : Int) (by omega) (Int.emod_eq_zero_of_dvd (Int.gcd_dvd_left ..)) (by omega) (by omega)
  have hed := exact_good D ((Int.gcd N D : Nat) : Int) (by omega) (Int.emod_eq_zero_of_dvd (Int.gcd_dvd_right ..)) (by omega) (by omega)
  simp only [encI,bl,i64] at hgo hone1 hone2 hen hed
  by_cases h1 : D = 1
  ·have e1 : decide (D = 1) = true := by simpa using h1
   rw [e1] at hone1
   (repeat (first|apply zO (by decide +kernel)|apply zP (by decide +kernel)|(apply zS;(case h=>constructor<;>decide))|((first|apply l_go rfl|apply c_dec);(case hs=>(simp (disch := first|omega|exact kD rfl|exact kX rfl) only [smY,simprocAttr,bl,u32,u64,i64];exact rfl));first|refine c_bt ?_|refine c_bf ?_|refine zq ?_)))
   refine l_call rfl (by decide) rfl (by simp (disch := first|omega|exact kD rfl|exact kX rfl) only [smY,simprocAttr,bl,u32,u64,i64];exact rfl) hone1 ?_
   (repeat (first|apply zO (by decide +kernel)|apply zP (by decide +kernel)|(apply zS;(case h=>constructor<;>decide))|((first|apply l_go rfl|apply c_dec);(case hs=>(simp (disch := first|omega|exact kD rfl|exact kX rfl) only [smY,simprocAttr,bl,u32,u64,i64];exact rfl));first|refine c_bt ?_|refine c_bf ?_|refine zq ?_)))
   ((first|apply g_ret|apply g_end);case hres => (simp only [smR];simp (disch := first|omega|exact kD rfl|exact kX rfl) only [smY,simprocAttr,bl,u32,u64,i64];exact rfl))
   simp (disch := first|omega|exact kD rfl|exact kX rfl) only [smY,simprocAttr,bl,u32,u64,i64]
   rw [h1,Int.gcd_one,Int.natCast_one,Int.ediv_one,Int.ediv_one] at hp
   rw [h1,hp.1,hp.2]
   simp [encP,bl,dg]
  ·have e1 : decide (D = 1) = false := by simpa using h1
   rw [e1] at hone1
   by_cases h2 : ((Int.gcd N D : Nat) : Int) = 1
   ·have e2 : decide (((Int.gcd N D : Nat) : Int) = 1) = true := by simpa using h2
    rw [e2] at hone2
    (repeat (first|apply zO (by decide +kernel)|apply zP (by decide +kernel)|(apply zS;(case h=>constructor<;>decide))|((first|apply l_go rfl|apply c_dec);(case hs=>(simp (disch := first|omega|exact kD rfl|exact kX rfl) only [smY,simprocAttr,bl,u32,u64,i64];exact rfl));first|refine c_bt ?_|refine c_bf ?_|refine zq ?_)))
    refine l_call rfl (by decide) rfl (by simp (disch := first|omega|exact kD rfl|exact kX rfl) only [smY,simprocAttr,bl,u32,u64,i64];exact rfl) hone1 ?_
    (repeat (first|apply zO (by decide +kernel)|apply zP (by decide +kernel)|(apply zS;(case h=>constructor<;>decide))|((first|apply l_go rfl|apply c_dec);(case hs=>(simp (disch := first|omega|exact kD rfl|exact kX rfl) only [smY,simprocAttr,bl,u32,u64,i64];exact rfl));first|refine c_bt ?_|refine c_bf ?_|refine zq ?_)))
    refine l_call rfl (by decide) rfl (by simp (disch := first|omega|exact kD rfl|exact kX rfl) only [smY,simprocAttr,bl,u32,u64,i64];exact rfl) hgo ?_
    (repeat (first|apply zO (by decide +kernel)|apply zP (by decide +kernel)|(apply zS;(case h=>constructor<;>decide))|((first|apply l_go rfl|apply c_dec);(case hs=>(simp (disch := first|omega|exact kD rfl|exact kX rfl) only [smY,simprocAttr,bl,u32,u64,i64];exact rfl));first|refine c_bt ?_|refine c_bf ?_|refine zq ?_)))
    refine l_call rfl (by decide) rfl (by simp (disch := first|omega|exact kD rfl|exact kX rfl) only [smY,simprocAttr,bl,u32,u64,i64];exact rfl) hone2 ?_
    (repeat (first|apply zO (by decide +kernel)|apply zP (by decide +kernel)|(apply zS;(case h=>constructor<;>decide))|((first|apply l_go rfl|apply c_dec);(case hs=>(simp (disch := first|omega|exact kD rfl|exact kX rfl) only [smY,simprocAttr,bl,u32,u64,i64];exact rfl));first|refine c_bt ?_|refine c_bf ?_|refine zq ?_)))
    ((first|apply g_ret|apply g_end);case hres => (simp only [smR];simp (disch := first|omega|exact kD rfl|exact kX rfl) only [smY,simprocAttr,bl,u32,u64,i64];exact rfl))
    simp (disch := first|omega|exact kD rfl|exact kX rfl) only [smY,simprocAttr,bl,u32,u64,i64]
    rw [h2,Int.ediv_one,Int.ediv_one] at hp
    rw [hp.1,hp.2]
    have hdp : ¬ D < 0 := by omega
    simp [encP,bl,dg,hdp]
   ·have e2 : decide (((Int.gcd N D : Nat) : Int) = 1) = false := by simpa using h2
    rw [e2] at hone2
    (repeat (first|apply zO (by decide +kernel)|apply zP (by decide +kernel)|(apply zS;(case h=>constructor<;>decide))|((first|apply l_go rfl|apply c_dec);(case hs=>(simp (disch := first|omega|exact kD rfl|exact kX rfl) only [smY,simprocAttr,bl,u32,u64,i64];exact rfl));first|refine c_bt ?_|refine c_bf ?_|refine zq ?_)))
    refine l_call rfl (by decide) rfl (by simp (disch := first|omega|exact kD rfl|exact kX rfl) only [smY,simprocAttr,bl,u32,u64,i64];exact rfl) hone1 ?_
    (repeat (first|apply zO (by decide +kernel)|apply zP (by decide +kernel)|(apply zS;(case h=>constructor<;>decide))|((first|apply l_go rfl|apply c_dec);(case hs=>(simp (disch := first|omega|exact kD rfl|exact kX rfl) only [smY,simprocAttr,bl,u32,u64,i64];exact rfl));first|refine c_bt ?_|refine c_bf ?_|refine zq ?_)))
    refine l_call rfl (by decide) rfl (by simp (disch := first|omega|exact kD rfl|exact kX rfl) only [smY,simprocAttr,bl,u32,u64,i64];exact rfl) hgo ?_
    (repeat (first|apply zO (by decide +kernel)|apply zP (by decide +kernel)|(apply zS;(case h=>constructor<;>decide))|((first|apply l_go rfl|apply c_dec);(case hs=>(simp (disch := first|omega|exact kD rfl|exact kX rfl) only [smY,simprocAttr,bl,u32,u64,i64];exact rfl));first|refine c_bt ?_|refine c_bf ?_|refine zq ?_)))
    refine l_call rfl (by decide) rfl (by simp (disch := first|omega|exact kD rfl|exact kX rfl) only [smY,simprocAttr,bl,u32,u64,i64];exact rfl) hone2 ?_
    (repeat (first|apply zO (by decide +kernel)|apply zP (by decide +kernel)|(apply zS;(case h=>constructor<;>decide))|((first|apply l_go rfl|apply c_dec);(case hs=>(simp (disch := first|omega|exact kD rfl|exact kX rfl) only [smY,simprocAttr,bl,u32,u64,i64];exact rfl));first|refine c_bt ?_|refine c_bf ?_|refine zq ?_)))
    refine l_call rfl (by decide) rfl (by simp (disch := first|omega|exact kD rfl|exact kX rfl) only [smY,simprocAttr,bl,u32,u64,i64];exact rfl) hen ?_
    (repeat (first|apply zO (by decide +kernel)|apply zP (by decide +kernel)|(apply zS;(case h=>constructor<;>decide))|((first|apply l_go rfl|apply c_dec);(case hs=>(simp (disch := first|omega|exact kD rfl|exact kX rfl) only [smY,simprocAttr,bl,u32,u64,i64];exact rfl));first|refine c_bt ?_|refine c_bf ?_|refine zq ?_)))
    refine l_call rfl (by decide) rfl (by simp (disch := first|omega|exact kD rfl|exact kX rfl) only [smY,simprocAttr,bl,u32,u64,i64];exact rfl) hed ?_
    (repeat (first|apply zO (by decide +kernel)|apply zP (by decide +kernel)|(apply zS;(case h=>constructor<;>decide))|((first|apply l_go rfl|apply c_dec);(case hs=>(simp (disch := first|omega|exact kD rfl|exact kX rfl) only [smY,simprocAttr,bl,u32,u64,i64];exact rfl));first|refine c_bt ?_|refine c_bf ?_|refine zq ?_)))
    ((first|apply g_ret|apply g_end);case hres => (simp only [smR];simp (disch := first|omega|exact kD rfl|exact kX rfl) only [smY,simprocAttr,bl,u32,u64,i64];exact rfl))
    simp (disch := first|omega|exact kD rfl|exact kX rfl) only [smY,simprocAttr,bl,u32,u64,i64]
    rw [hp.1,hp.2]
    have hdp : 0 ≤ D / ((Int.gcd N D : Nat) : Int) := Int.ediv_nonneg (by omega) (by omega)
    simp [encP,bl,dg,hdp]
 ·rw [if_neg hneg,show ((d.natAbs : Nat) : Int) = d by omega] at hp
  have hg0 : (Int.gcd n d : Nat) ≠ 0 := fun e => by have := Int.gcd_eq_zero_iff.1 e;omega
  have hgl : len ((Int.gcd n d : Nat) : Int) ≤ 137438953472 := Nat.le_trans (len_gcd_le (x := n) (y := d) (by omega)) (by omega)
  have hgo := gcd_good n d (by omega) (by omega)
  have hone1 := one_good d (by omega)
  have hone2 := one_good ((Int.gcd n d : Nat) : Int) (by omega)
  have hen := exact_good n ((Int.gcd n d : Nat) : Int) (by omega) (Int.emod_eq_zero_of_dvd (Int.gcd_dvd_left ..)) (by omega) (by omega)
  have hed := exact_good d ((Int.gcd n d : Nat) : Int) (by omega) (Int.emod_eq_zero_of_dvd (Int.gcd_dvd_right ..)) (by omega) (by omega)
  simp only [encI,bl,i64] at hgo hone1 hone2 hen hed
  by_cases h1 : d = 1
  ·have e1 : decide (d = 1) = true := by simpa using h1
   rw [e1] at hone1
   (repeat (first|apply zO (by decide +kernel)|apply zP (by decide +kernel)|(apply zS;(case h=>constructor<;>decide))|((first|apply l_go rfl|apply c_dec);(case hs=>(simp (disch := first|omega|exact kD rfl|exact kX rfl) only [smY,simprocAttr,bl,u32,u64,i64];exact rfl));first|refine c_bt ?_|refine c_bf ?_|refine zq ?_)))
   refine l_call rfl (by decide) rfl (by simp (disch := first|omega|exact kD rfl|exact kX rfl) only [smY,simprocAttr,bl,u32,u64,i64];exact rfl) hone1 ?_
   (repeat (first|apply zO (by decide +kernel)|apply zP (by decide +kernel)|(apply zS;(case h=>constructor<;>decide))|((first|apply l_go rfl|apply c_dec);(case hs=>(simp (disch := first|omega|exact kD rfl|exact kX rfl) only [smY,simprocAttr,bl,u32,u64,i64];exact rfl));first|refine c_bt ?_|refine c_bf ?_|refine zq ?_)))
   ((first|apply g_ret|apply g_end);case hres => (simp only [smR];simp (disch := first|omega|exact kD rfl|exact kX rfl) only [smY,simprocAttr,bl,u32,u64,i64];exact rfl))
   simp (disch := first|omega|exact kD rfl|exact kX rfl) only [smY,simprocAttr,bl,u32,u64,i64]
   rw [h1,Int.gcd_one,Int.natCast_one,Int.ediv_one,Int.ediv_one] at hp
   rw [h1,hp.1,hp.2]
   simp [encP,bl,dg]
  ·have e1 : decide (d = 1) = false := by simpa using h1
   rw [e1] at hone1
   by_cases h2 : ((Int.gcd n d : Nat) : Int) = 1
   ·have e2 : decide (((Int.gcd n d : Nat) : Int) = 1) = true := by simpa using h2
    rw [e2] at hone2
    (repeat (first|apply zO (by decide +kernel)|apply zP (by decide +kernel)|(apply zS;(case h=>constructor<;>decide))|((first|apply l_go rfl|apply c_dec);(case hs=>(simp (disch := first|omega|exact kD rfl|exact kX rfl) only [smY,simprocAttr,bl,u32,u64,i64];exact rfl));first|refine c_bt ?_|refine c_bf ?_|refine zq ?_)))
    refine l_call rfl (by decide) rfl (by simp (disch := first|omega|exact kD rfl|exact kX rfl) only [smY,simprocAttr,bl,u32,u64,i64];exact rfl) hone1 ?_
    (repeat (first|apply zO (by decide +kernel)|apply zP (by decide +kernel)|(apply zS;(case h=>constructor<;>decide))|((first|apply l_go rfl|apply c_dec);(case hs=>(simp (disch := first|omega|exact kD rfl|exact kX rfl) only [smY,simprocAttr,bl,u32,u64,i64];exact rfl));first|refine c_bt ?_|refine c_bf ?_|refine zq ?_)))
    refine l_call rfl (by decide) rfl (by simp (disch := first|omega|exact kD rfl|exact kX rfl) only [smY,simprocAttr,bl,u32,u64,i64];exact rfl) hgo ?_
    (repeat (first|apply zO (by decide +kernel)|apply zP (by decide +kernel)|(apply zS;(case h=>constructor<;>decide))|((first|apply l_go rfl|apply c_dec);(case hs=>(simp (disch := first|omega|exact kD rfl|exact kX rfl) only [smY,simprocAttr,bl,u32,u64,i64];exact rfl));first|refine c_bt ?_|refine c_bf ?_|refine zq ?_)))
    refine l_call rfl (by decide) rfl (by simp (disch := first|omega|exact kD rfl|exact kX rfl) only [smY,simprocAttr,bl,u32,u64,i64];exact rfl) hone2 ?_
    (repeat (first|apply zO (by decide +kernel)|apply zP (by decide +kernel)|(apply zS;(case h=>constructor<;>decide))|((first|apply l_go rfl|apply c_dec);(case hs=>(simp (disch := first|omega|exact kD rfl|exact kX rfl) only [smY,simprocAttr,bl,u32,u64,i64];exact rfl));first|refine c_bt ?_|refine c_bf ?_|refine zq ?_)))
    ((first|apply g_ret|apply g_end);case hres => (simp only [smR];simp (disch := first|omega|exact kD rfl|exact kX rfl) only [smY,simprocAttr,bl,u32,u64,i64];exact rfl))
    simp (disch := first|omega|exact kD rfl|exact kX rfl) only [smY,simprocAttr,bl,u32,u64,i64]
    rw [h2,Int.ediv_one,Int.ediv_one] at hp
    rw [hp.1,hp.2]
    have hdp : ¬ d < 0 := by omega
    simp [encP,bl,dg,hdp]
   ·have e2 : decide (((Int.gcd n d : Nat) : Int) = 1) = false := by simpa using h2
    rw [e2] at hone2
    (repeat (first|apply zO (by decide +kernel)|apply zP (by decide +kernel)|(apply zS;(case h=>constructor<;>decide))|((first|apply l_go rfl|apply c_dec);(case hs=>(simp (disch := first|omega|exact kD rfl|exact kX rfl) only [smY,simprocAttr,bl,u32,u64,i64];exact rfl));first|refine c_bt ?_|refine c_bf ?_|refine zq ?_)))
    refine l_call rfl (by decide) rfl (by simp (disch := first|omega|exact kD rfl|exact kX rfl) only [smY,simprocAttr,bl,u32,u64,i64];exact rfl) hone1 ?_
    (repeat (first|apply zO (by decide +kernel)|apply zP (by decide +kernel)|(apply zS;(case h=>constructor<;>decide))|((first|apply l_go rfl|apply c_dec);(case hs=>(simp (disch := first|omega|exact kD rfl|exact kX rfl) only [smY,simprocAttr,bl,u32,u64,i64];exact rfl));first|refine c_bt ?_|refine c_bf ?_|refine zq ?_)))
    refine l_call rfl (by decide) rfl (by simp (disch := first|omega|exact kD rfl|exact kX rfl) only [smY,simprocAttr,bl,u32,u64,i64];exact rfl) hgo ?_
    (repeat (first|apply zO (by decide +kernel)|apply zP (by decide +kernel)|(apply zS;(case h=>constructor<;>decide))|((first|apply l_go rfl|apply c_dec);(case hs=>(simp (disch := first|omega|exact kD rfl|exact kX rfl) only [smY,simprocAttr,bl,u32,u64,i64];exact rfl));first|refine c_bt ?_|refine c_bf ?_|refine zq ?_)))
    refine l_call rfl (by decide) rfl (by simp (disch := first|omega|exact kD rfl|exact kX rfl) only [smY,simprocAttr,bl,u32,u64,i64];exact rfl) hone2 ?_
    (repeat (first|apply zO (by decide +kernel)|apply zP (by decide +kernel)|(apply zS;(case h=>constructor<;>decide))|((first|apply l_go rfl|apply c_dec);(case hs=>(simp (disch := first|omega|exact kD rfl|exact kX rfl) only [smY,simprocAttr,bl,u32,u64,i64];exact rfl));first|refine c_bt ?_|refine c_bf ?_|refine zq ?_)))
    refine l_call rfl (by decide) rfl (by simp (disch := first|omega|exact kD rfl|exact kX rfl) only [smY,simprocAttr,bl,u32,u64,i64];exact rfl) hen ?_
    (repeat (first|apply zO (by decide +kernel)|apply zP (by decide +kernel)|(apply zS;(case h=>constructor<;>decide))|((first|apply l_go rfl|apply c_dec);(case hs=>(simp (disch := first|omega|exact kD rfl|exact kX rfl) only [smY,simprocAttr,bl,u32,u64,i64];exact rfl));first|refine c_bt ?_|refine c_bf ?_|refine zq ?_)))
    refine l_call rfl (by decide) rfl (by simp (disch := first|omega|exact kD rfl|exact kX rfl) only [smY,simprocAttr,bl,u32,u64,i64];exact rfl) hed ?_
    (repeat (first|apply zO (by decide +kernel)|apply zP (by decide +kernel)|(apply zS;(case h=>constructor<;>decide))|((first|apply l_go rfl|apply c_dec);(case hs=>(simp (disch := first|omega|exact kD rfl|exact kX rfl) only [smY,simprocAttr,bl,u32,u64,i64];exact rfl));first|refine c_bt ?_|refine c_bf ?_|refine zq ?_)))
    ((first|apply g_ret|apply g_end);case hres => (simp only [smR];simp (disch := first|omega|exact kD rfl|exact kX rfl) only [smY,simprocAttr,bl,u32,u64,i64];exact rfl))
    simp (disch := first|omega|exact kD rfl|exact kX rfl) only [smY,simprocAttr,bl,u32,u64,i64]
    rw [hp.1,hp.2]
    have hdp : 0 ≤ d / ((Int.gcd n d : Nat) : Int) := Int.ediv_nonneg (by omega) (by omega)
    simp [encP,bl,dg,hdp]
end Go.Proofs.YtpkjokknpbclhaaGreat
namespace Go.Proofs.YtpkjokknpbclhaaGreat
open Go Go.Lg Go.Num
set_option maxRecDepth 100000
attribute [local irreducible] Go.Lg.lrun Go.Lg.lwp Go.Lg.exThen Go.Lg.exBlk Go.Lg.keep Go.Lg.goodPost Go.Lg.mutPost
theorem mulN_good (a b : Nat) (ha : len (a : Int) ≤ 274877906944) (hb : len (b : Int) ≤ 274877906944) : PureGood Tryz.prog 140 [encN a,encN b] (encN (a * b)) := by
 have := mul_good a b ha hb
 rwa [← Int.natCast_mul,encI_nat,encI_nat,encI_nat] at this
theorem mulIN_good (a : Int) (b : Nat) (ha : len a ≤ 274877906944) (hb : len (b : Int) ≤ 274877906944) : PureGood Tryz.prog 140 [encI a,encN b] (encI (a * b)) := by
 have := mul_good a b ha hb
 rwa [encI_nat] at this
theorem mulNI_good (a : Nat) (b : Int) (ha : len (a : Int) ≤ 274877906944) (hb : len b ≤ 274877906944) : PureGood Tryz.prog 140 [encN a,encI b] (encI (a * b)) := by
 have := mul_good a b ha hb
 rwa [encI_nat] at this
theorem overN_good (n : Int) (d : Nat) (hn : len n ≤ 137438953472) (hd : len (d : Int) ≤ 137438953472) : PureGood Tryz.prog 141 [encI n,encN d] (encQ (Rat.divInt n d)) := by
 have := over_good n d hn hd
 rwa [encI_nat] at this
theorem signN_good (n : Nat) (h : n ≠ 0) (hl : len (n : Int) ≤ 1099511627776) : PureGood Tryz.prog 135 [encN n] (i64 1) := by
 have := isign_good n hl
 rwa [encI_nat,Int.sign_eq_one_of_pos (by omega)] at this
theorem oneN_good (n : Nat) (hl : len (n : Int) ≤ 1099511627776) : PureGood Tryz.prog 138 [encN n] (bl (decide (n = 1))) := by
 have := one_good n hl
 rw [encI_nat] at this
 have e : decide ((n : Int) = 1) = decide (n = 1) := by
  rw [Bool.eq_iff_iff];simp;omega
 rwa [e] at this
theorem of1_good : PureGood Tryz.prog 47 [i64 1] (encN 1) := by
 have := of_good 1 (by omega)
 exact (encI_nat 1) ▸ this
theorem qnorm_good (q : Rat) (h : lq q ≤ 68719476736) : PureGood Tryz.prog 137 [encQ q] (encQ q) := by
 have h1 := overN_good q.num q.den (by unfold lq at h;omega) (by unfold lq at h;omega)
 rw [self_divInt] at h1
 simp only [encQ,encI,encN,bl] at h1 ⊢
 refine good_of_lwp mix Tryz.func137 rfl (by decide) (nt := 8) rfl (rs := [.cell 2 68]) rfl (nle rfl) ?_
 (repeat (first|apply zO (by decide +kernel)|apply zP (by decide +kernel)|(apply zS;(case h=>constructor<;>decide))|((first|apply l_go rfl|apply c_dec|apply zT rfl (by decide) rfl);(case hs=>(simp (disch := first|omega|exact kD rfl|exact kX rfl) only [smY,simprocAttr,bl,u32,u64,i64];exact rfl));first|refine c_bt ?_|refine c_bf ?_|refine zq ?_|(case hg=>assumption))))
 ((first|apply g_ret|apply g_end);case hres => (simp only [smR];simp (disch := first|omega|exact kD rfl|exact kX rfl) only [smY,simprocAttr,bl,u32,u64,i64];exact rfl))
 simp (disch := first|omega|exact kD rfl|exact kX rfl) only [smY,simprocAttr,bl,u32,u64,i64]
theorem qof_good (n : Int) (h : -9223372036854775808 ≤ n ∧ n ≤ 9223372036854775807) : PureGood Tryz.prog 97 [i64 n] (encQ n) := by
 have h1 := of_good n h
 have h2 := of1_good
 have e1 : ((n : Rat)).num = n := rfl
 have e2 : ((n : Rat)).den = 1 := rfl
 simp only [encQ,encI,encN,bl,i64,e1,e2] at h1 h2 ⊢
 refine good_of_lwp mix Tryz.func97 rfl (by decide) (nt := 7) rfl (rs := [.cell 2 68]) rfl (nle rfl) ?_
 (repeat (first|apply zO (by decide +kernel)|apply zP (by decide +kernel)|(apply zS;(case h=>constructor<;>decide))|((first|apply l_go rfl|apply c_dec|apply zT rfl (by decide) rfl);(case hs=>(simp (disch := first|omega|exact kD rfl|exact kX rfl) only [smY,simprocAttr,bl,u32,u64,i64];exact rfl));first|refine c_bt ?_|refine c_bf ?_|refine zq ?_|(case hg=>assumption))))
 ((first|apply g_ret|apply g_end);case hres => (simp only [smR];simp (disch := first|omega|exact kD rfl|exact kX rfl) only [smY,simprocAttr,bl,u32,u64,i64];exact rfl))
 simp (disch := first|omega|exact kD rfl|exact kX rfl) only [smY,simprocAttr,bl,u32,u64,i64]
theorem whole_good (n : Int) (h : len n ≤ 1099511627776) : PureGood Tryz.prog 46 [encI n] (encQ n) := by
 have h1 := normal_good n h
 have h2 := of1_good
 have e1 : ((n : Rat)).num = n := rfl
 have e2 : ((n : Rat)).den = 1 := rfl
 simp only [encQ,encI,encN,bl,i64,e1,e2] at h1 h2 ⊢
 refine good_of_lwp mix Tryz.func46 rfl (by decide) (nt := 7) rfl (rs := [.cell 2 68]) rfl (nle rfl) ?_
 (repeat (first|apply zO (by decide +kernel)|apply zP (by decide +kernel)|(apply zS;(case h=>constructor<;>decide))|((first|apply l_go rfl|apply c_dec|apply zT rfl (by decide) rfl);(case hs=>(simp (disch := first|omega|exact kD rfl|exact kX rfl) only [smY,simprocAttr,bl,u32,u64,i64];exact rfl));first|refine c_bt ?_|refine c_bf ?_|refine zq ?_|(case hg=>assumption))))
 ((first|apply g_ret|apply g_end);case hres => (simp only [smR];simp (disch := first|omega|exact kD rfl|exact kX rfl) only [smY,simprocAttr,bl,u32,u64,i64];exact rfl))
 simp (disch := first|omega|exact kD rfl|exact kX rfl) only [smY,simprocAttr,bl,u32,u64,i64]
theorem qneg_good (q : Rat) (h : lq q ≤ 68719476736) : PureGood Tryz.prog 136 [encQ q] (encQ (-q)) := by
 have h0 := neg_good q.num (by unfold lq at h;omega)
 have h1 := overN_good (-q.num) q.den (by rw [len_neg];unfold lq at h;omega) (by unfold lq at h;omega)
 rw [← neg_divInt'] at h1
 simp only [encQ,encI,encN,bl] at h0 h1 ⊢
 refine good_of_lwp mix Tryz.func136 rfl (by decide) (nt := 9) rfl (rs := [.cell 2 68]) rfl (nle rfl) ?_
 (repeat (first|apply zO (by decide +kernel)|apply zP (by decide +kernel)|(apply zS;(case h=>constructor<;>decide))|((first|apply l_go rfl|apply c_dec|apply zT rfl (by decide) rfl);(case hs=>(simp (disch := first|omega|exact kD rfl|exact kX rfl) only [smY,simprocAttr,bl,u32,u64,i64];exact rfl));first|refine c_bt ?_|refine c_bf ?_|refine zq ?_|(case hg=>assumption))))
 ((first|apply g_ret|apply g_end);case hres => (simp only [smR];simp (disch := first|omega|exact kD rfl|exact kX rfl) only [smY,simprocAttr,bl,u32,u64,i64];exact rfl))
 simp (disch := first|omega|exact kD rfl|exact kX rfl) only [smY,simprocAttr,bl,u32,u64,i64]
theorem qmul_good (p q : Rat) (hp : lq p ≤ 34359738368) (hq : lq q ≤ 34359738368) : PureGood Tryz.prog 117 [encQ p,encQ q] (encQ (p * q)) := by
 have h1 := mul_good p.num q.num (by unfold lq at hp;omega) (by unfold lq at hq;omega)
 have h2 := mulN_good p.den q.den (by unfold lq at hp;omega) (by unfold lq at hq;omega)
 have l1 := len_mul p.num q.num
 have l2 := len_mul (p.den : Int) (q.den : Int)
 have h3 := overN_good (p.num * q.num) (p.den * q.den) (by unfold lq at hp hq;omega) (by rw [Int.natCast_mul];unfold lq at hp hq;omega)
 rw [Int.natCast_mul,← mul_divInt] at h3
 simp only [encQ,encI,encN,bl] at h1 h2 h3 ⊢
 refine good_of_lwp mix Tryz.func117 rfl (by decide) (nt := 16) rfl (rs := [.cell 4 68]) rfl (nle rfl) ?_
 (repeat (first|apply zO (by decide +kernel)|apply zP (by decide +kernel)|(apply zS;(case h=>constructor<;>decide))|((first|apply l_go rfl|apply c_dec|apply zT rfl (by decide) rfl);(case hs=>(simp (disch := first|omega|exact kD rfl|exact kX rfl) only [smY,simprocAttr,bl,u32,u64,i64];exact rfl));first|refine c_bt ?_|refine c_bf ?_|refine zq ?_|(case hg=>assumption))))
 ((first|apply g_ret|apply g_end);case hres => (simp only [smR];simp (disch := first|omega|exact kD rfl|exact kX rfl) only [smY,simprocAttr,bl,u32,u64,i64];exact rfl))
 simp (disch := first|omega|exact kD rfl|exact kX rfl) only [smY,simprocAttr,bl,u32,u64,i64]
theorem qsign_good (q : Rat) (h : lq q ≤ 68719476736) : PureGood Tryz.prog 113 [encQ q] (i64 q.num.sign) := by
 have h1 := isign_good q.num (by unfold lq at h;omega)
 have h2 := signN_good q.den q.den_nz (by unfold lq at h;omega)
 have hs : -1 ≤ q.num.sign ∧ q.num.sign ≤ 1 := by
  rcases Int.sign_trichotomy q.num with e | e | e <;> rw [e] <;> omega
 simp only [encQ,encI,encN,bl,i64] at h1 h2 ⊢
 refine good_of_lwp mix Tryz.func113 rfl (by decide) (nt := 10) rfl (rs := [.tmp 2]) rfl (nle rfl) ?_
 (repeat (first|apply zO (by decide +kernel)|apply zP (by decide +kernel)|(apply zS;(case h=>constructor<;>decide))|((first|apply l_go rfl|apply c_dec|apply zT rfl (by decide) rfl);(case hs=>(simp (disch := first|omega|exact kD rfl|exact kX rfl) only [smY,simprocAttr,bl,u32,u64,i64];exact rfl));first|refine c_bt ?_|refine c_bf ?_|refine zq ?_|(case hg=>assumption))))
 ((first|apply g_ret|apply g_end);case hres => (simp only [smR];simp (disch := first|omega|exact kD rfl|exact kX rfl) only [smY,simprocAttr,bl,u32,u64,i64];exact rfl))
 simp (disch := first|omega|exact kD rfl|exact kX rfl) only [smY,simprocAttr,bl,u32,u64,i64]
 simp only [Int.mul_one]
theorem quo_good (p q : Rat) (h0 : q ≠ 0) (hp : lq p ≤ 34359738368) (hq : lq q ≤ 34359738368) : PureGood Tryz.prog 142 [encQ p,encQ q] (.tup [encQ (p / q),i64 0]) := by
 have hn0 : q.num ≠ 0 := fun e => h0 (Rat.num_eq_zero.1 e)
 have h1 := mulIN_good p.num q.den (by unfold lq at hp;omega) (by unfold lq at hq;omega)
 have h2 := mulNI_good p.den q.num (by unfold lq at hp;omega) (by unfold lq at hq;omega)
 have l1 := len_mul p.num (q.den : Int)
 have l2 := len_mul (p.den : Int) q.num
 have h3 := over_good (p.num * q.den) (p.den * q.num) (by unfold lq at hp hq;omega) (by unfold lq at hp hq;omega)
 rw [← div_divInt] at h3
 have hs := qsign_good q (by omega)
 have hsg : q.num.sign ≠ 0 := fun e => hn0 (Int.sign_eq_zero_iff_zero.1 e)
 generalize q.num.sign = sg at *
 simp only [encQ,encI,encN,bl,i64] at h1 h2 h3 hs ⊢
 refine good_of_lwp mix Tryz.func142 rfl (by decide) (nt := 21) rfl (rs := [.cell 4 68,.tmp 5]) rfl (nle rfl) ?_
 (repeat (first|apply zO (by decide +kernel)|apply zP (by decide +kernel)|(apply zS;(case h=>constructor<;>decide))|((first|apply l_go rfl|apply c_dec|apply zT rfl (by decide) rfl);(case hs=>(simp (disch := first|omega|exact kD rfl|exact kX rfl) only [smY,simprocAttr,bl,u32,u64,i64];exact rfl));first|refine c_bt ?_|refine c_bf ?_|refine zq ?_|(case hg=>assumption))))
 ((first|apply g_ret|apply g_end);case hres => (simp only [smR];simp (disch := first|omega|exact kD rfl|exact kX rfl) only [smY,simprocAttr,bl,u32,u64,i64];exact rfl))
 simp (disch := first|omega|exact kD rfl|exact kX rfl) only [smY,simprocAttr,bl,u32,u64,i64]
end Go.Proofs.YtpkjokknpbclhaaGreat
namespace Go.Proofs.YtpkjokknpbclhaaGreat
open Go Go.Lg Go.Num
set_option maxRecDepth 100000
attribute [local irreducible] Go.Lg.lrun Go.Lg.lwp Go.Lg.exThen Go.Lg.exBlk Go.Lg.keep Go.Lg.goodPost Go.Lg.mutPost
set_option maxHeartbeats 2000000 in
theorem qadd_good (p q : Rat) (hp : lq p ≤ 34359738368) (hq : lq q ≤ 34359738368) : PureGood Tryz.prog 116 [encQ p,encQ q] (encQ (p + q)) := by
 have s1 := signN_good p.den p.den_nz (by unfold lq at hp;omega)
 have s2 := signN_good q.den q.den_nz (by unfold lq at hq;omega)
 have o1 := oneN_good p.den (by unfold lq at hp;omega)
 have o2 := oneN_good q.den (by unfold lq at hq;omega)
 have h1 := mulIN_good p.num q.den (by unfold lq at hp;omega) (by unfold lq at hq;omega)
 have h2 := mulIN_good q.num p.den (by unfold lq at hq;omega) (by unfold lq at hp;omega)
 have l1 := len_mul p.num (q.den : Int)
 have l2 := len_mul q.num (p.den : Int)
 have l3 := len_add (p.num * q.den) (q.num * p.den)
 have l4 := len_mul (p.den : Int) (q.den : Int)
 have h3 := add_good (p.num * q.den) (q.num * p.den) (by unfold lq at hp hq;omega) (by unfold lq at hp hq;omega)
 have h4 := mulN_good p.den q.den (by unfold lq at hp;omega) (by unfold lq at hq;omega)
 have h5 := overN_good (p.num * q.den + q.num * p.den) (p.den * q.den) (by unfold lq at hp hq;omega) (by rw [Int.natCast_mul];unfold lq at hp hq;omega)
 rw [Int.natCast_mul,← add_divInt] at h5
 have h6 := add_good p.num q.num (by unfold lq at hp;omega) (by unfold lq at hq;omega)
 have h7 := of1_good
 have hpn : (encQ p : LV) = encQ p := rfl
 simp only [encQ,encI,encN,bl,i64] at s1 s2 o1 o2 h1 h2 h3 h4 h5 h6 h7 ⊢
 refine good_of_lwp mix Tryz.func116 rfl (by decide) (nt := 54) rfl (rs := [.cell 4 68]) rfl (nle rfl) ?_
 (repeat (first|apply zO (by decide +kernel)|apply zP (by decide +kernel)|(apply zS;(case h=>constructor<;>decide))|((first|apply l_go rfl|apply c_dec);(case hs=>(simp (disch := first|omega|exact kD rfl|exact kX rfl) only [smY,simprocAttr,bl,u32,u64,i64];exact rfl));first|refine c_bt ?_|refine c_bf ?_|refine zq ?_)))
 refine l_call rfl (by decide) rfl (by simp (disch := first|omega|exact kD rfl|exact kX rfl) only [smY,simprocAttr,bl,u32,u64,i64];exact rfl) s1 ?_
 (repeat (first|apply zO (by decide +kernel)|apply zP (by decide +kernel)|(apply zS;(case h=>constructor<;>decide))|((first|apply l_go rfl|apply c_dec);(case hs=>(simp (disch := first|omega|exact kD rfl|exact kX rfl) only [smY,simprocAttr,bl,u32,u64,i64];exact rfl));first|refine c_bt ?_|refine c_bf ?_|refine zq ?_)))
 refine l_call rfl (by decide) rfl (by simp (disch := first|omega|exact kD rfl|exact kX rfl) only [smY,simprocAttr,bl,u32,u64,i64];exact rfl) s2 ?_
 (repeat (first|apply zO (by decide +kernel)|apply zP (by decide +kernel)|(apply zS;(case h=>constructor<;>decide))|((first|apply l_go rfl|apply c_dec);(case hs=>(simp (disch := first|omega|exact kD rfl|exact kX rfl) only [smY,simprocAttr,bl,u32,u64,i64];exact rfl));first|refine c_bt ?_|refine c_bf ?_|refine zq ?_)))
 by_cases e1 : p.den = 1
 ·have e1' : decide (p.den = 1) = true := by simpa using e1
  rw [e1'] at o1
  refine l_call rfl (by decide) rfl (by simp (disch := first|omega|exact kD rfl|exact kX rfl) only [smY,simprocAttr,bl,u32,u64,i64];exact rfl) o1 ?_
  (repeat (first|apply zO (by decide +kernel)|apply zP (by decide +kernel)|(apply zS;(case h=>constructor<;>decide))|((first|apply l_go rfl|apply c_dec);(case hs=>(simp (disch := first|omega|exact kD rfl|exact kX rfl) only [smY,simprocAttr,bl,u32,u64,i64];exact rfl));first|refine c_bt ?_|refine c_bf ?_|refine zq ?_)))
  by_cases e2 : q.den = 1
  ·have e2' : decide (q.den = 1) = true := by simpa using e2
   rw [e2'] at o2
   refine l_call rfl (by decide) rfl (by simp (disch := first|omega|exact kD rfl|exact kX rfl) only [smY,simprocAttr,bl,u32,u64,i64];exact rfl) o2 ?_
   (repeat (first|apply zO (by decide +kernel)|apply zP (by decide +kernel)|(apply zS;(case h=>constructor<;>decide))|((first|apply l_go rfl|apply c_dec);(case hs=>(simp (disch := first|omega|exact kD rfl|exact kX rfl) only [smY,simprocAttr,bl,u32,u64,i64];exact rfl));first|refine c_bt ?_|refine c_bf ?_|refine zq ?_)))
   refine l_call rfl (by decide) rfl (by simp (disch := first|omega|exact kD rfl|exact kX rfl) only [smY,simprocAttr,bl,u32,u64,i64];exact rfl) h6 ?_
   (repeat (first|apply zO (by decide +kernel)|apply zP (by decide +kernel)|(apply zS;(case h=>constructor<;>decide))|((first|apply l_go rfl|apply c_dec);(case hs=>(simp (disch := first|omega|exact kD rfl|exact kX rfl) only [smY,simprocAttr,bl,u32,u64,i64];exact rfl));first|refine c_bt ?_|refine c_bf ?_|refine zq ?_)))
   refine l_call rfl (by decide) rfl (by simp (disch := first|omega|exact kD rfl|exact kX rfl) only [smY,simprocAttr,bl,u32,u64,i64];exact rfl) h7 ?_
   (repeat (first|apply zO (by decide +kernel)|apply zP (by decide +kernel)|(apply zS;(case h=>constructor<;>decide))|((first|apply l_go rfl|apply c_dec);(case hs=>(simp (disch := first|omega|exact kD rfl|exact kX rfl) only [smY,simprocAttr,bl,u32,u64,i64];exact rfl));first|refine c_bt ?_|refine c_bf ?_|refine zq ?_)))
   ((first|apply g_ret|apply g_end);case hres => (simp only [smR];simp (disch := first|omega|exact kD rfl|exact kX rfl) only [smY,simprocAttr,bl,u32,u64,i64];exact rfl))
   simp (disch := first|omega|exact kD rfl|exact kX rfl) only [smY,simprocAttr,bl,u32,u64,i64]
   obtain ⟨a1,a2⟩ := add_ints p q e1 e2
   rw [a1,a2]
  ·have e2' : decide (q.den = 1) = false := by simpa using e2
   rw [e2'] at o2
   refine l_call rfl (by decide) rfl (by simp (disch := first|omega|exact kD rfl|exact kX rfl) only [smY,simprocAttr,bl,u32,u64,i64];exact rfl) o2 ?_
   (repeat (first|apply zO (by decide +kernel)|apply zP (by decide +kernel)|(apply zS;(case h=>constructor<;>decide))|((first|apply l_go rfl|apply c_dec);(case hs=>(simp (disch := first|omega|exact kD rfl|exact kX rfl) only [smY,simprocAttr,bl,u32,u64,i64];exact rfl));first|refine c_bt ?_|refine c_bf ?_|refine zq ?_)))
   refine l_call rfl (by decide) rfl (by simp (disch := first|omega|exact kD rfl|exact kX rfl) only [smY,simprocAttr,bl,u32,u64,i64];exact rfl) h1 ?_
   (repeat (first|apply zO (by decide +kernel)|apply zP (by decide +kernel)|(apply zS;(case h=>constructor<;>decide))|((first|apply l_go rfl|apply c_dec);(case hs=>(simp (disch := first|omega|exact kD rfl|exact kX rfl) only [smY,simprocAttr,bl,u32,u64,i64];exact rfl));first|refine c_bt ?_|refine c_bf ?_|refine zq ?_)))
   refine l_call rfl (by decide) rfl (by simp (disch := first|omega|exact kD rfl|exact kX rfl) only [smY,simprocAttr,bl,u32,u64,i64];exact rfl) h2 ?_
   (repeat (first|apply zO (by decide +kernel)|apply zP (by decide +kernel)|(apply zS;(case h=>constructor<;>decide))|((first|apply l_go rfl|apply c_dec);(case hs=>(simp (disch := first|omega|exact kD rfl|exact kX rfl) only [smY,simprocAttr,bl,u32,u64,i64];exact rfl));first|refine c_bt ?_|refine c_bf ?_|refine zq ?_)))
   refine l_call rfl (by decide) rfl (by simp (disch := first|omega|exact kD rfl|exact kX rfl) only [smY,simprocAttr,bl,u32,u64,i64];exact rfl) h3 ?_
   (repeat (first|apply zO (by decide +kernel)|apply zP (by decide +kernel)|(apply zS;(case h=>constructor<;>decide))|((first|apply l_go rfl|apply c_dec);(case hs=>(simp (disch := first|omega|exact kD rfl|exact kX rfl) only [smY,simprocAttr,bl,u32,u64,i64];exact rfl));first|refine c_bt ?_|refine c_bf ?_|refine zq ?_)))
   refine l_call rfl (by decide) rfl (by simp (disch := first|omega|exact kD rfl|exact kX rfl) only [smY,simprocAttr,bl,u32,u64,i64];exact rfl) h4 ?_
   (repeat (first|apply zO (by decide +kernel)|apply zP (by decide +kernel)|(apply zS;(case h=>constructor<;>decide))|((first|apply l_go rfl|apply c_dec);(case hs=>(simp (disch := first|omega|exact kD rfl|exact kX rfl) only [smY,simprocAttr,bl,u32,u64,i64];exact rfl));first|refine c_bt ?_|refine c_bf ?_|refine zq ?_)))
   refine l_call rfl (by decide) rfl (by simp (disch := first|omega|exact kD rfl|exact kX rfl) only [smY,simprocAttr,bl,u32,u64,i64];exact rfl) h5 ?_
   (repeat (first|apply zO (by decide +kernel)|apply zP (by decide +kernel)|(apply zS;(case h=>constructor<;>decide))|((first|apply l_go rfl|apply c_dec);(case hs=>(simp (disch := first|omega|exact kD rfl|exact kX rfl) only [smY,simprocAttr,bl,u32,u64,i64];exact rfl));first|refine c_bt ?_|refine c_bf ?_|refine zq ?_)))
   ((first|apply g_ret|apply g_end);case hres => (simp only [smR];simp (disch := first|omega|exact kD rfl|exact kX rfl) only [smY,simprocAttr,bl,u32,u64,i64];exact rfl))
   simp (disch := first|omega|exact kD rfl|exact kX rfl) only [smY,simprocAttr,bl,u32,u64,i64]
 ·have e1' : decide (p.den = 1) = false := by simpa using e1
  rw [e1'] at o1
  refine l_call rfl (by decide) rfl (by simp (disch := first|omega|exact kD rfl|exact kX rfl) only [smY,simprocAttr,bl,u32,u64,i64];exact rfl) o1 ?_
  (repeat (first|apply zO (by decide +kernel)|apply zP (by decide +kernel)|(apply zS;(case h=>constructor<;>decide))|((first|apply l_go rfl|apply c_dec);(case hs=>(simp (disch := first|omega|exact kD rfl|exact kX rfl) only [smY,simprocAttr,bl,u32,u64,i64];exact rfl));first|refine c_bt ?_|refine c_bf ?_|refine zq ?_)))
  refine l_cskip rfl (by decide) rfl ?_
  (repeat (first|apply zO (by decide +kernel)|apply zP (by decide +kernel)|(apply zS;(case h=>constructor<;>decide))|((first|apply l_go rfl|apply c_dec);(case hs=>(simp (disch := first|omega|exact kD rfl|exact kX rfl) only [smY,simprocAttr,bl,u32,u64,i64];exact rfl));first|refine c_bt ?_|refine c_bf ?_|refine zq ?_)))
  refine l_call rfl (by decide) rfl (by simp (disch := first|omega|exact kD rfl|exact kX rfl) only [smY,simprocAttr,bl,u32,u64,i64];exact rfl) h1 ?_
  (repeat (first|apply zO (by decide +kernel)|apply zP (by decide +kernel)|(apply zS;(case h=>constructor<;>decide))|((first|apply l_go rfl|apply c_dec);(case hs=>(simp (disch := first|omega|exact kD rfl|exact kX rfl) only [smY,simprocAttr,bl,u32,u64,i64];exact rfl));first|refine c_bt ?_|refine c_bf ?_|refine zq ?_)))
  refine l_call rfl (by decide) rfl (by simp (disch := first|omega|exact kD rfl|exact kX rfl) only [smY,simprocAttr,bl,u32,u64,i64];exact rfl) h2 ?_
  (repeat (first|apply zO (by decide +kernel)|apply zP (by decide +kernel)|(apply zS;(case h=>constructor<;>decide))|((first|apply l_go rfl|apply c_dec);(case hs=>(simp (disch := first|omega|exact kD rfl|exact kX rfl) only [smY,simprocAttr,bl,u32,u64,i64];exact rfl));first|refine c_bt ?_|refine c_bf ?_|refine zq ?_)))
  refine l_call rfl (by decide) rfl (by simp (disch := first|omega|exact kD rfl|exact kX rfl) only [smY,simprocAttr,bl,u32,u64,i64];exact rfl) h3 ?_
  (repeat (first|apply zO (by decide +kernel)|apply zP (by decide +kernel)|(apply zS;(case h=>constructor<;>decide))|((first|apply l_go rfl|apply c_dec);(case hs=>(simp (disch := first|omega|exact kD rfl|exact kX rfl) only [smY,simprocAttr,bl,u32,u64,i64];exact rfl));first|refine c_bt ?_|refine c_bf ?_|refine zq ?_)))
  refine l_call rfl (by decide) rfl (by simp (disch := first|omega|exact kD rfl|exact kX rfl) only [smY,simprocAttr,bl,u32,u64,i64];exact rfl) h4 ?_
  (repeat (first|apply zO (by decide +kernel)|apply zP (by decide +kernel)|(apply zS;(case h=>constructor<;>decide))|((first|apply l_go rfl|apply c_dec);(case hs=>(simp (disch := first|omega|exact kD rfl|exact kX rfl) only [smY,simprocAttr,bl,u32,u64,i64];exact rfl));first|refine c_bt ?_|refine c_bf ?_|refine zq ?_)))
  refine l_call rfl (by decide) rfl (by simp (disch := first|omega|exact kD rfl|exact kX rfl) only [smY,simprocAttr,bl,u32,u64,i64];exact rfl) h5 ?_
  (repeat (first|apply zO (by decide +kernel)|apply zP (by decide +kernel)|(apply zS;(case h=>constructor<;>decide))|((first|apply l_go rfl|apply c_dec);(case hs=>(simp (disch := first|omega|exact kD rfl|exact kX rfl) only [smY,simprocAttr,bl,u32,u64,i64];exact rfl));first|refine c_bt ?_|refine c_bf ?_|refine zq ?_)))
  ((first|apply g_ret|apply g_end);case hres => (simp only [smR];simp (disch := first|omega|exact kD rfl|exact kX rfl) only [smY,simprocAttr,bl,u32,u64,i64];exact rfl))
  simp (disch := first|omega|exact kD rfl|exact kX rfl) only [smY,simprocAttr,bl,u32,u64,i64]
theorem qsub_good (p q : Rat) (hp : lq p ≤ 34359738368) (hq : lq q ≤ 34359738368) : PureGood Tryz.prog 114 [encQ p,encQ q] (encQ (p - q)) := by
 have h1 := qneg_good q (by omega)
 have h2 := qadd_good p (-q) hp (by rw [lq_neg];exact hq)
 rw [← Rat.sub_eq_add_neg] at h2
 simp only [encQ,bl] at h1 h2 ⊢
 refine good_of_lwp mix Tryz.func114 rfl (by decide) (nt := 9) rfl (rs := [.cell 4 68]) rfl (nle rfl) ?_
 (repeat (first|apply zO (by decide +kernel)|apply zP (by decide +kernel)|(apply zS;(case h=>constructor<;>decide))|((first|apply l_go rfl|apply c_dec);(case hs=>(simp (disch := first|omega|exact kD rfl|exact kX rfl) only [smY,simprocAttr,bl,u32,u64,i64];exact rfl));first|refine c_bt ?_|refine c_bf ?_|refine zq ?_)))
 refine l_call rfl (by decide) rfl (by simp (disch := first|omega|exact kD rfl|exact kX rfl) only [smY,simprocAttr,bl,u32,u64,i64];exact rfl) h1 ?_
 (repeat (first|apply zO (by decide +kernel)|apply zP (by decide +kernel)|(apply zS;(case h=>constructor<;>decide))|((first|apply l_go rfl|apply c_dec);(case hs=>(simp (disch := first|omega|exact kD rfl|exact kX rfl) only [smY,simprocAttr,bl,u32,u64,i64];exact rfl));first|refine c_bt ?_|refine c_bf ?_|refine zq ?_)))
 refine l_call rfl (by decide) rfl (by simp (disch := first|omega|exact kD rfl|exact kX rfl) only [smY,simprocAttr,bl,u32,u64,i64];exact rfl) h2 ?_
 (repeat (first|apply zO (by decide +kernel)|apply zP (by decide +kernel)|(apply zS;(case h=>constructor<;>decide))|((first|apply l_go rfl|apply c_dec);(case hs=>(simp (disch := first|omega|exact kD rfl|exact kX rfl) only [smY,simprocAttr,bl,u32,u64,i64];exact rfl));first|refine c_bt ?_|refine c_bf ?_|refine zq ?_)))
 ((first|apply g_ret|apply g_end);case hres => (simp only [smR];simp (disch := first|omega|exact kD rfl|exact kX rfl) only [smY,simprocAttr,bl,u32,u64,i64];exact rfl))
 simp (disch := first|omega|exact kD rfl|exact kX rfl) only [smY,simprocAttr,bl,u32,u64,i64]
end Go.Proofs.YtpkjokknpbclhaaGreat