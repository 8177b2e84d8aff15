/- Contracts of functions of the program, and what proves them (texts: F2). -/
import Derived.Test.YtbajpjjbaffnnaaGreatZAM
set_option linter.all false
namespace Go.Num
end Go.Num
namespace Go.Proofs.YtbajpjjbaffnnaaGreat
open Go Go.Lg Go.Num
set_option maxRecDepth 100000
set_option maxHeartbeats 4000000
attribute [local irreducible] Go.Lg.lrun Go.Lg.lwp Go.Lg.exThen Go.Lg.exBlk Go.Lg.keep Go.Lg.goodPost
attribute [local irreducible] sg mg
theorem lq_i64 {z : Int} (h : -9223372036854775808 ≤ z ∧ z ≤ 9223372036854775808) : lq (z : Rat) ≤ 3 := by
 have h3 : len z ≤ 2 := len_pow_lt (e := 2) (by omega)
 rw [lq_int]
 omega
theorem rqsame_good (p q : Rat) (hp : lq p ≤ 1099511627776) (hq : lq q ≤ 1099511627776) : PureGood Tryz.prog 20 [encQ p,encQ q] (bl (decide (p = q))) := by
 unfold lq at hp hq
 have h1 := rsame_good p.num q.num (by omega) (by omega)
 have h2 := rsame_good p.den q.den (by omega) (by omega)
 have he : p = q ↔ p.num = q.num ∧ (p.den : Int) = q.den := ⟨fun e => by subst e;exact ⟨rfl,rfl⟩,fun e => Rat.ext e.1 (by omega)⟩
 simp only [encI_sm,encQ_sm,he,bl] at *
 clear he
 generalize (p.den : Int) = dp at *
 generalize (q.den : Int) = dq at *
 generalize p.num = np at *
 generalize q.num = nq at *
 by_cases h3 : np = nq
 ·have h3' : decide (np = nq) = true := by simpa using h3
  rw [h3'] at h1
  simp only [h3,true_and] at *
  refine good_of_lwp mix Tryz.func20 rfl (by decide) (nt := 17) rfl (rs := [.tmp 4]) rfl (nle rfl) ?_
  (repeat (first|apply zO (by decide +kernel)|apply zP (by decide +kernel)|(apply zS;(case h=>constructor<;>decide))|((first|apply l_go rfl|apply c_dec|apply zT rfl (by decide) rfl);(case hs=>(simp (disch := first|omega|exact kD rfl|exact kX rfl) only [smY,simprocAttr,bl,i64,smT];exact rfl));first|refine c_bt ?_|refine c_bf ?_|refine zq ?_|(case hg=>assumption))))
  ((first|apply g_ret|apply g_end);case hres => (simp only [smR];simp (disch := first|omega|exact kD rfl|exact kX rfl) only [smY,simprocAttr,bl,i64,smT];exact rfl))
  simp (disch := first|omega|exact kD rfl|exact kX rfl) only [smY,simprocAttr,bl,i64,smT]
 ·have h3' : decide (np = nq) = false := by simpa using h3
  rw [h3'] at h1
  simp only [h3,false_and,decide_false] at *
  refine good_of_lwp mix Tryz.func20 rfl (by decide) (nt := 17) rfl (rs := [.tmp 4]) rfl (nle rfl) ?_
  (repeat (first|apply zO (by decide +kernel)|apply zP (by decide +kernel)|(apply zS;(case h=>constructor<;>decide))|((first|apply l_go rfl|apply c_dec|apply zT rfl (by decide) rfl);(case hs=>(simp (disch := first|omega|exact kD rfl|exact kX rfl) only [smY,simprocAttr,bl,i64,smT];exact rfl));first|refine c_bt ?_|refine c_bf ?_|refine zq ?_|(case hg=>assumption))))
  refine l_cskip rfl (by decide) rfl ?_
  (repeat (first|apply zO (by decide +kernel)|apply zP (by decide +kernel)|(apply zS;(case h=>constructor<;>decide))|((first|apply l_go rfl|apply c_dec|apply zT rfl (by decide) rfl);(case hs=>(simp (disch := first|omega|exact kD rfl|exact kX rfl) only [smY,simprocAttr,bl,i64,smT];exact rfl));first|refine c_bt ?_|refine c_bf ?_|refine zq ?_|(case hg=>assumption))))
  ((first|apply g_ret|apply g_end);case hres => (simp only [smR];simp (disch := first|omega|exact kD rfl|exact kX rfl) only [smY,simprocAttr,bl,i64,smT];exact rfl))
  simp (disch := first|omega|exact kD rfl|exact kX rfl) only [smY,simprocAttr,bl,i64,smT]
theorem qadd_none (q : Rat) (h : lq q ≤ 34359738368) : PureGood Tryz.prog 107 [.agg [sg 0,mg 0,sg 0,mg 0],encQ q] (encQ q) := by
 have h1 := isign_good 0 (by unfold len;simp [digs_zero])
 have h2 := qnorm_good q (by omega)
 have e0 : (0 : Int).sign = 0 := rfl
 rw [e0] at h1
 simp only [encQ_sm,encI_sm,i64] at *
 refine good_of_lwp mix Tryz.func107 rfl (by decide) (nt := 54) rfl (rs := [.cell 4 46]) rfl (nle rfl) ?_
 (repeat (first|apply zO (by decide +kernel)|apply zP (by decide +kernel)|(apply zS;(case h=>constructor<;>decide))|((first|apply l_go rfl|apply c_dec|apply zT rfl (by decide) rfl);(case hs=>(simp (disch := first|omega|exact kD rfl|exact kX rfl) only [smY,simprocAttr,bl,i64,smT];exact rfl));first|refine c_bt ?_|refine c_bf ?_|refine zq ?_|(case hg=>assumption))))
 ((first|apply g_ret|apply g_end);case hres => (simp only [smR];simp (disch := first|omega|exact kD rfl|exact kX rfl) only [smY,simprocAttr,bl,i64,smT];exact rfl))
 simp (disch := first|omega|exact kD rfl|exact kX rfl) only [smY,simprocAttr,bl,i64,smT]
theorem sameRats_self (f : List Rat) (hf : ∀ c ∈ f,lq c ≤ 100000) (hl : f.length ≤ 1000000000) : PureGood Tryz.prog 70 [encF f,encF f] (.lit (.bool true)) := by
 rw [encF_qc]
 refine good_of_lwp mix Tryz.func70 rfl (by decide) (nt := 27) rfl (rs := [.tmp 4]) rfl (nle rfl) ?_
 (repeat (first|apply zO (by decide +kernel)|apply zP (by decide +kernel)|(apply zS;(case h=>constructor<;>decide))|((first|apply l_go rfl|apply c_dec|apply zT rfl (by decide) rfl);(case hs=>(simp (disch := first|omega|exact kD rfl|exact kX rfl) only [smY,simprocAttr,bl,i64,smT];exact rfl));first|refine c_bt ?_|refine c_bf ?_|refine zq ?_|(case hg=>assumption))))
 refine w_loop (α := {k : Nat // k ≤ f.length}) (fun k => st 27 (lk [(0,.sl f.length (qc f)),(1,.sl f.length (qc f)),(4,bl false),(5,i64 k.1)]) (lkH []) 0) (fun k => f.length - k.1) ⟨0,by omega⟩ ?_ ?_
 ·(refine Sub.plain ?_;simp only [smF,dg,renL,renLs,simprocAttr,bl,i64,smT])
 ·rintro ⟨k,hk⟩
  simp only [st]
  by_cases h : k < f.length
  ·have hm : lq (f.getD k 0) ≤ 100000 := by
    have : f.getD k 0 = f[k] := by simp [h]
    rw [this]
    exact hf _ (List.getElem_mem _)
   have hs := sameRat_good (f.getD k 0) (f.getD k 0) (by omega) (by omega)
   rw [dec_t rfl,bl] at hs
   generalize hc : f.getD k 0 = c at *
   rw [encQ_sm] at hs
   (repeat (first|apply zO (by decide +kernel)|apply zP (by decide +kernel)|(apply zS;(case h=>constructor<;>decide))|((first|apply l_go rfl|apply c_dec|apply zT rfl (by decide) rfl);(case hs=>(simp (disch := first|omega|exact kD rfl|exact kX rfl) only [smY,simprocAttr,bl,i64,smT,hc];exact rfl));first|refine c_bt ?_|refine c_bf ?_|refine zq ?_|(case hg=>assumption))))
   refine ⟨⟨k + 1,by omega⟩,?_,by simp only;omega⟩
   (refine Sub.plain ?_;simp only [smF,dg,renL,renLs,simprocAttr,bl,i64,smT])
  ·obtain rfl : k = f.length := by omega
   (repeat (first|apply zO (by decide +kernel)|apply zP (by decide +kernel)|(apply zS;(case h=>constructor<;>decide))|((first|apply l_go rfl|apply c_dec|apply zT rfl (by decide) rfl);(case hs=>(simp (disch := first|omega|exact kD rfl|exact kX rfl) only [smY,simprocAttr,bl,i64,smT];exact rfl));first|refine c_bt ?_|refine c_bf ?_|refine zq ?_|(case hg=>assumption))))
   ((first|apply g_ret|apply g_end);case hres => (simp only [smR];simp (disch := first|omega|exact kD rfl|exact kX rfl) only [smY,simprocAttr,bl,i64,smT];exact rfl))
   simp (disch := first|omega|exact kD rfl|exact kX rfl) only [smY,simprocAttr,bl,i64,smT]
end Go.Proofs.YtbajpjjbaffnnaaGreat