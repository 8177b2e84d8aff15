/- Contracts of functions of the program, and what proves them (texts: SQ0). -/
import Derived.Test.YtaidcaemdkncgaaGreatDoorZSAX
set_option linter.all false
set_option maxRecDepth 100000
set_option maxHeartbeats 8000000
namespace Go.Proofs.YtaidcaemdkncgaaGreatDoor
open Go Go.Lg Go.Num
noncomputable def chkSq (d : Int) : Bool := match evo orcR 3 [.lit (.int .i64 d)] with
 | some (.lit (.bool b)) => b
 | _ => false
theorem chkSq_ok {d : Int} (h : chkSq d = true) : PureGood Tryz.prog 3 [i64 d] (.lit (.bool true)) := by
 unfold chkSq at h
 split at h
 ·rename_i b e
  subst h
  exact evo_good orcR_ok e
 ·cases h
noncomputable def chkSi (i : Nat) : Bool := chkSq (Int.sub (Int.ofNat i) 60)
attribute [local irreducible] Go.Lg.lrun Go.Lg.lwp Go.Lg.exThen Go.Lg.exBlk Go.Lg.keep Go.Lg.goodPost
theorem quad_far (d : Int) (hd : -9223372036854775808 ≤ d ∧ d ≤ 9223372036854775807) (h : d < -60 ∨ 60 < d) : PureGood Tryz.prog 11 [i64 d] (.tup [.agg [i64 0,.sl 0 []],i64 2]) := by
 simp only [i64,bl] at *
 rcases h with h | h
 ·
  refine good_of_lwp mix Tryz.func11 rfl (by decide) (nt := 37) rfl (rs := [.cell 2 25,.tmp 3]) rfl (nle rfl) ?_
  (repeat (first|refine zW ?_|((first|apply l_go rfl|apply c_dec|apply zT rfl (by decide) rfl);(case hs=>(simp (disch := first|omega|exact kD rfl|exact kX rfl) only [smY,simprocAttr,bl,i64,smE,undefL,undef];exact rfl));first|refine c_bt ?_|refine c_bf ?_|refine zq ?_|(case hg=>assumption))))
  ((first|apply g_ret|apply g_end);case hres => (simp only [smR];simp (disch := first|omega|exact kD rfl|exact kX rfl) only [smY,simprocAttr,bl,i64,smE,undefL,undef];exact rfl))
  simp (disch := first|omega|exact kD rfl|exact kX rfl) only [smY,simprocAttr,bl,i64,smE,undefL,undef]
 ·
  refine good_of_lwp mix Tryz.func11 rfl (by decide) (nt := 37) rfl (rs := [.cell 2 25,.tmp 3]) rfl (nle rfl) ?_
  (repeat (first|refine zW ?_|((first|apply l_go rfl|apply c_dec|apply zT rfl (by decide) rfl);(case hs=>(simp (disch := first|omega|exact kD rfl|exact kX rfl) only [smY,simprocAttr,bl,i64,smE,undefL,undef];exact rfl));first|refine c_bt ?_|refine c_bf ?_|refine zq ?_|(case hg=>assumption))))
  ((first|apply g_ret|apply g_end);case hres => (simp only [smR];simp (disch := first|omega|exact kD rfl|exact kX rfl) only [smY,simprocAttr,bl,i64,smE,undefL,undef];exact rfl))
  simp (disch := first|omega|exact kD rfl|exact kX rfl) only [smY,simprocAttr,bl,i64,smE,undefL,undef]
theorem lawSquares_far (d : Int) (hd : -9223372036854775808 ≤ d ∧ d ≤ 9223372036854775807) (h : d < -60 ∨ 60 < d) : PureGood Tryz.prog 3 [i64 d] (.lit (.bool true)) := by
 have ga := awake29_good
 have g := quad_far d hd h
 simp only [i64,bl] at *
 refine good_of_lwp mix Tryz.func3 rfl (by decide) (nt := 48) rfl (rs := [.tmp 2]) rfl (nle rfl) ?_
 (repeat (first|refine zW ?_|((first|apply l_go rfl|apply c_dec|apply zT rfl (by decide) rfl);(case hs=>(simp (disch := first|omega|exact kD rfl|exact kX rfl) only [smY,simprocAttr,bl,i64,smE,undefL,undef];exact rfl));first|refine c_bt ?_|refine c_bf ?_|refine zq ?_|(case hg=>assumption))))
 ((first|apply g_ret|apply g_end);case hres => (simp only [smR];simp (disch := first|omega|exact kD rfl|exact kX rfl) only [smY,simprocAttr,bl,i64,smE,undefL,undef];exact rfl))
 simp (disch := first|omega|exact kD rfl|exact kX rfl) only [smY,simprocAttr,bl,i64,smE,undefL,undef]
end Go.Proofs.YtaidcaemdkncgaaGreatDoor