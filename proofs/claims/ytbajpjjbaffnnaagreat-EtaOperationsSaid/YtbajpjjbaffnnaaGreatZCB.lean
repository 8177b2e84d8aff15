/- Contracts of functions of the program, and what proves them (texts: OP4). -/
import Derived.Test.YtbajpjjbaffnnaaGreatZBR
import Derived.Test.YtbajpjjbaffnnaaGreatZBY
set_option linter.all false
namespace Go.Proofs.YtbajpjjbaffnnaaGreat
open Go Go.Lg Go.Num
set_option maxRecDepth 100000
set_option maxHeartbeats 8000000
attribute [local irreducible] Go.Lg.lrun Go.Lg.lwp Go.Lg.exThen Go.Lg.exBlk Go.Lg.keep Go.Lg.goodPost ec
theorem ints_self (zs : List Int) (hl : zs.length ≤ 1000000) : PureGood Tryz.prog 112 [.sl zs.length (ec zs),.sl zs.length (ec zs)] (bl true) := by
 simp only [bl]
 refine good_of_lwp mix Tryz.func112 rfl (by decide) (nt := 26) rfl (rs := [.tmp 4]) rfl (nle rfl) ?_
 (repeat (first|apply zO (by decide +kernel)|apply zP (by decide +kernel)|(apply zS;(case h=>constructor<;>decide))|((first|apply l_go rfl|apply c_dec|apply zT rfl (by decide) rfl);(case hs=>(simp (disch := first|omega|exact kD rfl|exact kX rfl) only [smY,simprocAttr,bl,i64,smE,undefL,undef];exact rfl));first|refine c_bt ?_|refine c_bf ?_|refine zq ?_|(case hg=>assumption))))
 refine w_loop (α := {i : Nat // i ≤ zs.length}) (fun i => st 26 (lk [(0,.sl zs.length (ec zs)),(1,.sl zs.length (ec zs)),(5,.lit (.int .i64 i.1))]) (lkH []) 0) (fun i => zs.length - i.1) ⟨0,by omega⟩ ?_ ?_
 ·(refine Sub.plain ?_;simp only [smF,dg,renL,renLs,simprocAttr,bl,i64,smE,undefL,undef])
  all_goals (first | done | trace_state)
 ·rintro ⟨i,hi⟩
  simp only [st]
  by_cases hlt : i < zs.length
  ·(repeat (first|apply zO (by decide +kernel)|apply zP (by decide +kernel)|(apply zS;(case h=>constructor<;>decide))|((first|apply l_go rfl|apply c_dec|apply zT rfl (by decide) rfl);(case hs=>(simp (disch := first|omega|exact kD rfl|exact kX rfl) only [smY,simprocAttr,bl,i64,smE,undefL,undef];exact rfl));first|refine c_bt ?_|refine c_bf ?_|refine zq ?_|(case hg=>assumption))))
   refine ⟨⟨i + 1,by omega⟩,?_,by simp only;omega⟩
   (refine Sub.plain ?_;simp only [smF,dg,renL,renLs,simprocAttr,bl,i64,smE,undefL,undef])
   all_goals (first | done | trace_state)
  ·obtain rfl : i = zs.length := by omega
   (repeat (first|apply zO (by decide +kernel)|apply zP (by decide +kernel)|(apply zS;(case h=>constructor<;>decide))|((first|apply l_go rfl|apply c_dec|apply zT rfl (by decide) rfl);(case hs=>(simp (disch := first|omega|exact kD rfl|exact kX rfl) only [smY,simprocAttr,bl,i64,smE,undefL,undef];exact rfl));first|refine c_bt ?_|refine c_bf ?_|refine zq ?_|(case hg=>assumption))))
   ((first|apply g_ret|apply g_end);case hres => (simp only [smR];simp (disch := first|omega|exact kD rfl|exact kX rfl) only [smY,simprocAttr,bl,i64,smE,undefL,undef];exact rfl))
   simp (disch := first|omega|exact kD rfl|exact kX rfl) only [smY,simprocAttr,bl,i64,smE,undefL,undef]
theorem same_self (a : Int) (zs : List Int) (hl : zs.length ≤ 1000000) : PureGood Tryz.prog 56 [.agg [i64 a,.sl zs.length (ec zs)],.agg [i64 a,.sl zs.length (ec zs)]] (bl true) := by
 have g := ints_self zs hl
 simp only [i64,bl] at *
 refine good_of_lwp mix Tryz.func56 rfl (by decide) (nt := 17) rfl (rs := [.tmp 4]) rfl (nle rfl) ?_
 (repeat (first|apply zO (by decide +kernel)|apply zP (by decide +kernel)|(apply zS;(case h=>constructor<;>decide))|((first|apply l_go rfl|apply c_dec|apply zT rfl (by decide) rfl);(case hs=>(simp (disch := first|omega|exact kD rfl|exact kX rfl) only [smY,simprocAttr,bl,i64,smE,undefL,undef];exact rfl));first|refine c_bt ?_|refine c_bf ?_|refine zq ?_|(case hg=>assumption))))
 ((first|apply g_ret|apply g_end);case hres => (simp only [smR];simp (disch := first|omega|exact kD rfl|exact kX rfl) only [smY,simprocAttr,bl,i64,smE,undefL,undef];exact rfl))
 simp (disch := first|omega|exact kD rfl|exact kX rfl) only [smY,simprocAttr,bl,i64,smE,undefL,undef]
theorem lawOps_of (ha : PureGood Tryz.prog 13 [] (bl true)) (la : Int) (xs : List Int) (lb : Int) (ys : List Int) (n : Int)
  (hT : ¬ 40 < xs.length → ¬ 40 < ys.length → bothE 47 50 [.agg [i64 la,.sl xs.length (ec xs)],.agg [i64 lb,.sl ys.length (ec ys)]])
  (hP : ¬ 40 < xs.length → bothE 51 52 [.agg [i64 la,.sl xs.length (ec xs)],i64 n])
  (hR : ¬ 40 < xs.length → bothE 53 54 [.agg [i64 la,.sl xs.length (ec xs)],i64 n])
  (hQ : ¬ 40 < xs.length → bothE 48 55 [.agg [i64 la,.sl xs.length (ec xs)],i64 n]) :
  PureGood Tryz.prog 9 [.agg [i64 la,.sl xs.length (ec xs)],.agg [i64 lb,.sl ys.length (ec ys)],i64 n] (bl true) := by
 have g1 := great_good la xs
 have g2 := great_good lb ys
 by_cases h1 : 40 < xs.length
 ·rw [dec_t h1] at g1
  generalize ec xs = cx at *
  generalize ec ys = cy at *
  simp only [i64,bl] at *
  refine good_of_lwp mix Tryz.func9 rfl (by decide) (nt := 119) rfl (rs := [.tmp 6]) rfl (nle rfl) ?_
  (repeat (first|apply zO (by decide +kernel)|apply zP (by decide +kernel)|(apply zS;(case h=>constructor<;>decide))|((first|apply l_go rfl|apply c_dec|apply zT rfl (by decide) rfl);(case hs=>(simp (disch := first|omega|exact kD rfl|exact kX rfl) only [smY,simprocAttr,bl,i64,smE,undefL,undef];exact rfl));first|refine c_bt ?_|refine c_bf ?_|refine zq ?_|(case hg=>assumption))))
  repeat (refine l_cskip rfl (by decide) rfl ?_;(repeat (first|apply zO (by decide +kernel)|apply zP (by decide +kernel)|(apply zS;(case h=>constructor<;>decide))|((first|apply l_go rfl|apply c_dec|apply zT rfl (by decide) rfl);(case hs=>(simp (disch := first|omega|exact kD rfl|exact kX rfl) only [smY,simprocAttr,bl,i64,smE,undefL,undef];exact rfl));first|refine c_bt ?_|refine c_bf ?_|refine zq ?_|(case hg=>assumption)))))
  ((first|apply g_ret|apply g_end);case hres => (simp only [smR];simp (disch := first|omega|exact kD rfl|exact kX rfl) only [smY,simprocAttr,bl,i64,smE,undefL,undef];exact rfl))
  simp (disch := first|omega|exact kD rfl|exact kX rfl) only [smY,simprocAttr,bl,i64,smE,undefL,undef]
 ·rw [dec_f h1] at g1
  by_cases h2 : 40 < ys.length
  ·rw [dec_t h2] at g2
   generalize ec xs = cx at *
   generalize ec ys = cy at *
   simp only [i64,bl] at *
   refine good_of_lwp mix Tryz.func9 rfl (by decide) (nt := 119) rfl (rs := [.tmp 6]) rfl (nle rfl) ?_
   (repeat (first|apply zO (by decide +kernel)|apply zP (by decide +kernel)|(apply zS;(case h=>constructor<;>decide))|((first|apply l_go rfl|apply c_dec|apply zT rfl (by decide) rfl);(case hs=>(simp (disch := first|omega|exact kD rfl|exact kX rfl) only [smY,simprocAttr,bl,i64,smE,undefL,undef];exact rfl));first|refine c_bt ?_|refine c_bf ?_|refine zq ?_|(case hg=>assumption))))
   ((first|apply g_ret|apply g_end);case hres => (simp only [smR];simp (disch := first|omega|exact kD rfl|exact kX rfl) only [smY,simprocAttr,bl,i64,smE,undefL,undef];exact rfl))
   simp (disch := first|omega|exact kD rfl|exact kX rfl) only [smY,simprocAttr,bl,i64,smE,undefL,undef]
  ·rw [dec_f h2] at g2
   obtain ⟨a1,z1,e1,b1,t1,t2⟩ := hT h1 h2
   obtain ⟨a2,z2,e2,b2,p1,p2⟩ := hP h1
   obtain ⟨a3,z3,e3,b3,r1,r2⟩ := hR h1
   obtain ⟨a4,z4,e4,b4,q1,q2⟩ := hQ h1
   have s1 := same_self a1 z1 (by omega)
   have s2 := same_self a2 z2 (by omega)
   have s3 := same_self a3 z3 (by omega)
   have s4 := same_self a4 z4 (by omega)
   clear hT hP hR hQ
   generalize ec xs = cx at *
   generalize ec ys = cy at *
   generalize ec z1 = c1 at *
   generalize ec z2 = c2 at *
   generalize ec z3 = c3 at *
   generalize ec z4 = c4 at *
   simp only [i64,bl,shp] at *
   refine good_of_lwp mix Tryz.func9 rfl (by decide) (nt := 119) rfl (rs := [.tmp 6]) rfl (nle rfl) ?_
   (repeat (first|apply zO (by decide +kernel)|apply zP (by decide +kernel)|(apply zS;(case h=>constructor<;>decide))|((first|apply l_go rfl|apply c_dec|apply zT rfl (by decide) rfl);(case hs=>(simp (disch := first|omega|exact kD rfl|exact kX rfl) only [smY,simprocAttr,bl,i64,smE,undefL,undef];exact rfl));first|refine c_bt ?_|refine c_bf ?_|refine zq ?_|(case hg=>assumption))))
   ((first|apply g_ret|apply g_end);case hres => (simp only [smR];simp (disch := first|omega|exact kD rfl|exact kX rfl) only [smY,simprocAttr,bl,i64,smE,undefL,undef];exact rfl))
   simp (disch := first|omega|exact kD rfl|exact kX rfl) only [smY,simprocAttr,bl,i64,smE,undefL,undef]
end Go.Proofs.YtbajpjjbaffnnaaGreat