/- Contracts of functions of the program, and what proves them (texts: J1). -/
import Derived.Test.YtpkjokknpbclhaaGreatZBR
set_option linter.all false
namespace Go.Proofs.YtpkjokknpbclhaaGreat
open Go Go.Lg Go.Num
set_option maxRecDepth 100000
set_option maxHeartbeats 8000000
attribute [local irreducible] Go.Lg.lrun Go.Lg.lwp Go.Lg.exThen Go.Lg.exBlk Go.Lg.keep Go.Lg.goodPost ec pt gn od cerr
def bothJ (m1 : Int) (l1 : List Int) (m2 : Int) (l2 : List Int) (e : Int) : Prop := PureGood Tryz.prog 12 [.agg [i64 m1,.sl l1.length (ec l1)],.agg [i64 m2,.sl l2.length (ec l2)]] (.tup [.sl 0 [],i64 0,i64 e]) ∧ PureGood Tryz.prog 13 [.agg [i64 m1,.sl l1.length (ec l1)],.agg [i64 m2,.sl l2.length (ec l2)]] (.tup [.sl 0 [],i64 0,i64 e])
theorem jac_e1 {m1 m2 : Int} {l1 l2 : List Int} (h1 : ChB m1 l1) (h2 : ChB m2 l2) (he : ¬ cerr m1 l1 = 0) : bothJ m1 l1 m2 l2 (cerr m1 l1) := by
 have g1 := order_err h1 he
 have g2 := rcheck28_good m1 l1 h1.m1 h1.ln
 unfold bothJ
 generalize cerr m1 l1 = e at *
 simp only [i64,bl] at *
 constructor
 ·
  refine good_of_lwp mix Tryz.func12 rfl (by decide) (nt := 87) rfl (rs := [.tmp 4,.tmp 5,.tmp 6]) rfl (nle rfl) ?_
  (repeat (first|apply zO (by decide +kernel)|apply zP (by decide +kernel)|(apply zS;(case h=>constructor<;>decide))|((first|apply l_go rfl|apply c_dec|apply zT rfl (by decide) rfl);(case hs=>(simp (disch := first|omega|exact kD rfl|exact kX rfl) only [smY,simprocAttr,bl,i64,smE,undefL,undef];exact rfl));first|refine c_bt ?_|refine c_bf ?_|refine zq ?_|(case hg=>assumption))))
  repeat (refine l_cskip rfl (by decide) rfl ?_;(repeat (first|apply zO (by decide +kernel)|apply zP (by decide +kernel)|(apply zS;(case h=>constructor<;>decide))|((first|apply l_go rfl|apply c_dec|apply zT rfl (by decide) rfl);(case hs=>(simp (disch := first|omega|exact kD rfl|exact kX rfl) only [smY,simprocAttr,bl,i64,smE,undefL,undef];exact rfl));first|refine c_bt ?_|refine c_bf ?_|refine zq ?_|(case hg=>assumption)))))
  ((first|apply g_ret|apply g_end);case hres => (simp only [smR];simp (disch := first|omega|exact kD rfl|exact kX rfl) only [smY,simprocAttr,bl,i64,smE,undefL,undef];exact rfl))
  simp (disch := first|omega|exact kD rfl|exact kX rfl) only [smY,simprocAttr,bl,i64,smE,undefL,undef]
 ·
  refine good_of_lwp mix Tryz.func13 rfl (by decide) (nt := 83) rfl (rs := [.tmp 4,.tmp 5,.tmp 6]) rfl (nle rfl) ?_
  (repeat (first|apply zO (by decide +kernel)|apply zP (by decide +kernel)|(apply zS;(case h=>constructor<;>decide))|((first|apply l_go rfl|apply c_dec|apply zT rfl (by decide) rfl);(case hs=>(simp (disch := first|omega|exact kD rfl|exact kX rfl) only [smY,simprocAttr,bl,i64,smE,undefL,undef];exact rfl));first|refine c_bt ?_|refine c_bf ?_|refine zq ?_|(case hg=>assumption))))
  repeat (refine l_cskip rfl (by decide) rfl ?_;(repeat (first|apply zO (by decide +kernel)|apply zP (by decide +kernel)|(apply zS;(case h=>constructor<;>decide))|((first|apply l_go rfl|apply c_dec|apply zT rfl (by decide) rfl);(case hs=>(simp (disch := first|omega|exact kD rfl|exact kX rfl) only [smY,simprocAttr,bl,i64,smE,undefL,undef];exact rfl));first|refine c_bt ?_|refine c_bf ?_|refine zq ?_|(case hg=>assumption)))))
  ((first|apply g_ret|apply g_end);case hres => (simp only [smR];simp (disch := first|omega|exact kD rfl|exact kX rfl) only [smY,simprocAttr,bl,i64,smE,undefL,undef];exact rfl))
  simp (disch := first|omega|exact kD rfl|exact kX rfl) only [smY,simprocAttr,bl,i64,smE,undefL,undef]
theorem jac_e2 {m1 m2 p : Int} {l1 l2 : List Int} (h1 : ChB m1 l1) (h2 : ChB m2 l2) (h0 : cerr m1 l1 = 0) (ho : PureGood Tryz.prog 29 [.agg [i64 m1,.sl l1.length (ec l1)]] (.tup [i64 p,i64 0])) (he : ¬ cerr m2 l2 = 0) : bothJ m1 l1 m2 l2 (cerr m2 l2) := by
 have g1 := order_err h2 he
 have g2 := rcheck28_good m1 l1 h1.m1 h1.ln
 have g3 := rcheck28_good m2 l2 h2.m1 h2.ln
 rw [h0] at g2
 unfold bothJ
 generalize cerr m2 l2 = e at *
 simp only [i64,bl] at *
 constructor
 ·
  refine good_of_lwp mix Tryz.func12 rfl (by decide) (nt := 87) rfl (rs := [.tmp 4,.tmp 5,.tmp 6]) rfl (nle rfl) ?_
  (repeat (first|apply zO (by decide +kernel)|apply zP (by decide +kernel)|(apply zS;(case h=>constructor<;>decide))|((first|apply l_go rfl|apply c_dec|apply zT rfl (by decide) rfl);(case hs=>(simp (disch := first|omega|exact kD rfl|exact kX rfl) only [smY,simprocAttr,bl,i64,smE,undefL,undef];exact rfl));first|refine c_bt ?_|refine c_bf ?_|refine zq ?_|(case hg=>assumption))))
  repeat (refine l_cskip rfl (by decide) rfl ?_;(repeat (first|apply zO (by decide +kernel)|apply zP (by decide +kernel)|(apply zS;(case h=>constructor<;>decide))|((first|apply l_go rfl|apply c_dec|apply zT rfl (by decide) rfl);(case hs=>(simp (disch := first|omega|exact kD rfl|exact kX rfl) only [smY,simprocAttr,bl,i64,smE,undefL,undef];exact rfl));first|refine c_bt ?_|refine c_bf ?_|refine zq ?_|(case hg=>assumption)))))
  ((first|apply g_ret|apply g_end);case hres => (simp only [smR];simp (disch := first|omega|exact kD rfl|exact kX rfl) only [smY,simprocAttr,bl,i64,smE,undefL,undef];exact rfl))
  simp (disch := first|omega|exact kD rfl|exact kX rfl) only [smY,simprocAttr,bl,i64,smE,undefL,undef]
 ·
  refine good_of_lwp mix Tryz.func13 rfl (by decide) (nt := 83) rfl (rs := [.tmp 4,.tmp 5,.tmp 6]) rfl (nle rfl) ?_
  (repeat (first|apply zO (by decide +kernel)|apply zP (by decide +kernel)|(apply zS;(case h=>constructor<;>decide))|((first|apply l_go rfl|apply c_dec|apply zT rfl (by decide) rfl);(case hs=>(simp (disch := first|omega|exact kD rfl|exact kX rfl) only [smY,simprocAttr,bl,i64,smE,undefL,undef];exact rfl));first|refine c_bt ?_|refine c_bf ?_|refine zq ?_|(case hg=>assumption))))
  repeat (refine l_cskip rfl (by decide) rfl ?_;(repeat (first|apply zO (by decide +kernel)|apply zP (by decide +kernel)|(apply zS;(case h=>constructor<;>decide))|((first|apply l_go rfl|apply c_dec|apply zT rfl (by decide) rfl);(case hs=>(simp (disch := first|omega|exact kD rfl|exact kX rfl) only [smY,simprocAttr,bl,i64,smE,undefL,undef];exact rfl));first|refine c_bt ?_|refine c_bf ?_|refine zq ?_|(case hg=>assumption)))))
  ((first|apply g_ret|apply g_end);case hres => (simp only [smR];simp (disch := first|omega|exact kD rfl|exact kX rfl) only [smY,simprocAttr,bl,i64,smE,undefL,undef];exact rfl))
  simp (disch := first|omega|exact kD rfl|exact kX rfl) only [smY,simprocAttr,bl,i64,smE,undefL,undef]
theorem jac_e24 {m1 m2 p q : Int} {l1 l2 : List Int} (h1 : ChB m1 l1) (h2 : ChB m2 l2) (e1 : cerr m1 l1 = 0) (e2 : cerr m2 l2 = 0) (o1 : PureGood Tryz.prog 29 [.agg [i64 m1,.sl l1.length (ec l1)]] (.tup [i64 p,i64 0])) (o2 : PureGood Tryz.prog 29 [.agg [i64 m2,.sl l2.length (ec l2)]] (.tup [i64 q,i64 0])) (hm : ¬ m1 = m2) : bothJ m1 l1 m2 l2 24 := by
 have g2 := rcheck28_good m1 l1 h1.m1 h1.ln
 have g3 := rcheck28_good m2 l2 h2.m1 h2.ln
 rw [e1] at g2
 rw [e2] at g3
 unfold bothJ
 simp only [i64,bl] at *
 constructor
 ·
  refine good_of_lwp mix Tryz.func12 rfl (by decide) (nt := 87) rfl (rs := [.tmp 4,.tmp 5,.tmp 6]) rfl (nle rfl) ?_
  (repeat (first|apply zO (by decide +kernel)|apply zP (by decide +kernel)|(apply zS;(case h=>constructor<;>decide))|((first|apply l_go rfl|apply c_dec|apply zT rfl (by decide) rfl);(case hs=>(simp (disch := first|omega|exact kD rfl|exact kX rfl) only [smY,simprocAttr,bl,i64,smE,undefL,undef];exact rfl));first|refine c_bt ?_|refine c_bf ?_|refine zq ?_|(case hg=>assumption))))
  repeat (refine l_cskip rfl (by decide) rfl ?_;(repeat (first|apply zO (by decide +kernel)|apply zP (by decide +kernel)|(apply zS;(case h=>constructor<;>decide))|((first|apply l_go rfl|apply c_dec|apply zT rfl (by decide) rfl);(case hs=>(simp (disch := first|omega|exact kD rfl|exact kX rfl) only [smY,simprocAttr,bl,i64,smE,undefL,undef];exact rfl));first|refine c_bt ?_|refine c_bf ?_|refine zq ?_|(case hg=>assumption)))))
  ((first|apply g_ret|apply g_end);case hres => (simp only [smR];simp (disch := first|omega|exact kD rfl|exact kX rfl) only [smY,simprocAttr,bl,i64,smE,undefL,undef];exact rfl))
  simp (disch := first|omega|exact kD rfl|exact kX rfl) only [smY,simprocAttr,bl,i64,smE,undefL,undef]
 ·
  refine good_of_lwp mix Tryz.func13 rfl (by decide) (nt := 83) rfl (rs := [.tmp 4,.tmp 5,.tmp 6]) rfl (nle rfl) ?_
  (repeat (first|apply zO (by decide +kernel)|apply zP (by decide +kernel)|(apply zS;(case h=>constructor<;>decide))|((first|apply l_go rfl|apply c_dec|apply zT rfl (by decide) rfl);(case hs=>(simp (disch := first|omega|exact kD rfl|exact kX rfl) only [smY,simprocAttr,bl,i64,smE,undefL,undef];exact rfl));first|refine c_bt ?_|refine c_bf ?_|refine zq ?_|(case hg=>assumption))))
  repeat (refine l_cskip rfl (by decide) rfl ?_;(repeat (first|apply zO (by decide +kernel)|apply zP (by decide +kernel)|(apply zS;(case h=>constructor<;>decide))|((first|apply l_go rfl|apply c_dec|apply zT rfl (by decide) rfl);(case hs=>(simp (disch := first|omega|exact kD rfl|exact kX rfl) only [smY,simprocAttr,bl,i64,smE,undefL,undef];exact rfl));first|refine c_bt ?_|refine c_bf ?_|refine zq ?_|(case hg=>assumption)))))
  ((first|apply g_ret|apply g_end);case hres => (simp only [smR];simp (disch := first|omega|exact kD rfl|exact kX rfl) only [smY,simprocAttr,bl,i64,smE,undefL,undef];exact rfl))
  simp (disch := first|omega|exact kD rfl|exact kX rfl) only [smY,simprocAttr,bl,i64,smE,undefL,undef]
theorem jac_e7 {n p q N : Nat} {l1 l2 : List Int} (h1 : ChB n l1) (h2 : ChB n l2) (e1 : cerr n l1 = 0) (e2 : cerr n l2 = 0) (n1 : 1 ≤ n) (n2 : n ≤ 60) (p1 : 1 ≤ p) (p2 : p ≤ 60) (q1 : 1 ≤ q) (q2 : q ≤ 60)
  (o1 : PureGood Tryz.prog 29 [.agg [i64 n,.sl l1.length (ec l1)]] (.tup [i64 p,i64 0])) (o2 : PureGood Tryz.prog 29 [.agg [i64 n,.sl l2.length (ec l2)]] (.tup [i64 q,i64 0]))
  (r1 : PureGood Tryz.prog 34 [.agg [i64 n,.sl l1.length (ec l1)]] (i64 p)) (r2 : PureGood Tryz.prog 34 [.agg [i64 n,.sl l2.length (ec l2)]] (i64 q))
  (hN : Nat.lcm (Nat.lcm n p) q = N) (hl : PureGood Tryz.prog 31 [i64 N] (bl true)) (hphi : 12 < phN N N) : bothJ n l1 n l2 7 := by
 have g2 := rcheck28_good n l1 h1.m1 h1.ln
 have g3 := rcheck28_good n l2 h2.m1 h2.ln
 rw [e1] at g2
 rw [e2] at g3
 have b1 := lcm_le (a := n) (b := p) n1 p1
 have b2 := lcm_le (a := p) (b := q) p1 q1
 have b3 : n * p ≤ 60 * 60 := Nat.mul_le_mul n2 p2
 have b4 : p * q ≤ 60 * 60 := Nat.mul_le_mul p2 q2
 have c1 := glcm_good n p n1 (by omega) p1 (by omega)
 have c2 := glcm_good (Nat.lcm n p) q b1.1 (by omega) q1 (by omega)
 have c3 := rlcm29_good p q p1 (by omega) q1 (by omega)
 have c4 := rlcm29_good n (Nat.lcm p q) n1 (by omega) b2.1 (by omega)
 have b5 := lcm_le (a := Nat.lcm n p) (b := q) b1.1 q1
 have b6 : Nat.lcm n p * q ≤ 3600 * 60 := Nat.mul_le_mul (by omega) q2
 rw [← Nat.lcm_assoc,hN] at c4
 rw [hN] at c2 b5
 have c5 := phi28_good N (by omega)
 generalize phN N N = ph at *
 generalize Nat.lcm n p = L1 at *
 generalize Nat.lcm p q = L2 at *
 unfold bothJ
 simp only [i64,bl] at *
 constructor
 ·
  refine good_of_lwp mix Tryz.func12 rfl (by decide) (nt := 87) rfl (rs := [.tmp 4,.tmp 5,.tmp 6]) rfl (nle rfl) ?_
  (repeat (first|apply zO (by decide +kernel)|apply zP (by decide +kernel)|(apply zS;(case h=>constructor<;>decide))|((first|apply l_go rfl|apply c_dec|apply zT rfl (by decide) rfl);(case hs=>(simp (disch := first|omega|exact kD rfl|exact kX rfl) only [smY,simprocAttr,bl,i64,smE,undefL,undef];exact rfl));first|refine c_bt ?_|refine c_bf ?_|refine zq ?_|(case hg=>assumption))))
  repeat (refine l_cskip rfl (by decide) rfl ?_;(repeat (first|apply zO (by decide +kernel)|apply zP (by decide +kernel)|(apply zS;(case h=>constructor<;>decide))|((first|apply l_go rfl|apply c_dec|apply zT rfl (by decide) rfl);(case hs=>(simp (disch := first|omega|exact kD rfl|exact kX rfl) only [smY,simprocAttr,bl,i64,smE,undefL,undef];exact rfl));first|refine c_bt ?_|refine c_bf ?_|refine zq ?_|(case hg=>assumption)))))
  ((first|apply g_ret|apply g_end);case hres => (simp only [smR];simp (disch := first|omega|exact kD rfl|exact kX rfl) only [smY,simprocAttr,bl,i64,smE,undefL,undef];exact rfl))
  simp (disch := first|omega|exact kD rfl|exact kX rfl) only [smY,simprocAttr,bl,i64,smE,undefL,undef]
 ·
  refine good_of_lwp mix Tryz.func13 rfl (by decide) (nt := 83) rfl (rs := [.tmp 4,.tmp 5,.tmp 6]) rfl (nle rfl) ?_
  (repeat (first|apply zO (by decide +kernel)|apply zP (by decide +kernel)|(apply zS;(case h=>constructor<;>decide))|((first|apply l_go rfl|apply c_dec|apply zT rfl (by decide) rfl);(case hs=>(simp (disch := first|omega|exact kD rfl|exact kX rfl) only [smY,simprocAttr,bl,i64,smE,undefL,undef];exact rfl));first|refine c_bt ?_|refine c_bf ?_|refine zq ?_|(case hg=>assumption))))
  repeat (refine l_cskip rfl (by decide) rfl ?_;(repeat (first|apply zO (by decide +kernel)|apply zP (by decide +kernel)|(apply zS;(case h=>constructor<;>decide))|((first|apply l_go rfl|apply c_dec|apply zT rfl (by decide) rfl);(case hs=>(simp (disch := first|omega|exact kD rfl|exact kX rfl) only [smY,simprocAttr,bl,i64,smE,undefL,undef];exact rfl));first|refine c_bt ?_|refine c_bf ?_|refine zq ?_|(case hg=>assumption)))))
  ((first|apply g_ret|apply g_end);case hres => (simp only [smR];simp (disch := first|omega|exact kD rfl|exact kX rfl) only [smY,simprocAttr,bl,i64,smE,undefL,undef];exact rfl))
  simp (disch := first|omega|exact kD rfl|exact kX rfl) only [smY,simprocAttr,bl,i64,smE,undefL,undef]
end Go.Proofs.YtpkjokknpbclhaaGreat