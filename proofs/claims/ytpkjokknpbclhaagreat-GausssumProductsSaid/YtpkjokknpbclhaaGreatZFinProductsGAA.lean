/- Contracts of functions of the program, and what proves them (texts: PDW PD0). -/
import Derived.Test.YtpkjokknpbclhaaGreatZBS
import Derived.Test.YtpkjokknpbclhaaGreatZBT
set_option linter.all false
namespace Go.Proofs.YtpkjokknpbclhaaGreat
open Go Go.Lg Go.Num
set_option maxRecDepth 100000
set_option maxHeartbeats 8000000
theorem cerr_len {n : Nat} {l : List Int} (h : cerr (n : Int) l = 0) : l.length = (od n).length ∧ ∀ i,i < l.length → 0 ≤ l.getD i 0 ∧ l.getD i 0 < ((od n).getD i 0 : Int) := by
 unfold cerr at h
 split at h
 ·split at h
  ·split at h
   ·rename_i h2 h3
    rw [Int.toNat_natCast] at h2 h3
    exact ⟨h2,h3⟩
   ·cases h
  ·cases h
 ·cases h
theorem len2 {α : Type} {l : List α} (h : l.length = 2) : ∃ a b,l = [a,b] := match l,h with
 | [a,b],_ => ⟨a,b,rfl⟩
theorem len3 {α : Type} {l : List α} (h : l.length = 3) : ∃ a b c,l = [a,b,c] := match l,h with
 | [a,b,c],_ => ⟨a,b,c,rfl⟩
theorem len6 {α : Type} {l : List α} (h : l.length = 6) : ∃ a b c d e f,l = [a,b,c,d,e,f] := match l,h with
 | [a,b,c,d,e,f],_ => ⟨a,b,c,d,e,f,rfl⟩
theorem len9 {α : Type} {l : List α} (h : l.length = 9) : ∃ a b c d e f x y z,l = [a,b,c,d,e,f,x,y,z] := match l,h with
 | [a,b,c,d,e,f,x,y,z],_ => ⟨a,b,c,d,e,f,x,y,z,rfl⟩
attribute [local irreducible] Go.Lg.lrun Go.Lg.lwp Go.Lg.exThen Go.Lg.exBlk Go.Lg.keep Go.Lg.goodPost pt gn od cerr
theorem dmul_e1 {m1 m2 : Int} {l1 l2 : List Int} (h1 : ChB m1 l1) (h2 : ChB m2 l2) (he : ¬ cerr m1 l1 = 0) : PureGood Tryz.prog 14 [.agg [i64 m1,.sl l1.length (ec l1)],.agg [i64 m2,.sl l2.length (ec l2)]] (.tup [.agg [i64 0,.sl 0 []],i64 (cerr m1 l1)]) := by
 have g1 := dcheck_good m1 l1 h1.m1 h1.ln
 generalize cerr m1 l1 = e at *
 generalize ec l1 = c1 at *
 generalize ec l2 = c2 at *
 simp only [i64,bl] at *
 refine good_of_lwp mix Tryz.func14 rfl (by decide) (nt := 62) rfl (rs := [.cell 4 24,.tmp 5]) rfl (nle rfl) ?_
 (repeat (first|apply zO (by decide +kernel)|apply zP (by decide +kernel)|(apply zS;(case h=>constructor<;>decide))|((first|apply l_go rfl|apply c_dec|apply zT rfl (by decide) rfl);(case hs=>(simp (disch := first|omega|exact kD rfl|exact kX rfl) only [smY,simprocAttr,bl,i64,smE,undefL,undef];exact rfl));first|refine c_bt ?_|refine c_bf ?_|refine zq ?_|(case hg=>assumption))))
 ((first|apply g_ret|apply g_end);case hres => (simp only [smR];simp (disch := first|omega|exact kD rfl|exact kX rfl) only [smY,simprocAttr,bl,i64,smE,undefL,undef];exact rfl))
 simp (disch := first|omega|exact kD rfl|exact kX rfl) only [smY,simprocAttr,bl,i64,smE,undefL,undef]
theorem dmul_e2 {m1 m2 : Int} {l1 l2 : List Int} (h1 : ChB m1 l1) (h2 : ChB m2 l2) (h0 : cerr m1 l1 = 0) (he : ¬ cerr m2 l2 = 0) : PureGood Tryz.prog 14 [.agg [i64 m1,.sl l1.length (ec l1)],.agg [i64 m2,.sl l2.length (ec l2)]] (.tup [.agg [i64 0,.sl 0 []],i64 (cerr m2 l2)]) := by
 have g1 := dcheck_good m1 l1 h1.m1 h1.ln
 have g2 := dcheck_good m2 l2 h2.m1 h2.ln
 rw [h0] at g1
 generalize cerr m2 l2 = e at *
 generalize ec l1 = c1 at *
 generalize ec l2 = c2 at *
 simp only [i64,bl] at *
 refine good_of_lwp mix Tryz.func14 rfl (by decide) (nt := 62) rfl (rs := [.cell 4 24,.tmp 5]) rfl (nle rfl) ?_
 (repeat (first|apply zO (by decide +kernel)|apply zP (by decide +kernel)|(apply zS;(case h=>constructor<;>decide))|((first|apply l_go rfl|apply c_dec|apply zT rfl (by decide) rfl);(case hs=>(simp (disch := first|omega|exact kD rfl|exact kX rfl) only [smY,simprocAttr,bl,i64,smE,undefL,undef];exact rfl));first|refine c_bt ?_|refine c_bf ?_|refine zq ?_|(case hg=>assumption))))
 ((first|apply g_ret|apply g_end);case hres => (simp only [smR];simp (disch := first|omega|exact kD rfl|exact kX rfl) only [smY,simprocAttr,bl,i64,smE,undefL,undef];exact rfl))
 simp (disch := first|omega|exact kD rfl|exact kX rfl) only [smY,simprocAttr,bl,i64,smE,undefL,undef]
theorem dmul_e24 {m1 m2 : Int} {l1 l2 : List Int} (h1 : ChB m1 l1) (h2 : ChB m2 l2) (e1 : cerr m1 l1 = 0) (e2 : cerr m2 l2 = 0) (hm : ¬ m1 = m2) : PureGood Tryz.prog 14 [.agg [i64 m1,.sl l1.length (ec l1)],.agg [i64 m2,.sl l2.length (ec l2)]] (.tup [.agg [i64 0,.sl 0 []],i64 24]) := by
 have g1 := dcheck_good m1 l1 h1.m1 h1.ln
 have g2 := dcheck_good m2 l2 h2.m1 h2.ln
 rw [e1] at g1
 rw [e2] at g2
 generalize ec l1 = c1 at *
 generalize ec l2 = c2 at *
 simp only [i64,bl] at *
 refine good_of_lwp mix Tryz.func14 rfl (by decide) (nt := 62) rfl (rs := [.cell 4 24,.tmp 5]) rfl (nle rfl) ?_
 (repeat (first|apply zO (by decide +kernel)|apply zP (by decide +kernel)|(apply zS;(case h=>constructor<;>decide))|((first|apply l_go rfl|apply c_dec|apply zT rfl (by decide) rfl);(case hs=>(simp (disch := first|omega|exact kD rfl|exact kX rfl) only [smY,simprocAttr,bl,i64,smE,undefL,undef];exact rfl));first|refine c_bt ?_|refine c_bf ?_|refine zq ?_|(case hg=>assumption))))
 ((first|apply g_ret|apply g_end);case hres => (simp only [smR];simp (disch := first|omega|exact kD rfl|exact kX rfl) only [smY,simprocAttr,bl,i64,smE,undefL,undef];exact rfl))
 simp (disch := first|omega|exact kD rfl|exact kX rfl) only [smY,simprocAttr,bl,i64,smE,undefL,undef]
theorem ec_nil : ec [] = [] := rfl
theorem ec_cons (a : Int) (l : List Int) : ec (a :: l) = .lit (.int .i64 a) :: ec l := rfl
theorem nI_nil : nI [] = [] := rfl
theorem nI_cons (a : Nat) (l : List Nat) : nI (a :: l) = (a : Int) :: nI l := rfl
theorem dmul_ok {n : Nat} {l1 l2 : List Int} (h1 : ChB n l1) (h2 : ChB n l2) (e1 : cerr n l1 = 0) (e2 : cerr n l2 = 0) (n1 : 1 ≤ n) (n2 : n ≤ 60) : ∃ k cs,PureGood Tryz.prog 14 [.agg [i64 n,.sl l1.length (ec l1)],.agg [i64 n,.sl l2.length (ec l2)]] (.tup [.agg [i64 n,.sl k cs],i64 0]) := by
 obtain ⟨p1,p2⟩ := cerr_len e1
 obtain ⟨q1,q2⟩ := cerr_len e2
 have g1 := dcheck_good n l1 h1.m1 h1.ln
 have g2 := dcheck_good n l2 h2.m1 h2.ln
 rw [e1] at g1
 rw [e2] at g2
 have gp := parts_good n1 n2
 rw [nlv_eq] at gp
 obtain ⟨t1,t2,t3,t4,t5,t6,t7,t8,t9⟩ := tb (m := n) n2
 have hO := fun i (hi : i < (od n).length) => od_pos (m := n) n2 hi
 clear e1 e2 h1 h2 t2 t4 t5 t6 t8 t9
 generalize od n = O at *
 generalize pt n = P at *
 match hk : O.length,t3 with
 | 0,_ =>
   rw [hk] at p1 q1 gp t1
   obtain rfl := List.length_eq_zero_iff.1 p1
   obtain rfl := List.length_eq_zero_iff.1 q1
   obtain rfl := List.length_eq_zero_iff.1 t1
   refine ⟨0,[],?_⟩
   simp only [ec_nil,ec_cons,nI_nil,nI_cons,List.length_cons,List.length_nil,Nat.reduceAdd,Nat.zero_add,i64] at *
   refine good_of_lwp mix Tryz.func14 rfl (by decide) (nt := 62) rfl (rs := [.cell 4 24,.tmp 5]) rfl (nle rfl) ?_
   (repeat (first|apply zO (by decide +kernel)|apply zP (by decide +kernel)|(apply zS;(case h=>constructor<;>decide))|((first|apply l_go rfl|apply c_dec|apply zT rfl (by decide) rfl);(case hs=>(simp (disch := first|omega|exact kD rfl|exact kX rfl) only [smY,simprocAttr,bl,i64,smE,undefL,undef];exact rfl));first|refine c_bt ?_|refine c_bf ?_|refine zq ?_|(case hg=>assumption))))
   refine loop_done (e := .exit 0) (by simp) (s' := ?_) (fun Φ hΦ => ?_) ?_
   rotate_left
   · (repeat (first|apply zO (by decide +kernel)|apply zP (by decide +kernel)|(apply zS;(case h=>constructor<;>decide))|((first|apply l_go rfl|apply c_dec|apply zT rfl (by decide) rfl);(case hs=>(simp (disch := first|omega|exact kD rfl|exact kX rfl) only [smY,simprocAttr,bl,i64,smE,undefL,undef];exact rfl));first|refine c_bt ?_|refine c_bf ?_|refine zq ?_|(case hg=>assumption))))
     exact hΦ
   (repeat (first|apply zO (by decide +kernel)|apply zP (by decide +kernel)|(apply zS;(case h=>constructor<;>decide))|((first|apply l_go rfl|apply c_dec|apply zT rfl (by decide) rfl);(case hs=>(simp (disch := first|omega|exact kD rfl|exact kX rfl) only [smY,simprocAttr,bl,i64,smE,undefL,undef];exact rfl));first|refine c_bt ?_|refine c_bf ?_|refine zq ?_|(case hg=>assumption))))
   ((first|apply g_ret|apply g_end);case hres => (simp only [smR];simp (disch := first|omega|exact kD rfl|exact kX rfl) only [smY,simprocAttr,bl,i64,smE,undefL,undef];exact rfl))
   simp (disch := first|omega|exact kD rfl|exact kX rfl) only [smY,simprocAttr,bl,i64,smE,undefL,undef]
 | 1,_ =>
   rw [hk] at p1 q1 gp t1
   obtain ⟨x0,rfl⟩ := List.length_eq_one_iff.1 p1
   obtain ⟨y0,rfl⟩ := List.length_eq_one_iff.1 q1
   obtain ⟨r0,o0,w0,rfl⟩ := len3 t1
   have b0 : 0 ≤ x0 ∧ x0 < (O.getD 0 0 : Int) := p2 0 (by simp)
   have c0 : 0 ≤ y0 ∧ y0 < (O.getD 0 0 : Int) := q2 0 (by simp)
   have d0 := hO 0 (by omega)
   have f0 : o0 = O.getD 0 0 := (t7 0 (by omega)).1
   rw [← f0] at b0 c0 d0
   clear p1 q1 t1 p2 q2 hO t7 f0 hk
   refine ⟨1,ec [(x0 + y0).tmod o0],?_⟩
   simp only [ec_nil,ec_cons,nI_nil,nI_cons,List.length_cons,List.length_nil,Nat.reduceAdd,Nat.zero_add,i64] at *
   refine good_of_lwp mix Tryz.func14 rfl (by decide) (nt := 62) rfl (rs := [.cell 4 24,.tmp 5]) rfl (nle rfl) ?_
   (repeat (first|apply zO (by decide +kernel)|apply zP (by decide +kernel)|(apply zS;(case h=>constructor<;>decide))|((first|apply l_go rfl|apply c_dec|apply zT rfl (by decide) rfl);(case hs=>(simp (disch := first|omega|exact kD rfl|exact kX rfl) only [smY,simprocAttr,bl,i64,smE,undefL,undef];exact rfl));first|refine c_bt ?_|refine c_bf ?_|refine zq ?_|(case hg=>assumption))))
   refine loop_more (s' := ?_) (fun Φ hΦ => ?_) ?_
   rotate_left
   · (repeat (first|apply zO (by decide +kernel)|apply zP (by decide +kernel)|(apply zS;(case h=>constructor<;>decide))|((first|apply l_go rfl|apply c_dec|apply zT rfl (by decide) rfl);(case hs=>(simp (disch := first|omega|exact kD rfl|exact kX rfl) only [smY,simprocAttr,bl,i64,smE,undefL,undef];exact rfl));first|refine c_bt ?_|refine c_bf ?_|refine zq ?_|(case hg=>assumption))))
     exact hΦ
   refine loop_done (e := .exit 0) (by simp) (s' := ?_) (fun Φ hΦ => ?_) ?_
   rotate_left
   · (repeat (first|apply zO (by decide +kernel)|apply zP (by decide +kernel)|(apply zS;(case h=>constructor<;>decide))|((first|apply l_go rfl|apply c_dec|apply zT rfl (by decide) rfl);(case hs=>(simp (disch := first|omega|exact kD rfl|exact kX rfl) only [smY,simprocAttr,bl,i64,smE,undefL,undef];exact rfl));first|refine c_bt ?_|refine c_bf ?_|refine zq ?_|(case hg=>assumption))))
     exact hΦ
   (repeat (first|apply zO (by decide +kernel)|apply zP (by decide +kernel)|(apply zS;(case h=>constructor<;>decide))|((first|apply l_go rfl|apply c_dec|apply zT rfl (by decide) rfl);(case hs=>(simp (disch := first|omega|exact kD rfl|exact kX rfl) only [smY,simprocAttr,bl,i64,smE,undefL,undef];exact rfl));first|refine c_bt ?_|refine c_bf ?_|refine zq ?_|(case hg=>assumption))))
   ((first|apply g_ret|apply g_end);case hres => (simp only [smR];simp (disch := first|omega|exact kD rfl|exact kX rfl) only [smY,simprocAttr,bl,i64,smE,undefL,undef];exact rfl))
   simp (disch := first|omega|exact kD rfl|exact kX rfl) only [smY,simprocAttr,bl,i64,smE,undefL,undef]
 | 2,_ =>
   rw [hk] at p1 q1 gp t1
   obtain ⟨x0,x1,rfl⟩ := len2 p1
   obtain ⟨y0,y1,rfl⟩ := len2 q1
   obtain ⟨r0,o0,w0,r1,o1,w1,rfl⟩ := len6 t1
   have b0 : 0 ≤ x0 ∧ x0 < (O.getD 0 0 : Int) := p2 0 (by simp)
   have c0 : 0 ≤ y0 ∧ y0 < (O.getD 0 0 : Int) := q2 0 (by simp)
   have d0 := hO 0 (by omega)
   have f0 : o0 = O.getD 0 0 := (t7 0 (by omega)).1
   rw [← f0] at b0 c0 d0
   have b1 : 0 ≤ x1 ∧ x1 < (O.getD 1 0 : Int) := p2 1 (by simp)
   have c1 : 0 ≤ y1 ∧ y1 < (O.getD 1 0 : Int) := q2 1 (by simp)
   have d1 := hO 1 (by omega)
   have f1 : o1 = O.getD 1 0 := (t7 1 (by omega)).1
   rw [← f1] at b1 c1 d1
   clear p1 q1 t1 p2 q2 hO t7 f0 f1 hk
   refine ⟨2,ec [(x0 + y0).tmod o0,(x1 + y1).tmod o1],?_⟩
   simp only [ec_nil,ec_cons,nI_nil,nI_cons,List.length_cons,List.length_nil,Nat.reduceAdd,Nat.zero_add,i64] at *
   refine good_of_lwp mix Tryz.func14 rfl (by decide) (nt := 62) rfl (rs := [.cell 4 24,.tmp 5]) rfl (nle rfl) ?_
   (repeat (first|apply zO (by decide +kernel)|apply zP (by decide +kernel)|(apply zS;(case h=>constructor<;>decide))|((first|apply l_go rfl|apply c_dec|apply zT rfl (by decide) rfl);(case hs=>(simp (disch := first|omega|exact kD rfl|exact kX rfl) only [smY,simprocAttr,bl,i64,smE,undefL,undef];exact rfl));first|refine c_bt ?_|refine c_bf ?_|refine zq ?_|(case hg=>assumption))))
   refine loop_more (s' := ?_) (fun Φ hΦ => ?_) ?_
   rotate_left
   · (repeat (first|apply zO (by decide +kernel)|apply zP (by decide +kernel)|(apply zS;(case h=>constructor<;>decide))|((first|apply l_go rfl|apply c_dec|apply zT rfl (by decide) rfl);(case hs=>(simp (disch := first|omega|exact kD rfl|exact kX rfl) only [smY,simprocAttr,bl,i64,smE,undefL,undef];exact rfl));first|refine c_bt ?_|refine c_bf ?_|refine zq ?_|(case hg=>assumption))))
     exact hΦ
   refine loop_more (s' := ?_) (fun Φ hΦ => ?_) ?_
   rotate_left
   · (repeat (first|apply zO (by decide +kernel)|apply zP (by decide +kernel)|(apply zS;(case h=>constructor<;>decide))|((first|apply l_go rfl|apply c_dec|apply zT rfl (by decide) rfl);(case hs=>(simp (disch := first|omega|exact kD rfl|exact kX rfl) only [smY,simprocAttr,bl,i64,smE,undefL,undef];exact rfl));first|refine c_bt ?_|refine c_bf ?_|refine zq ?_|(case hg=>assumption))))
     exact hΦ
   refine loop_done (e := .exit 0) (by simp) (s' := ?_) (fun Φ hΦ => ?_) ?_
   rotate_left
   · (repeat (first|apply zO (by decide +kernel)|apply zP (by decide +kernel)|(apply zS;(case h=>constructor<;>decide))|((first|apply l_go rfl|apply c_dec|apply zT rfl (by decide) rfl);(case hs=>(simp (disch := first|omega|exact kD rfl|exact kX rfl) only [smY,simprocAttr,bl,i64,smE,undefL,undef];exact rfl));first|refine c_bt ?_|refine c_bf ?_|refine zq ?_|(case hg=>assumption))))
     exact hΦ
   (repeat (first|apply zO (by decide +kernel)|apply zP (by decide +kernel)|(apply zS;(case h=>constructor<;>decide))|((first|apply l_go rfl|apply c_dec|apply zT rfl (by decide) rfl);(case hs=>(simp (disch := first|omega|exact kD rfl|exact kX rfl) only [smY,simprocAttr,bl,i64,smE,undefL,undef];exact rfl));first|refine c_bt ?_|refine c_bf ?_|refine zq ?_|(case hg=>assumption))))
   ((first|apply g_ret|apply g_end);case hres => (simp only [smR];simp (disch := first|omega|exact kD rfl|exact kX rfl) only [smY,simprocAttr,bl,i64,smE,undefL,undef];exact rfl))
   simp (disch := first|omega|exact kD rfl|exact kX rfl) only [smY,simprocAttr,bl,i64,smE,undefL,undef]
 | 3,_ =>
   rw [hk] at p1 q1 gp t1
   obtain ⟨x0,x1,x2,rfl⟩ := len3 p1
   obtain ⟨y0,y1,y2,rfl⟩ := len3 q1
   obtain ⟨r0,o0,w0,r1,o1,w1,r2,o2,w2,rfl⟩ := len9 t1
   have b0 : 0 ≤ x0 ∧ x0 < (O.getD 0 0 : Int) := p2 0 (by simp)
   have c0 : 0 ≤ y0 ∧ y0 < (O.getD 0 0 : Int) := q2 0 (by simp)
   have d0 := hO 0 (by omega)
   have f0 : o0 = O.getD 0 0 := (t7 0 (by omega)).1
   rw [← f0] at b0 c0 d0
   have b1 : 0 ≤ x1 ∧ x1 < (O.getD 1 0 : Int) := p2 1 (by simp)
   have c1 : 0 ≤ y1 ∧ y1 < (O.getD 1 0 : Int) := q2 1 (by simp)
   have d1 := hO 1 (by omega)
   have f1 : o1 = O.getD 1 0 := (t7 1 (by omega)).1
   rw [← f1] at b1 c1 d1
   have b2 : 0 ≤ x2 ∧ x2 < (O.getD 2 0 : Int) := p2 2 (by simp)
   have c2 : 0 ≤ y2 ∧ y2 < (O.getD 2 0 : Int) := q2 2 (by simp)
   have d2 := hO 2 (by omega)
   have f2 : o2 = O.getD 2 0 := (t7 2 (by omega)).1
   rw [← f2] at b2 c2 d2
   clear p1 q1 t1 p2 q2 hO t7 f0 f1 f2 hk
   refine ⟨3,ec [(x0 + y0).tmod o0,(x1 + y1).tmod o1,(x2 + y2).tmod o2],?_⟩
   simp only [ec_nil,ec_cons,nI_nil,nI_cons,List.length_cons,List.length_nil,Nat.reduceAdd,Nat.zero_add,i64] at *
   refine good_of_lwp mix Tryz.func14 rfl (by decide) (nt := 62) rfl (rs := [.cell 4 24,.tmp 5]) rfl (nle rfl) ?_
   (repeat (first|apply zO (by decide +kernel)|apply zP (by decide +kernel)|(apply zS;(case h=>constructor<;>decide))|((first|apply l_go rfl|apply c_dec|apply zT rfl (by decide) rfl);(case hs=>(simp (disch := first|omega|exact kD rfl|exact kX rfl) only [smY,simprocAttr,bl,i64,smE,undefL,undef];exact rfl));first|refine c_bt ?_|refine c_bf ?_|refine zq ?_|(case hg=>assumption))))
   refine loop_more (s' := ?_) (fun Φ hΦ => ?_) ?_
   rotate_left
   · (repeat (first|apply zO (by decide +kernel)|apply zP (by decide +kernel)|(apply zS;(case h=>constructor<;>decide))|((first|apply l_go rfl|apply c_dec|apply zT rfl (by decide) rfl);(case hs=>(simp (disch := first|omega|exact kD rfl|exact kX rfl) only [smY,simprocAttr,bl,i64,smE,undefL,undef];exact rfl));first|refine c_bt ?_|refine c_bf ?_|refine zq ?_|(case hg=>assumption))))
     exact hΦ
   refine loop_more (s' := ?_) (fun Φ hΦ => ?_) ?_
   rotate_left
   · (repeat (first|apply zO (by decide +kernel)|apply zP (by decide +kernel)|(apply zS;(case h=>constructor<;>decide))|((first|apply l_go rfl|apply c_dec|apply zT rfl (by decide) rfl);(case hs=>(simp (disch := first|omega|exact kD rfl|exact kX rfl) only [smY,simprocAttr,bl,i64,smE,undefL,undef];exact rfl));first|refine c_bt ?_|refine c_bf ?_|refine zq ?_|(case hg=>assumption))))
     exact hΦ
   refine loop_more (s' := ?_) (fun Φ hΦ => ?_) ?_
   rotate_left
   · (repeat (first|apply zO (by decide +kernel)|apply zP (by decide +kernel)|(apply zS;(case h=>constructor<;>decide))|((first|apply l_go rfl|apply c_dec|apply zT rfl (by decide) rfl);(case hs=>(simp (disch := first|omega|exact kD rfl|exact kX rfl) only [smY,simprocAttr,bl,i64,smE,undefL,undef];exact rfl));first|refine c_bt ?_|refine c_bf ?_|refine zq ?_|(case hg=>assumption))))
     exact hΦ
   refine loop_done (e := .exit 0) (by simp) (s' := ?_) (fun Φ hΦ => ?_) ?_
   rotate_left
   · (repeat (first|apply zO (by decide +kernel)|apply zP (by decide +kernel)|(apply zS;(case h=>constructor<;>decide))|((first|apply l_go rfl|apply c_dec|apply zT rfl (by decide) rfl);(case hs=>(simp (disch := first|omega|exact kD rfl|exact kX rfl) only [smY,simprocAttr,bl,i64,smE,undefL,undef];exact rfl));first|refine c_bt ?_|refine c_bf ?_|refine zq ?_|(case hg=>assumption))))
     exact hΦ
   (repeat (first|apply zO (by decide +kernel)|apply zP (by decide +kernel)|(apply zS;(case h=>constructor<;>decide))|((first|apply l_go rfl|apply c_dec|apply zT rfl (by decide) rfl);(case hs=>(simp (disch := first|omega|exact kD rfl|exact kX rfl) only [smY,simprocAttr,bl,i64,smE,undefL,undef];exact rfl));first|refine c_bt ?_|refine c_bf ?_|refine zq ?_|(case hg=>assumption))))
   ((first|apply g_ret|apply g_end);case hres => (simp only [smR];simp (disch := first|omega|exact kD rfl|exact kX rfl) only [smY,simprocAttr,bl,i64,smE,undefL,undef];exact rfl))
   simp (disch := first|omega|exact kD rfl|exact kX rfl) only [smY,simprocAttr,bl,i64,smE,undefL,undef]
theorem lawPd_err {m1 m2 a e f : Int} {k : Nat} {l1 l2 : List Int} {cs : List LV} (hl1 : ¬ 100 < l1.length) (hl2 : ¬ 100 < l2.length) (g1 : PureGood Tryz.prog 12 [.agg [i64 m1, .sl l1.length (ec l1)], .agg [i64 m2, .sl l2.length (ec l2)]] (.tup [.sl 0 [], i64 0, i64 e])) (he : ¬ e = 0)
  (g2 : PureGood Tryz.prog 14 [.agg [i64 m1,.sl l1.length (ec l1)],.agg [i64 m2,.sl l2.length (ec l2)]] (.tup [.agg [i64 a,.sl k cs],i64 f])) : PureGood Tryz.prog 5 [.agg [i64 m1,.sl l1.length (ec l1)],.agg [i64 m2,.sl l2.length (ec l2)]] (.lit (.bool true)) := by
 have ga := awake_good
 have c1 := many_good m1 l1
 have c2 := many_good m2 l2
 rw [dec_f hl1] at c1
 rw [dec_f hl2] at c2
 generalize ec l1 = d1 at *
 generalize ec l2 = d2 at *
 simp only [i64,bl] at *
 refine good_of_lwp mix Tryz.func5 rfl (by decide) (nt := 119) rfl (rs := [.tmp 4]) rfl (nle rfl) ?_
 (repeat (first|apply zO (by decide +kernel)|apply zP (by decide +kernel)|(apply zS;(case h=>constructor<;>decide))|((first|apply l_go rfl|apply c_dec|apply zT rfl (by decide) rfl);(case hs=>(simp (disch := first|omega|exact kD rfl|exact kX rfl) only [smY,simprocAttr,bl,i64,smE,undefL,undef];exact rfl));first|refine c_bt ?_|refine c_bf ?_|refine zq ?_|(case hg=>assumption))))
 repeat (refine l_cskip rfl (by decide) rfl ?_;(repeat (first|apply zO (by decide +kernel)|apply zP (by decide +kernel)|(apply zS;(case h=>constructor<;>decide))|((first|apply l_go rfl|apply c_dec|apply zT rfl (by decide) rfl);(case hs=>(simp (disch := first|omega|exact kD rfl|exact kX rfl) only [smY,simprocAttr,bl,i64,smE,undefL,undef];exact rfl));first|refine c_bt ?_|refine c_bf ?_|refine zq ?_|(case hg=>assumption)))))
 ((first|apply g_ret|apply g_end);case hres => (simp only [smR];simp (disch := first|omega|exact kD rfl|exact kX rfl) only [smY,simprocAttr,bl,i64,smE,undefL,undef];exact rfl))
 simp (disch := first|omega|exact kD rfl|exact kX rfl) only [smY,simprocAttr,bl,i64,smE,undefL,undef]
theorem lawPd_many {m1 m2 : Int} {l1 l2 : List Int} (h : 100 < l1.length ∨ 100 < l2.length) : PureGood Tryz.prog 5 [.agg [i64 m1,.sl l1.length (ec l1)],.agg [i64 m2,.sl l2.length (ec l2)]] (.lit (.bool true)) := by
 have ga := awake_good
 have c1 := many_good m1 l1
 have c2 := many_good m2 l2
 by_cases h1 : 100 < l1.length
 ·rw [dec_t h1] at c1
  generalize ec l1 = d1 at *
  generalize ec l2 = d2 at *
  simp only [i64,bl] at *
  refine good_of_lwp mix Tryz.func5 rfl (by decide) (nt := 119) rfl (rs := [.tmp 4]) rfl (nle rfl) ?_
  (repeat (first|apply zO (by decide +kernel)|apply zP (by decide +kernel)|(apply zS;(case h=>constructor<;>decide))|((first|apply l_go rfl|apply c_dec|apply zT rfl (by decide) rfl);(case hs=>(simp (disch := first|omega|exact kD rfl|exact kX rfl) only [smY,simprocAttr,bl,i64,smE,undefL,undef];exact rfl));first|refine c_bt ?_|refine c_bf ?_|refine zq ?_|(case hg=>assumption))))
  repeat (refine l_cskip rfl (by decide) rfl ?_;(repeat (first|apply zO (by decide +kernel)|apply zP (by decide +kernel)|(apply zS;(case h=>constructor<;>decide))|((first|apply l_go rfl|apply c_dec|apply zT rfl (by decide) rfl);(case hs=>(simp (disch := first|omega|exact kD rfl|exact kX rfl) only [smY,simprocAttr,bl,i64,smE,undefL,undef];exact rfl));first|refine c_bt ?_|refine c_bf ?_|refine zq ?_|(case hg=>assumption)))))
  ((first|apply g_ret|apply g_end);case hres => (simp only [smR];simp (disch := first|omega|exact kD rfl|exact kX rfl) only [smY,simprocAttr,bl,i64,smE,undefL,undef];exact rfl))
  simp (disch := first|omega|exact kD rfl|exact kX rfl) only [smY,simprocAttr,bl,i64,smE,undefL,undef]
 ·have h2 := h.resolve_left h1
  rw [dec_f h1] at c1
  rw [dec_t h2] at c2
  generalize ec l1 = d1 at *
  generalize ec l2 = d2 at *
  simp only [i64,bl] at *
  refine good_of_lwp mix Tryz.func5 rfl (by decide) (nt := 119) rfl (rs := [.tmp 4]) rfl (nle rfl) ?_
  (repeat (first|apply zO (by decide +kernel)|apply zP (by decide +kernel)|(apply zS;(case h=>constructor<;>decide))|((first|apply l_go rfl|apply c_dec|apply zT rfl (by decide) rfl);(case hs=>(simp (disch := first|omega|exact kD rfl|exact kX rfl) only [smY,simprocAttr,bl,i64,smE,undefL,undef];exact rfl));first|refine c_bt ?_|refine c_bf ?_|refine zq ?_|(case hg=>assumption))))
  repeat (refine l_cskip rfl (by decide) rfl ?_;(repeat (first|apply zO (by decide +kernel)|apply zP (by decide +kernel)|(apply zS;(case h=>constructor<;>decide))|((first|apply l_go rfl|apply c_dec|apply zT rfl (by decide) rfl);(case hs=>(simp (disch := first|omega|exact kD rfl|exact kX rfl) only [smY,simprocAttr,bl,i64,smE,undefL,undef];exact rfl));first|refine c_bt ?_|refine c_bf ?_|refine zq ?_|(case hg=>assumption)))))
  ((first|apply g_ret|apply g_end);case hres => (simp only [smR];simp (disch := first|omega|exact kD rfl|exact kX rfl) only [smY,simprocAttr,bl,i64,smE,undefL,undef];exact rfl))
  simp (disch := first|omega|exact kD rfl|exact kX rfl) only [smY,simprocAttr,bl,i64,smE,undefL,undef]
end Go.Proofs.YtpkjokknpbclhaaGreat
namespace Go.Proofs.YtpkjokknpbclhaaGreat
open Go Go.Lg Go.Num
set_option maxRecDepth 100000
noncomputable def chkPd (n : Nat) (v w : List Nat) : Bool := match evo orcX 5 [chV n v,chV n w] with
 | some (.lit (.bool b)) => b
 | _ => false
theorem chkPd_ok {n : Nat} {v w : List Nat} (h : chkPd n v w = true) : PureGood Tryz.prog 5 [.agg [i64 n,.sl (nI v).length (ec (nI v))],.agg [i64 n,.sl (nI w).length (ec (nI w))]] (.lit (.bool true)) := by
 unfold chkPd at h
 split at h
 ·rename_i b e
  rw [← chV_eq,← chV_eq]
  subst h
  exact evo_good orcX_ok e
 ·cases h
end Go.Proofs.YtpkjokknpbclhaaGreat