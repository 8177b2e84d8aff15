/- Contracts of functions of the program, and what proves them (texts: Q8 Q9 Q10 Q11). -/
import Derived.KernelRfl
import Derived.Test.YtpkjokknpbclhaaGreatZAU
import Derived.Test.YtpkjokknpbclhaaGreatZAX
set_option linter.all false
namespace Go.Proofs.YtpkjokknpbclhaaGreat
open Go Go.Lg Go.Num
set_option maxRecDepth 100000
set_option maxHeartbeats 8000000
def addO (a : Rat) : List Rat → List Rat → Nat → Option (List Rat)
 | [],o,_ => some o
 | b :: g,o,i => if b = 0 then addO a g o (i + 1) else bif tiny (a * b) && tiny (o.getD i 0 + a * b) then addO a g (o.set i (o.getD i 0 + a * b)) (i + 1) else none
def mulO (g : List Rat) : List Rat → List Rat → Nat → Option (List Rat)
 | [],o,_ => some o
 | a :: f,o,i => if a = 0 then mulO g f o (i + 1) else match addO a g o i with
   | some o' => mulO g f o' (i + 1)
   | none => none
theorem addO_cons {a b : Rat} {g o r : List Rat} {i : Nat} (h : addO a (b :: g) o i = some r) : (b = 0 ∧ addO a g o (i + 1) = some r) ∨ (b ≠ 0 ∧ tiny (a * b) = true ∧ tiny (o.getD i 0 + a * b) = true ∧ addO a g (o.set i (o.getD i 0 + a * b)) (i + 1) = some r) := by
 rw [addO] at h
 split at h
 ·rename_i h0
  exact .inl ⟨h0,h⟩
 ·rename_i h0
  cases ht : (tiny (a * b) && tiny (o.getD i 0 + a * b)) with
  | false => rw [ht,cond_false] at h;cases h
  | true =>
    rw [ht,cond_true] at h
    rw [Bool.and_eq_true] at ht
    exact .inr ⟨h0,ht.1,ht.2,h⟩
theorem mulO_cons {a : Rat} {g f o r : List Rat} {i : Nat} (h : mulO g (a :: f) o i = some r) : (a = 0 ∧ mulO g f o (i + 1) = some r) ∨ (a ≠ 0 ∧ ∃ o',addO a g o i = some o' ∧ mulO g f o' (i + 1) = some r) := by
 rw [mulO] at h
 split at h
 ·rename_i h0
  exact .inl ⟨h0,h⟩
 ·rename_i h0
  split at h
  ·rename_i o' ho
   exact .inr ⟨h0,o',ho,h⟩
  ·cases h
theorem addO_nil (a : Rat) (o : List Rat) (i : Nat) : addO a [] o i = some o := rfl
theorem mulO_nil (g o : List Rat) (i : Nat) : mulO g [] o i = some o := rfl
attribute [local irreducible] Go.Lg.lrun Go.Lg.lwp Go.Lg.exThen Go.Lg.exBlk Go.Lg.keep Go.Lg.goodPost sg mg tiny addO mulO oc fillC
theorem qmulp_good (f g R : List Rat) (tf : tinyL f) (tg : tinyL g) (hf1 : 1 ≤ f.length) (hg1 : 1 ≤ g.length) (hf : f.length ≤ 1000) (hg : g.length ≤ 1000)
  (h : mulO g f (List.replicate (f.length + g.length - 1) 0) 0 = some R) (hR : R.length ≤ 10000) : PureGood Tryz.prog 98 [encF f,encF g] (encF (trimQ R)) := by
 have t1 := qtrim_good R (by omega)
 have g0 := qof_good 0 (by omega)
 obtain ⟨L,hL⟩ : ∃ L,f.length + g.length = L + 1 := ⟨f.length + g.length - 1,by omega⟩
 have hLz : ((f.length : Int) + (g.length : Int) - 1).toNat = L := by omega
 have hLi : (f.length : Int) + (g.length : Int) - 1 = (L : Int) := by omega
 rw [show f.length + g.length - 1 = L by omega] at h
 have hz0 : ((0 : Int) : Rat) = 0 := rfl
 rw [hz0] at g0
 simp only [encF_qc,encQ_sm,i64] at *
 have hZl : (List.replicate L (0 : Rat)).length = L := List.length_replicate
 generalize hZ : List.replicate L (0 : Rat) = Z at *
 have hZg : ∀ k,Z.getD k 0 = 0 := fun k => by rw [← hZ];simp [List.getD,List.getElem?_replicate];split <;> rfl
 have tZ : tinyL Z := fun q hq => by rw [← hZ] at hq;rw [(List.mem_replicate.1 hq).2];decide +kernel
 refine good_of_lwp mix Tryz.func98 rfl (by decide) (nt := 74) rfl (rs := [.tmp 4]) rfl (nle rfl) ?_
 (repeat (first|apply zO (by decide +kernel)|apply zP (by decide +kernel)|(apply zS;(case h=>constructor<;>decide))|((first|apply l_go rfl|apply c_dec|apply zT rfl (by decide) rfl);(case hs=>(simp (disch := first|omega|exact kD rfl|exact kX rfl) only [smY,simprocAttr,bl,i64,smT,smO,hLz,hLi];exact rfl));first|refine c_bt ?_|refine c_bf ?_|refine zq ?_|(case hg=>assumption))))
 refine w_loop (α := {k : Nat // k ≤ L}) (fun k => st 74 (lk [(0,.sl f.length (qc f)),(1,.sl g.length (qc g)),(4,nilL),(5,.own 0 0 L 4),(27,i64 L),(28,i64 k.1)]) (lkH [(0,⟨68,fillC Z k.1,false⟩)]) 1) (fun k => L - k.1) ⟨0,by omega⟩ ?_ ?_
 ·(refine Sub.heap1 15 ?_ (by simp only [smF,dg,renL,renLs,simprocAttr,bl,i64,smT,smO,hLz,hLi];exact rfl) ?_ ?_;all_goals (first | exact dgs_plain _ | with_reducible rfl | (simp only [smF,dg,renL,renLs,simprocAttr,bl,i64,smT,smO,hLz,hLi];done) | (simp only [smF,dg,renL,renLs,simprocAttr,bl,i64,smT,smO,hLz,hLi]) | skip))
  ·rw [fillC_zero,hZl]
   first | rfl | exact (oc_zeros L).symm
  ·exact fillC_plain _ _
 ·rintro ⟨k,hk⟩
  simp only [st]
  by_cases hlt : k < L
  ·have hst := fillC_step (f := Z) (k := k) (by omega) (hZg k)
   have hfl := fillC_len (f := Z) (k := k) (by omega)
   generalize fillC Z k = Fk at *
   (repeat (first|apply zO (by decide +kernel)|apply zP (by decide +kernel)|(apply zS;(case h=>constructor<;>decide))|((first|apply l_go rfl|apply c_dec|apply zT rfl (by decide) rfl);(case hs=>(simp (disch := first|omega|exact kD rfl|exact kX rfl) only [smY,simprocAttr,bl,i64,smT];exact rfl));first|refine c_bt ?_|refine c_bf ?_|refine zq ?_|(case hg=>assumption))))
   refine ⟨⟨k + 1,by omega⟩,?_,by simp only;omega⟩
   (refine Sub.heap1 0 ?_ (by simp only [smF,dg,renL,renLs,simprocAttr,bl,i64,smT];exact rfl) ?_ ?_;all_goals (first | exact dgs_plain _ | with_reducible rfl | (simp only [smF,dg,renL,renLs,simprocAttr,bl,i64,smT];done) | (simp only [smF,dg,renL,renLs,simprocAttr,bl,i64,smT]) | skip))
   ·exact hst
   ·exact fillC_plain _ _
  ·obtain rfl : k = L := by omega
   have hfa : fillC Z k = qc Z := by rw [← hZl];exact fillC_all Z
   rw [hfa]
   (repeat (first|apply zO (by decide +kernel)|apply zP (by decide +kernel)|(apply zS;(case h=>constructor<;>decide))|((first|apply l_go rfl|apply c_dec|apply zT rfl (by decide) rfl);(case hs=>(simp (disch := first|omega|exact kD rfl|exact kX rfl) only [smY,simprocAttr,bl,i64,smT];exact rfl));first|refine c_bt ?_|refine c_bf ?_|refine zq ?_|(case hg=>assumption))))
   refine w_loop (α := {x : Nat × List Rat // x.1 ≤ f.length ∧ x.2.length = k ∧ tinyL x.2 ∧ mulO g (f.drop x.1) x.2 x.1 = some R}) (fun x => st 74 (lk [(0,.sl f.length (qc f)),(1,.sl g.length (qc g)),(4,nilL),(5,.own 0 0 k 4),(36,.sl f.length (qc f)),(37,i64 f.length),(38,i64 x.1.1)]) (lkH [(0,⟨68,qc x.1.2,false⟩)]) 1) (fun x => f.length - x.1.1) ⟨(0,Z),by simp,hZl,tZ,h⟩ ?_ ?_
   ·(refine Sub.heap1 0 ?_ (by simp only [smF,dg,renL,renLs,simprocAttr,bl,i64,smT];exact rfl) ?_ ?_;all_goals (first | exact dgs_plain _ | with_reducible rfl | (simp only [smF,dg,renL,renLs,simprocAttr,bl,i64,smT];done) | (simp only [smF,dg,renL,renLs,simprocAttr,bl,i64,smT]) | skip))
    all_goals (first | exact qc_all s9 s10 _ | done)
   ·rintro ⟨⟨i,o⟩,hi,ho,to,hm⟩
    simp only at hi ho to hm
    simp only [st]
    by_cases hif : i < f.length
    ·rw [List.drop_eq_getElem_cons hif] at hm
     have hfi : f.getD i 0 = f[i] := by simp [hif]
     rw [← hfi] at hm
     have la := tinyL_get tf hif
     have gz := qzero_good (f.getD i 0) (by omega)
     generalize ha : f.getD i 0 = a at *
     rw [encQ_sm] at gz
     rcases mulO_cons hm with ⟨a0,hm⟩ | ⟨a0,o',hadd,hm⟩
     ·rw [dec_t a0] at gz
      simp only [i64,bl] at *
      (repeat (first|apply zO (by decide +kernel)|apply zP (by decide +kernel)|(apply zS;(case h=>constructor<;>decide))|((first|apply l_go rfl|apply c_dec|apply zT rfl (by decide) rfl);(case hs=>(simp (disch := first|omega|exact kD rfl|exact kX rfl) only [smY,simprocAttr,bl,i64,smT,ha];exact rfl));first|refine c_bt ?_|refine c_bf ?_|refine zq ?_|(case hg=>assumption))))
      refine ⟨⟨(i + 1,o),by simp only;omega,ho,to,hm⟩,?_,by simp only;omega⟩
      (refine Sub.heap1 0 ?_ (by simp only [smF,dg,renL,renLs,simprocAttr,bl,i64,smT];exact rfl) ?_ ?_;all_goals (first | exact dgs_plain _ | with_reducible rfl | (simp only [smF,dg,renL,renLs,simprocAttr,bl,i64,smT];done) | (simp only [smF,dg,renL,renLs,simprocAttr,bl,i64,smT]) | skip))
      all_goals (first | exact qc_all s9 s10 _ | done)
     ·rw [dec_f a0] at gz
      simp only [i64,bl] at *
      (repeat (first|apply zO (by decide +kernel)|apply zP (by decide +kernel)|(apply zS;(case h=>constructor<;>decide))|((first|apply l_go rfl|apply c_dec|apply zT rfl (by decide) rfl);(case hs=>(simp (disch := first|omega|exact kD rfl|exact kX rfl) only [smY,simprocAttr,bl,i64,smT,ha];exact rfl));first|refine c_bt ?_|refine c_bf ?_|refine zq ?_|(case hg=>assumption))))
      refine w_loop (α := {x : Nat × List Rat // x.1 ≤ g.length ∧ x.2.length = k ∧ tinyL x.2 ∧ addO a (g.drop x.1) x.2 (i + x.1) = some o'}) (fun x => st 74 (lk [(0,.sl f.length (qc f)),(1,.sl g.length (qc g)),(4,nilL),(5,.own 0 0 k 4),(7,i64 i),(8,.ptr 1 0),(36,.sl f.length (qc f)),(37,i64 f.length),(38,i64 i),(45,.sl g.length (qc g)),(46,i64 g.length),(47,i64 x.1.1)]) (lkH [(0,⟨68,qc x.1.2,false⟩),(1,⟨68,[sg (a).num,mg (a).num,sg ((a).den : Int),mg ((a).den : Int)],false⟩)]) 2) (fun x => g.length - x.1.1) ⟨(0,o),by simp,ho,to,hadd⟩ ?_ ?_
      ·(refine Sub.heapL [0,5] rfl (by decide) ?_ (by simp only [smL];decide) ?_ ?_;all_goals (first|(simp only [plainC,smF,dg,renL,renLs,simprocAttr,bl,i64,smT];done) | (simp only [smF,dg,renL,renLs,simprocAttr,bl,i64,smT];(repeat' apply And.intro);all_goals rfl) | (simp only [smF,dg,renL,renLs,simprocAttr,bl,i64,smT]) | skip))
       all_goals (first | done | ((repeat' apply And.intro);all_goals (first | trivial | rfl)))
      ·rintro ⟨⟨j,y⟩,hj,hy,ty,hsub⟩
       simp only at hj hy ty hsub
       simp only [st]
       by_cases hlt : j < g.length
       ·rw [List.drop_eq_getElem_cons hlt] at hsub
        have hgj : g.getD j 0 = g[j] := by simp [hlt]
        rw [← hgj] at hsub
        have lb := tinyL_get tg hlt
        have gz := qzero_good (g.getD j 0) (by omega)
        have hkj : ((i : Int) + (j : Int)) = ((i + j : Nat) : Int) := by simp
        have hkb : i + j < y.length := by omega
        rcases addO_cons hsub with ⟨b0,hs2⟩ | ⟨b0,u1,u2,u3⟩
        ·rw [dec_t b0] at gz
         generalize hb : g.getD j 0 = b at *
         rw [encQ_sm] at gz
         simp only [i64,bl] at *
         (repeat (first|apply zO (by decide +kernel)|apply zP (by decide +kernel)|(apply zS;(case h=>constructor<;>decide))|((first|apply l_go rfl|apply c_dec|apply zT rfl (by decide) rfl);(case hs=>(simp (disch := first|omega|exact kD rfl|exact kX rfl) only [smY,simprocAttr,bl,i64,smT,hb];exact rfl));first|refine c_bt ?_|refine c_bf ?_|refine zq ?_|(case hg=>assumption))))
         refine ⟨⟨(j + 1,y),by simp only;omega,by simp only;exact hy,ty,by simp only;exact hs2⟩,?_,by simp only;omega⟩
         (refine Sub.heapL [0,1] rfl (by decide) ?_ (by simp only [smL];decide) ?_ ?_;all_goals (first|(simp only [plainC,smF,dg,renL,renLs,simprocAttr,bl,i64,smT];done) | (simp only [smF,dg,renL,renLs,simprocAttr,bl,i64,smT];(repeat' apply And.intro);all_goals rfl) | (simp only [smF,dg,renL,renLs,simprocAttr,bl,i64,smT]) | skip))
         all_goals (first | done | ((repeat' apply And.intro);all_goals (first | trivial | rfl)))
        ·rw [dec_f b0] at gz
         have ly := tinyL_get ty (i := i + j) (by omega)
         have lm := tiny_lq u1
         have gm := qmul_good a (g.getD j 0) (by omega) (by omega)
         have gs := qadd_good (y.getD (i + j) 0) (a * g.getD j 0) (by omega) (by omega)
         have hys := qc_set (l := y) (j := i + j) (by omega) (y.getD (i + j) 0 + a * g.getD j 0)
         have hyl : (y.set (i + j) (y.getD (i + j) 0 + a * g.getD j 0)).length = k := by simp [hy]
         have tys := tinyL_set (i := i + j) ty u2
         generalize hv : y.getD (i + j) 0 + a * g.getD j 0 = v at *
         generalize hmm : a * g.getD j 0 = mm at *
         generalize hb : g.getD j 0 = b at *
         generalize hx : y.getD (i + j) 0 = x at *
         simp only [encQ_sm] at gm gs gz
         simp only [i64,bl] at *
         (repeat (first|apply zO (by decide +kernel)|apply zP (by decide +kernel)|(apply zS;(case h=>constructor<;>decide))|((first|apply l_go rfl|apply c_dec|apply zT rfl (by decide) rfl);(case hs=>(simp (disch := first|omega|exact kD rfl|exact kX rfl) only [smY,simprocAttr,bl,i64,smT,hb,hx,hkj,hys];exact rfl));first|refine c_bt ?_|refine c_bf ?_|refine zq ?_|(case hg=>assumption))))
         refine ⟨⟨(j + 1,y.set (i + j) v),by simp only;omega,by simp only;exact hyl,tys,by simp only;exact u3⟩,?_,by simp only;omega⟩
         (refine Sub.heapL [0,1] rfl (by decide) ?_ (by simp only [smL];decide) ?_ ?_;all_goals (first|(simp only [plainC,smF,dg,renL,renLs,simprocAttr,bl,i64,smT];done) | (simp only [smF,dg,renL,renLs,simprocAttr,bl,i64,smT];(repeat' apply And.intro);all_goals rfl) | (simp only [smF,dg,renL,renLs,simprocAttr,bl,i64,smT]) | skip))
         all_goals (first | done | ((repeat' apply And.intro);all_goals (first | trivial | rfl)))
       ·obtain rfl : j = g.length := by omega
        rw [List.drop_length,addO_nil] at hsub
        injection hsub with hsub
        subst hsub
        (repeat (first|apply zO (by decide +kernel)|apply zP (by decide +kernel)|(apply zS;(case h=>constructor<;>decide))|((first|apply l_go rfl|apply c_dec|apply zT rfl (by decide) rfl);(case hs=>(simp (disch := first|omega|exact kD rfl|exact kX rfl) only [smY,simprocAttr,bl,i64,smT];exact rfl));first|refine c_bt ?_|refine c_bf ?_|refine zq ?_|(case hg=>assumption))))
        refine ⟨⟨(i + 1,y),by simp only;omega,hy,ty,hm⟩,?_,by simp only;omega⟩
        (refine Sub.heap1 0 ?_ (by simp only [smF,dg,renL,renLs,simprocAttr,bl,i64,smT];exact rfl) ?_ ?_;all_goals (first | exact dgs_plain _ | with_reducible rfl | (simp only [smF,dg,renL,renLs,simprocAttr,bl,i64,smT];done) | (simp only [smF,dg,renL,renLs,simprocAttr,bl,i64,smT]) | skip))
        all_goals (first | exact qc_all s9 s10 _ | done)
    ·obtain rfl : i = f.length := by omega
     rw [List.drop_length,mulO_nil] at hm
     injection hm with hm
     subst hm
     rw [ho] at t1
     (repeat (first|apply zO (by decide +kernel)|apply zP (by decide +kernel)|(apply zS;(case h=>constructor<;>decide))|((first|apply l_go rfl|apply c_dec|apply zT rfl (by decide) rfl);(case hs=>(simp (disch := first|omega|exact kD rfl|exact kX rfl) only [smY,simprocAttr,bl,i64,smT];exact rfl));first|refine c_bt ?_|refine c_bf ?_|refine zq ?_|(case hg=>assumption))))
     ((first|apply g_ret|apply g_end);case hres => (simp only [smR];simp (disch := first|omega|exact kD rfl|exact kX rfl) only [smY,simprocAttr,bl,i64,smT];exact rfl))
     simp (disch := first|omega|exact kD rfl|exact kX rfl) only [smY,simprocAttr,bl,i64,smT]
end Go.Proofs.YtpkjokknpbclhaaGreat
namespace Go.Proofs.YtpkjokknpbclhaaGreat
open Go Go.Lg Go.Num
set_option maxRecDepth 100000
set_option maxHeartbeats 8000000
def sumL (f g : List Rat) : List Rat := (List.range (max f.length g.length)).map fun i => f.getD i 0 + g.getD i 0
theorem sumL_len (f g : List Rat) : (sumL f g).length = max f.length g.length := by simp [sumL]
theorem sumL_get {f g : List Rat} {i : Nat} (h : i < max f.length g.length) : (sumL f g).getD i 0 = f.getD i 0 + g.getD i 0 := by simp [sumL,h]
theorem z4p : LV.agg [sg 0,mg 0,sg 0,mg 0] = .agg [.lit (.bool false),.sl 0 [],.lit (.bool false),.sl 0 []] := by simp [sg,mg,bl,dg,dgs,digs_zero]
attribute [local irreducible] Go.Lg.lrun Go.Lg.lwp Go.Lg.exThen Go.Lg.exBlk Go.Lg.keep Go.Lg.goodPost sg mg tiny oc fillC sumL
theorem qadd_none_r (q : Rat) (h : lq q ≤ 34359738368) : PureGood Tryz.prog 116 [encQ q,.agg [sg 0,mg 0,sg 0,mg 0]] (encQ q) := by
 have g1 := isign_good (q.den : Int) (by have := h;unfold lq at this;omega)
 have g2 := isign_good 0 (by unfold len;simp [digs_zero])
 have gn := qnorm_good q (by omega)
 have hd : (q.den : Int).sign = 1 := Int.sign_eq_one_of_pos (by have := q.den_pos;omega)
 rw [hd] at g1
 rw [Int.sign_zero] at g2
 rw [encQ_sm] at *
 simp only [encI_sm,i64] at *
 refine good_of_lwp mix Tryz.func116 rfl (by decide) (nt := 54) rfl (rs := [.cell 4 68]) rfl (nle rfl) ?_
 (repeat (first|apply zO (by decide +kernel)|apply zP (by decide +kernel)|(apply zS;(case h=>constructor<;>decide))|((first|apply l_go rfl|apply c_dec|apply zT rfl (by decide) rfl);(case hs=>(simp (disch := first|omega|exact kD rfl|exact kX rfl) only [smY,simprocAttr,bl,i64,smT];exact rfl));first|refine c_bt ?_|refine c_bf ?_|refine zq ?_|(case hg=>assumption))))
 ((first|apply g_ret|apply g_end);case hres => (simp only [smR];simp (disch := first|omega|exact kD rfl|exact kX rfl) only [smY,simprocAttr,bl,i64,smT];exact rfl))
 simp (disch := first|omega|exact kD rfl|exact kX rfl) only [smY,simprocAttr,bl,i64,smT]
theorem qmerge_good (f g : List Rat) (tf : tinyL f) (tg : tinyL g) (hf : f.length ≤ 1000) (hg : g.length ≤ 1000) (tS : tinyL (sumL f g)) : PureGood Tryz.prog 134 [encF f,encF g,.fn 116 []] (encF (trimQ (sumL f g))) := by
 have t1 := qtrim_good (sumL f g) (by rw [sumL_len];omega)
 have hsl := sumL_len f g
 have hmx : (if (g.length : Int) > (f.length : Int) then (g.length : Int) else (f.length : Int)) = ((max f.length g.length : Nat) : Int) := by split <;> omega
 simp only [encF_qc] at *
 rw [hsl] at t1
 have hget := fun i (h : i < max f.length g.length) => sumL_get (f := f) (g := g) h
 generalize hL : max f.length g.length = L at *
 generalize sumL f g = S at *
 refine good_of_lwp mix Tryz.func134 rfl (by decide) (nt := 48) rfl (rs := [.tmp 6]) rfl (nle rfl) ?_
 (repeat (first|apply zO (by decide +kernel)|apply zP (by decide +kernel)|(apply zS;(case h=>constructor<;>decide))|((first|apply l_go rfl|apply c_dec|apply zT rfl (by decide) rfl);(case hs=>(simp (disch := first|omega|exact kD rfl|exact kX rfl) only [smY,simprocAttr,bl,i64,smT,smO,hmx];exact rfl));first|refine c_bt ?_|refine c_bf ?_|refine zq ?_|(case hg=>assumption))))
 refine w_loop (α := {k : Nat // k ≤ L}) (fun k => st 48 (lk [(0,.sl f.length (qc f)),(1,.sl g.length (qc g)),(2,.fn 116 []),(6,nilL),(7,.own 0 0 L 4),(18,i64 L),(19,i64 k.1)]) (lkH [(0,⟨68,fillC S k.1,false⟩)]) 1) (fun k => L - k.1) ⟨0,by omega⟩ ?_ ?_
 ·(refine Sub.heap1 6 ?_ (by simp only [smF,dg,renL,renLs,simprocAttr,bl,i64,smT,smO,hmx];exact rfl) ?_ ?_;all_goals (first | exact dgs_plain _ | with_reducible rfl | (simp only [smF,dg,renL,renLs,simprocAttr,bl,i64,smT,smO,hmx];done) | (simp only [smF,dg,renL,renLs,simprocAttr,bl,i64,smT,smO,hmx]) | skip))
  ·rw [fillC_zero,hsl]
   first | rfl | exact (oc_zeros L).symm
  ·exact fillC_plain _ _
 ·rintro ⟨i,hi⟩
  simp only [st]
  by_cases hlt : i < L
  ·have hst := fillC_step (f := S) (k := i) (by omega) rfl
   have hfl := fillC_len (f := S) (k := i) (by omega)
   have hv := hget i hlt
   have lS := tinyL_get tS (i := i) (by omega)
   generalize fillC S i = Fk at *
   generalize hs : S.getD i 0 = s at *
   by_cases c1 : i < f.length
   ·have lf := tinyL_get tf c1
    by_cases c2 : i < g.length
    ·have lg := tinyL_get tg c2
     have ga := qadd_good (f.getD i 0) (g.getD i 0) (by omega) (by omega)
     rw [← hv] at ga
     generalize hx : f.getD i 0 = x at *
     generalize hy : g.getD i 0 = y at *
     simp only [encQ_sm] at ga
     (repeat (first|apply zO (by decide +kernel)|apply zP (by decide +kernel)|(apply zS;(case h=>constructor<;>decide))|((first|apply l_go rfl|apply c_dec|apply zT rfl (by decide) rfl);(case hs=>(simp (disch := first|omega|exact kD rfl|exact kX rfl) only [smY,simprocAttr,bl,i64,smT,hx,hy];exact rfl));first|refine c_bt ?_|refine c_bf ?_|refine zq ?_|(case hg=>assumption))))
     refine ⟨⟨i + 1,by omega⟩,?_,by simp only;omega⟩
     (refine Sub.heap1 0 ?_ (by simp only [smF,dg,renL,renLs,simprocAttr,bl,i64,smT];exact rfl) ?_ ?_;all_goals (first | exact dgs_plain _ | with_reducible rfl | (simp only [smF,dg,renL,renLs,simprocAttr,bl,i64,smT];done) | (simp only [smF,dg,renL,renLs,simprocAttr,bl,i64,smT]) | skip))
     ·exact hst
     ·exact fillC_plain _ _
    ·have hy0 : g.getD i 0 = 0 := by simp [show g.length ≤ i by omega]
     have ga := qadd_none_r (f.getD i 0) (by omega)
     rw [z4p] at ga
     rw [hy0,Rat.add_zero] at hv
     rw [← hv] at ga
     generalize hx : f.getD i 0 = x at *
     subst hv
     simp only [encQ_sm] at ga
     (repeat (first|apply zO (by decide +kernel)|apply zP (by decide +kernel)|(apply zS;(case h=>constructor<;>decide))|((first|apply l_go rfl|apply c_dec|apply zT rfl (by decide) rfl);(case hs=>(simp (disch := first|omega|exact kD rfl|exact kX rfl) only [smY,simprocAttr,bl,i64,smT,hx];exact rfl));first|refine c_bt ?_|refine c_bf ?_|refine zq ?_|(case hg=>assumption))))
     refine ⟨⟨i + 1,by omega⟩,?_,by simp only;omega⟩
     (refine Sub.heap1 0 ?_ (by simp only [smF,dg,renL,renLs,simprocAttr,bl,i64,smT];exact rfl) ?_ ?_;all_goals (first | exact dgs_plain _ | with_reducible rfl | (simp only [smF,dg,renL,renLs,simprocAttr,bl,i64,smT];done) | (simp only [smF,dg,renL,renLs,simprocAttr,bl,i64,smT]) | skip))
     ·exact hst
     ·exact fillC_plain _ _
   ·have c2 : i < g.length := by omega
    have lg := tinyL_get tg c2
    have hx0 : f.getD i 0 = 0 := by simp [show f.length ≤ i by omega]
    have ga := qadd_none (g.getD i 0) (by omega)
    rw [z4p] at ga
    rw [hx0,Rat.zero_add] at hv
    rw [← hv] at ga
    generalize hx : g.getD i 0 = x at *
    subst hv
    simp only [encQ_sm] at ga
    (repeat (first|apply zO (by decide +kernel)|apply zP (by decide +kernel)|(apply zS;(case h=>constructor<;>decide))|((first|apply l_go rfl|apply c_dec|apply zT rfl (by decide) rfl);(case hs=>(simp (disch := first|omega|exact kD rfl|exact kX rfl) only [smY,simprocAttr,bl,i64,smT,hx];exact rfl));first|refine c_bt ?_|refine c_bf ?_|refine zq ?_|(case hg=>assumption))))
    refine ⟨⟨i + 1,by omega⟩,?_,by simp only;omega⟩
    (refine Sub.heap1 0 ?_ (by simp only [smF,dg,renL,renLs,simprocAttr,bl,i64,smT];exact rfl) ?_ ?_;all_goals (first | exact dgs_plain _ | with_reducible rfl | (simp only [smF,dg,renL,renLs,simprocAttr,bl,i64,smT];done) | (simp only [smF,dg,renL,renLs,simprocAttr,bl,i64,smT]) | skip))
    ·exact hst
    ·exact fillC_plain _ _
  ·obtain rfl : i = L := by omega
   have hfa : fillC S i = qc S := by rw [← hsl];exact fillC_all S
   rw [hfa]
   (repeat (first|apply zO (by decide +kernel)|apply zP (by decide +kernel)|(apply zS;(case h=>constructor<;>decide))|((first|apply l_go rfl|apply c_dec|apply zT rfl (by decide) rfl);(case hs=>(simp (disch := first|omega|exact kD rfl|exact kX rfl) only [smY,simprocAttr,bl,i64,smT];exact rfl));first|refine c_bt ?_|refine c_bf ?_|refine zq ?_|(case hg=>assumption))))
   ((first|apply g_ret|apply g_end);case hres => (simp only [smR];simp (disch := first|omega|exact kD rfl|exact kX rfl) only [smY,simprocAttr,bl,i64,smT];exact rfl))
   simp (disch := first|omega|exact kD rfl|exact kX rfl) only [smY,simprocAttr,bl,i64,smT]
theorem qaddp_good (f g : List Rat) (tf : tinyL f) (tg : tinyL g) (hf : f.length ≤ 1000) (hg : g.length ≤ 1000) (tS : tinyL (sumL f g)) : PureGood Tryz.prog 108 [encF f,encF g] (encF (trimQ (sumL f g))) := by
 have gm := qmerge_good f g tf tg hf hg tS
 simp only [encF_qc] at *
 refine good_of_lwp mix Tryz.func108 rfl (by decide) (nt := 8) rfl (rs := [.tmp 4]) rfl (nle rfl) ?_
 (repeat (first|apply zO (by decide +kernel)|apply zP (by decide +kernel)|(apply zS;(case h=>constructor<;>decide))|((first|apply l_go rfl|apply c_dec|apply zT rfl (by decide) rfl);(case hs=>(simp (disch := first|omega|exact kD rfl|exact kX rfl) only [smY,simprocAttr,bl,i64,smT];exact rfl));first|refine c_bt ?_|refine c_bf ?_|refine zq ?_|(case hg=>assumption))))
 ((first|apply g_ret|apply g_end);case hres => (simp only [smR];simp (disch := first|omega|exact kD rfl|exact kX rfl) only [smY,simprocAttr,bl,i64,smT];exact rfl))
 simp (disch := first|omega|exact kD rfl|exact kX rfl) only [smY,simprocAttr,bl,i64,smT]
end Go.Proofs.YtpkjokknpbclhaaGreat
namespace Go.Proofs.YtpkjokknpbclhaaGreat
open Go Go.Lg Go.Num
set_option maxRecDepth 100000
set_option maxHeartbeats 4000000
def oqp : Option Rat → List LV
 | none => [.lit (.bool false),.sl 0 [],.lit (.bool false),.sl 0 []]
 | some q => qcells q
def op (l : List (Option Rat)) : List LV := l.flatMap oqp
theorem oqp_none : oqp none = [.lit (.bool false),.sl 0 [],.lit (.bool false),.sl 0 []] := rfl
theorem oqp_some (q : Rat) : oqp (some q) = [sg (q).num,mg (q).num,sg ((q).den : Int),mg ((q).den : Int)] := qcells_sm q
theorem oqp_len (o : Option Rat) : (oqp o).length = 4 := by cases o <;> rfl
theorem op_len (l : List (Option Rat)) : (op l).length = l.length * 4 := by induction l with
 | nil => rfl
 | cons a l ih => rw [op,List.flatMap_cons,List.length_append,oqp_len];rw [op] at ih;rw [ih,List.length_cons];omega
theorem op_drop (l : List (Option Rat)) : ∀ j,(op l).drop (j * 4) = op (l.drop j) := by
 induction l with
 | nil => intro j;simp [op]
 | cons x l ih =>
   intro j
   cases j with
   | zero => simp
   | succ j =>
     have : op (x :: l) = oqp x ++ op l := by simp [op]
     rw [this,List.drop_succ_cons,← ih,show (j + 1) * 4 = (oqp x).length + j * 4 by rw [oqp_len];omega,← List.drop_drop,List.drop_left]
theorem op_hd {l : List (Option Rat)} {s : Nat} (h : s < l.length) : (op (l.drop s)).take 4 = oqp (l.getD s none) := by
 rw [List.drop_eq_getElem_cons h]
 have e : l.getD s none = l[s] := by simp [h]
 have : op (l[s] :: l.drop (s + 1)) = oqp l[s] ++ op (l.drop (s + 1)) := rfl
 rw [this,e,show (4 : Nat) = (oqp l[s]).length from (oqp_len _).symm,List.take_left]
theorem op_td {l : List (Option Rat)} {s : Nat} (h : s < l.length) : ((op l).drop (s * 4)).take 4 = oqp (l.getD s none) := by
 rw [op_drop]
 exact op_hd h
def z4v : LV := .agg [.lit (.bool false),.sl 0 [],.lit (.bool false),.sl 0 []]
theorem qnorm_miss : PureGood Tryz.prog 137 [z4v] (encQ 0) := by
 have h : PureGood Tryz.prog 137 [z4v] (wrQ 0) := evo_good orcA_ok (by kernel_rfl)
 rwa [wrQ_eq (by decide +kernel)] at h
def ov (f : List (Option Rat)) : List Rat := f.map fun o => o.getD 0
theorem ov_len (f : List (Option Rat)) : (ov f).length = f.length := by simp [ov]
theorem ov_get (f : List (Option Rat)) (i : Nat) : (ov f).getD i 0 = (f.getD i none).getD 0 := by
 simp only [ov,List.getD,List.getElem?_map]
 cases f[i]? <;> rfl
attribute [local irreducible] Go.Lg.lrun Go.Lg.lwp Go.Lg.exThen Go.Lg.exBlk Go.Lg.keep Go.Lg.goodPost sg mg tiny oc fillC op
theorem qpnorm_op (f : List (Option Rat)) (hl : f.length ≤ 1000) (hf : ∀ q,some q ∈ f → lq q ≤ 100000) : PureGood Tryz.prog 118 [.sl f.length (op f)] (encF (trimQ (ov f))) := by
 have ht := qtrim_good (ov f) (by rw [ov_len];omega)
 have hg := ov_get f
 have hsl := ov_len f
 have gm := qnorm_miss
 rw [encF_qc,hsl] at ht
 have hopl := op_len f
 generalize ov f = S at *
 unfold z4v at gm
 rw [encQ_sm] at gm
 refine good_of_lwp mix Tryz.func118 rfl (by decide) (nt := 24) rfl (rs := [.tmp 2]) rfl (nle rfl) ?_
 (repeat (first|apply zO (by decide +kernel)|apply zP (by decide +kernel)|(apply zS;(case h=>constructor<;>decide))|((first|apply l_go rfl|apply c_dec|apply zT rfl (by decide) rfl);(case hs=>(simp (disch := first|omega|exact kD rfl|exact kX rfl) only [smY,simprocAttr,bl,i64,smT,hopl];exact rfl));first|refine c_bt ?_|refine c_bf ?_|refine zq ?_|(case hg=>assumption))))
 refine w_loop (α := {k : Nat // k ≤ f.length}) (fun k => st 24 (lk [(0,.sl f.length (op f)),(2,nilL),(3,.own 0 0 f.length 4),(9,.sl f.length (op f)),(10,i64 f.length),(11,i64 k.1)]) (lkH [(0,⟨68,fillC S k.1,false⟩)]) 1) (fun k => f.length - k.1) ⟨0,by omega⟩ ?_ ?_
 ·(refine Sub.heap1 3 ?_ (by simp only [smF,dg,renL,renLs,simprocAttr,bl,i64,smT,hopl];exact rfl) ?_ ?_;all_goals (first | exact dgs_plain _ | with_reducible rfl | (simp only [smF,dg,renL,renLs,simprocAttr,bl,i64,smT,hopl];done) | (simp only [smF,dg,renL,renLs,simprocAttr,bl,i64,smT,hopl]) | skip))
  ·rw [fillC_zero,hsl];rfl
  ·exact fillC_plain _ _
 ·rintro ⟨k,hk⟩
  simp only [st]
  by_cases h : k < f.length
  ·have htd := op_td h
   have hgk := hg k
   have hfl := fillC_len (f := S) (k := k) (by omega)
   have hst := fillC_step (f := S) (k := k) (by omega) rfl
   have hmem : f.getD k none ∈ f := by
    have : f.getD k none = f[k] := by simp [h]
    rw [this]
    exact List.getElem_mem h
   rw [hgk] at hst
   generalize fillC S k = L at *
   generalize f.getD k none = o at *
   cases o with
   | none =>
     rw [oqp_none] at htd
     simp only [Option.getD_none] at hst
     (repeat (first|apply zO (by decide +kernel)|apply zP (by decide +kernel)|(apply zS;(case h=>constructor<;>decide))|((first|apply l_go rfl|apply c_dec|apply zT rfl (by decide) rfl);(case hs=>(simp (disch := first|omega|exact kD rfl|exact kX rfl) only [smY,simprocAttr,bl,i64,smT,htd,hopl];exact rfl));first|refine c_bt ?_|refine c_bf ?_|refine zq ?_|(case hg=>assumption))))
     refine ⟨⟨k + 1,by omega⟩,?_,by simp only;omega⟩
     (refine Sub.heap1 0 ?_ (by simp only [smF,dg,renL,renLs,simprocAttr,bl,i64,smT];exact rfl) ?_ ?_;all_goals (first | exact dgs_plain _ | with_reducible rfl | (simp only [smF,dg,renL,renLs,simprocAttr,bl,i64,smT];done) | (simp only [smF,dg,renL,renLs,simprocAttr,bl,i64,smT]) | skip))
     · exact hst
     · exact fillC_plain _ _
   | some q =>
     have hn := qnorm_good q (by have := hf q hmem;omega)
     rw [oqp_some] at htd
     simp only [Option.getD_some] at hst
     rw [encQ_sm] at hn
     (repeat (first|apply zO (by decide +kernel)|apply zP (by decide +kernel)|(apply zS;(case h=>constructor<;>decide))|((first|apply l_go rfl|apply c_dec|apply zT rfl (by decide) rfl);(case hs=>(simp (disch := first|omega|exact kD rfl|exact kX rfl) only [smY,simprocAttr,bl,i64,smT,htd,hopl];exact rfl));first|refine c_bt ?_|refine c_bf ?_|refine zq ?_|(case hg=>assumption))))
     refine ⟨⟨k + 1,by omega⟩,?_,by simp only;omega⟩
     (refine Sub.heap1 0 ?_ (by simp only [smF,dg,renL,renLs,simprocAttr,bl,i64,smT];exact rfl) ?_ ?_;all_goals (first | exact dgs_plain _ | with_reducible rfl | (simp only [smF,dg,renL,renLs,simprocAttr,bl,i64,smT];done) | (simp only [smF,dg,renL,renLs,simprocAttr,bl,i64,smT]) | skip))
     · exact hst
     · exact fillC_plain _ _
  ·obtain rfl : k = f.length := by omega
   have hfa : fillC S f.length = qc S := by rw [← hsl];exact fillC_all S
   rw [hfa]
   (repeat (first|apply zO (by decide +kernel)|apply zP (by decide +kernel)|(apply zS;(case h=>constructor<;>decide))|((first|apply l_go rfl|apply c_dec|apply zT rfl (by decide) rfl);(case hs=>(simp (disch := first|omega|exact kD rfl|exact kX rfl) only [smY,simprocAttr,bl,i64,smT];exact rfl));first|refine c_bt ?_|refine c_bf ?_|refine zq ?_|(case hg=>assumption))))
   ((first|apply g_ret|apply g_end);case hres => (simp only [smR];simp (disch := first|omega|exact kD rfl|exact kX rfl) only [smY,simprocAttr,bl,i64,smT];exact rfl))
   simp (disch := first|omega|exact kD rfl|exact kX rfl) only [smY,simprocAttr,bl,i64,smT]
   rw [encF_qc]
   simp (disch := first|omega|exact kD rfl|exact kX rfl) only [smY,simprocAttr,bl,i64,smT]
end Go.Proofs.YtpkjokknpbclhaaGreat
namespace Go.Proofs.YtpkjokknpbclhaaGreat
open Go Go.Lg Go.Num
set_option maxRecDepth 100000
theorem rz_get (l : List Int) (i : Nat) : (rz l).getD i 0 = ((l.getD i 0 : Int) : Rat) := by
 simp only [rz,List.getD,List.getElem?_map]
 cases l[i]? <;> rfl
theorem rz_set (l : List Int) (i : Nat) (z : Int) : (rz l).set i (z : Rat) = rz (l.set i z) := by simp [rz,List.map_set]
def addI (a : Int) : List Int → List Int → Nat → Option (List Int)
 | [],o,_ => some o
 | b :: g,o,i => bif Nat.beq b.natAbs 0 then addI a g o (Nat.succ i) else fInt (a * b) fun m => fInt (o.getD i 0 + m) fun v => bif okZ m && okZ v then addI a g (o.set i v) (Nat.succ i) else none
theorem addI_ok {a : Int} : ∀ {g o r : List Int} {i : Nat},addI a g o i = some r → addO (a : Rat) (rz g) (rz o) i = some (rz r)
 | [],o,r,i,h => by cases h;rfl
 | b :: g,o,r,i,h => by
   unfold addI at h
   rw [fInt_eq,fInt_eq] at h
   show addO (a : Rat) ((b : Rat) :: rz g) _ _ = _
   rw [addO]
   cases hb : Nat.beq b.natAbs 0 with
   | true =>
     rw [hb,cond_true] at h
     have := Nat.eq_of_beq_eq_true hb
     have hz : b = 0 := by omega
     rw [if_pos (by rw [hz];rfl)]
     exact addI_ok h
   | false =>
     rw [hb,cond_false] at h
     have hz : (b : Rat) ≠ 0 := fun e => by
       have : b = 0 := Rat.intCast_inj.1 (e.trans Rat.intCast_zero.symm)
       rw [this] at hb
       cases hb
     rw [if_neg hz,rz_get,← Rat.intCast_mul,← Rat.intCast_add]
     cases ht : (okZ (a * b) && okZ (o.getD i 0 + a * b)) with
     | false => rw [ht,cond_false] at h;cases h
     | true =>
       rw [ht,cond_true] at h
       rw [Bool.and_eq_true] at ht
       rw [okZ_tiny ht.1,okZ_tiny ht.2,rz_set]
       exact addI_ok h
def mulI (g : List Int) : List Int → List Int → Nat → Option (List Int)
 | [],o,_ => some o
 | a :: f,o,i => bif Nat.beq a.natAbs 0 then mulI g f o (Nat.succ i) else match addI a g o i with
   | some o' => mulI g f o' (Nat.succ i)
   | none => none
theorem mulI_ok {g : List Int} : ∀ {f o r : List Int} {i : Nat},mulI g f o i = some r → mulO (rz g) (rz f) (rz o) i = some (rz r)
 | [],o,r,i,h => by cases h;rfl
 | a :: f,o,r,i,h => by
   unfold mulI at h
   show mulO (rz g) ((a : Rat) :: rz f) _ _ = _
   rw [mulO]
   cases hb : Nat.beq a.natAbs 0 with
   | true =>
     rw [hb,cond_true] at h
     have := Nat.eq_of_beq_eq_true hb
     have hz : a = 0 := by omega
     rw [if_pos (by rw [hz];rfl)]
     exact mulI_ok h
   | false =>
     rw [hb,cond_false] at h
     have hz : (a : Rat) ≠ 0 := fun e => by
       have : a = 0 := Rat.intCast_inj.1 (e.trans Rat.intCast_zero.symm)
       rw [this] at hb
       cases hb
     rw [if_neg hz]
     split at h
     · rename_i o' ho
       rw [addI_ok ho]
       exact mulI_ok h
     · cases h
theorem tinyL_rz {l : List Int} (h : ∀ z ∈ l,okZ z = true) : tinyL (rz l) := fun c hc => by
 obtain ⟨z,hz,rfl⟩ := List.mem_map.1 hc
 exact okZ_tiny (h z hz)
def orcMp (args : List LV) : Option LV := match args with
 | [.sl n cs,.sl k ds] => match rdZs n cs,rdZs k ds with
   | some f,some g => bif Nat.ble 1 n && Nat.ble 1 k && Nat.ble n 1000 && Nat.ble k 1000 then (match mulI g f (List.replicate (n + k - 1) 0) 0 with
     | some R => bif allZ R && Nat.ble R.length 10000 then some (wrZL (trimZ R)) else none
     | none => none) else none
   | _,_ => none
 | _ => none
theorem orcMp_ok {args : List LV} {r : LV} (h : orcMp args = some r) : PureGood Tryz.prog 98 args r := by
 unfold orcMp at h
 split at h
 ·rename_i n cs k ds
  split at h
  ·rename_i f g hf hg
   obtain ⟨rfl,rfl,f3⟩ := rdZs_ok hf
   obtain ⟨rfl,rfl,g3⟩ := rdZs_ok hg
   generalize hcond : (Nat.ble 1 f.length && Nat.ble 1 g.length && Nat.ble f.length 1000 && Nat.ble g.length 1000) = q at h
   cases q with
   | false => rw [cond_false] at h;cases h
   | true =>
     rw [cond_true] at h
     simp only [Bool.and_eq_true,Nat.ble_eq] at hcond
     obtain ⟨⟨⟨c1,c2⟩,c3⟩,c4⟩ := hcond
     split at h
     · rename_i R hR
       cases hall : (allZ R && Nat.ble R.length 10000) with
       | false => rw [hall,cond_false] at h;cases h
       | true =>
         rw [hall,cond_true] at h
         cases h
         rw [Bool.and_eq_true,Nat.ble_eq] at hall
         have hR1 := List.all_eq_true.1 hall.1
         have hm := mulI_ok hR
         have hrep : rz (List.replicate (f.length + g.length - 1) 0) = List.replicate (f.length + g.length - 1) (0 : Rat) := by simp [rz]
         rw [hrep] at hm
         have := qmulp_good (rz f) (rz g) (rz R) (tinyL_rz f3) (tinyL_rz g3) (by rw [rz_len];exact c1) (by rw [rz_len];exact c2) (by rw [rz_len];exact c3) (by rw [rz_len];exact c4) (by rw [rz_len,rz_len];exact hm) (by rw [rz_len];exact hall.2)
         rw [wrZL_eq (fun z hz => hR1 z (trimZ_sub hz)),trimZ_eq]
         rw [encF_qc (rz f),encF_qc (rz g),rz_len,rz_len] at this
         exact this
     · cases h
  ·cases h
 ·cases h
def addZ : List Int → List Int → List Int
 | [],g => g
 | a :: f,[] => a :: f
 | a :: f,b :: g => (a + b) :: addZ f g
theorem addZ_len : ∀ f g : List Int,(addZ f g).length = max f.length g.length
 | [],g => by simp [addZ]
 | a :: f,[] => by simp [addZ]
 | a :: f,b :: g => by simp [addZ,addZ_len f g]
theorem addZ_get : ∀ (f g : List Int) (i : Nat),(addZ f g).getD i 0 = f.getD i 0 + g.getD i 0
 | [],g,i => by simp [addZ]
 | a :: f,[],i => by simp [addZ]
 | a :: f,b :: g,0 => by simp [addZ]
 | a :: f,b :: g,i + 1 => by
   have := addZ_get f g i
   simpa [addZ] using this
theorem sumL_rz (f g : List Int) : sumL (rz f) (rz g) = rz (addZ f g) := by
 apply List.ext_getElem
 ·rw [sumL_len,rz_len,rz_len,rz_len,addZ_len]
 ·intro i h1 h2
  have e1 : (sumL (rz f) (rz g)).getD i 0 = (sumL (rz f) (rz g))[i] := by simp [h1]
  have e2 : (rz (addZ f g)).getD i 0 = (rz (addZ f g))[i] := by simp [h2]
  rw [sumL_len] at h1
  rw [← e1,← e2,sumL_get h1,rz_get,rz_get,rz_get,addZ_get,Rat.intCast_add]
def orcAp (args : List LV) : Option LV := match args with
 | [.sl n cs,.sl k ds] => match rdZs n cs,rdZs k ds with
   | some f,some g => bif Nat.ble n 1000 && Nat.ble k 1000 && allZ (addZ f g) then some (wrZL (trimZ (addZ f g))) else none
   | _,_ => none
 | _ => none
theorem orcAp_ok {args : List LV} {r : LV} (h : orcAp args = some r) : PureGood Tryz.prog 108 args r := by
 unfold orcAp at h
 split at h
 ·rename_i n cs k ds
  split at h
  ·rename_i f g hf hg
   obtain ⟨rfl,rfl,f3⟩ := rdZs_ok hf
   obtain ⟨rfl,rfl,g3⟩ := rdZs_ok hg
   generalize hcond : (Nat.ble f.length 1000 && Nat.ble g.length 1000 && allZ (addZ f g)) = q at h
   cases q with
   | false => rw [cond_false] at h;cases h
   | true =>
     rw [cond_true] at h
     cases h
     simp only [Bool.and_eq_true,Nat.ble_eq] at hcond
     obtain ⟨⟨c1,c2⟩,c3⟩ := hcond
     have hR1 := List.all_eq_true.1 c3
     have := qaddp_good (rz f) (rz g) (tinyL_rz f3) (tinyL_rz g3) (by rw [rz_len];exact c1) (by rw [rz_len];exact c2) (by rw [sumL_rz];exact tinyL_rz hR1)
     rw [wrZL_eq (fun z hz => hR1 z (trimZ_sub hz)),trimZ_eq,← sumL_rz]
     rw [encF_qc (rz f),encF_qc (rz g),rz_len,rz_len] at this
     exact this
  ·cases h
 ·cases h
def rdZo : Nat → List LV → Option (List (Option Int))
 | 0,[] => some []
 | k + 1,a :: b :: c :: .sl 0 [] :: r => match a,b,c,rdZo k r with
   | .lit (.bool false),.sl 0 [],.lit (.bool false),some l => some (none :: l)
   | _,_,_,_ => none
 | k + 1,a :: b :: c :: d :: r => match rdI a b,rdI c d,rdZo k r with
   | some z,some (.ofNat e),some l => bif Nat.beq e 1 && okZ z then some (some z :: l) else none
   | _,_,_ => none
 | _,_ => none
def roz (l : List (Option Int)) : List (Option Rat) := l.map fun o => o.map fun (z : Int) => (z : Rat)
theorem roz_len (l : List (Option Int)) : (roz l).length = l.length := by simp [roz]
theorem rdZo_ok : ∀ {k : Nat} {cs : List LV} {l : List (Option Int)},rdZo k cs = some l → cs = op (roz l) ∧ k = l.length ∧ ∀ z,some z ∈ l → okZ z = true := by
 intro k
 induction k with
 | zero =>
   intro cs l h
   cases cs with
   | nil => cases h;exact ⟨rfl,rfl,by simp⟩
   | cons _ _ => cases h
 | succ k ih =>
   intro cs l h
   unfold rdZo at h
   split at h
   · rename_i h0;cases h0
   · rename_i k' a b c r he
     cases he
     split at h
     · rename_i l' h3
       cases h
       obtain ⟨e5,e6,e7⟩ := ih h3
       refine ⟨?_,by simp [e6],fun z hz => e7 z (by simpa using hz)⟩
       rw [e5]
       rfl
     · cases h
   · rename_i k' a b c d r _ he
     cases he
     split at h
     · rename_i z e l' h1 h2 h3
       cases hb : (Nat.beq e 1 && okZ z) with
       | false => rw [hb,cond_false] at h;cases h
       | true =>
         rw [hb,cond_true] at h
         cases h
         rw [Bool.and_eq_true] at hb
         have he := Nat.eq_of_beq_eq_true hb.1
         subst he
         obtain ⟨e1,e2⟩ := rdI_ok h1
         obtain ⟨e3,e4⟩ := rdI_ok h2
         obtain ⟨e5,e6,e7⟩ := ih h3
         refine ⟨?_,by simp [e6],fun x hx => ?_⟩
         · show _ = qcells (z : Rat) ++ op (roz l')
           rw [← e5,qcells_int,e1,e2,e3,e4]
           rfl
         · rcases List.mem_cons.1 hx with hx | hx
           · cases hx;exact hb.2
           · exact e7 x hx
     · cases h
   · cases h
def ozv (f : List (Option Int)) : List Int := f.map fun o => o.getD 0
theorem ov_roz (f : List (Option Int)) : ov (roz f) = rz (ozv f) := by
 simp only [ov,roz,rz,ozv,List.map_map]
 apply List.map_congr_left
 intro o _
 cases o <;> rfl
def orcTo (args : List LV) : Option LV := match args with
 | [.sl n cs] => match rdZo n cs with
   | some f => bif Nat.ble n 1000 && allZ (ozv f) then some (wrZL (trimZ (ozv f))) else none
   | none => none
 | _ => none
theorem orcTo_ok {args : List LV} {r : LV} (h : orcTo args = some r) : PureGood Tryz.prog 118 args r := by
 unfold orcTo at h
 split at h
 ·rename_i n cs
  split at h
  ·rename_i f hf
   obtain ⟨rfl,rfl,h3⟩ := rdZo_ok hf
   cases hb : (Nat.ble f.length 1000 && allZ (ozv f)) with
   | false => rw [hb,cond_false] at h;cases h
   | true =>
     rw [hb,cond_true] at h
     cases h
     rw [Bool.and_eq_true,Nat.ble_eq] at hb
     have hR1 := List.all_eq_true.1 hb.2
     have := qpnorm_op (roz f) (by rw [roz_len];exact hb.1) (fun q hq => by
       obtain ⟨o,ho,he⟩ := List.mem_map.1 hq
       cases o with
       | none => cases he
       | some z =>
         injection he with he
         subst he
         have := tiny_lq (okZ_tiny (h3 z ho))
         show lq (z : Rat) ≤ 100000
         omega)
     rw [wrZL_eq (fun z hz => hR1 z (trimZ_sub hz)),trimZ_eq,← ov_roz]
     rw [roz_len] at this
     exact this
  ·cases h
 ·cases h
def orcNn (args : List LV) : Option LV := match orcTr args with
 | some r => some r
 | none => orcTo args
theorem orcNn_ok {args : List LV} {r : LV} (h : orcNn args = some r) : PureGood Tryz.prog 118 args r := by
 unfold orcNn at h
 split at h
 ·rename_i r' hr
  cases h
  exact orcTr_ok (fun f h1 h2 => qpnorm_good f (by omega) (fun c hc => by have := h2 c hc;omega)) hr
 ·exact orcTo_ok h
noncomputable def chkZN (n : Nat) : Bool := (match evo orcR 95 [.sl (cyF n).length (wrI2 (cyF n))] with
 | some (.sl k cs) => match rdI2 cs with
   | some l => Nat.beq k (cyF n).length && eqZ l (cyF n)
   | none => false
 | _ => false) && (match evo orcR 94 [.sl (cyF n).length (wrI2 (cyF n))] with
 | some (.sl k cs) => match rdZs k cs with
   | some l => eqZ l (cyF n)
   | none => false
 | _ => false)
theorem zn_all : nFC.all chkZN = true := by kernel_rfl
theorem zn_good {n : Nat} (h : n ∈ nFC) : PureGood Tryz.prog 95 [.sl (cyF n).length (wrI2 (cyF n))] (.sl (cyF n).length (wrI2 (cyF n))) ∧ PureGood Tryz.prog 94 [.sl (cyF n).length (wrI2 (cyF n))] (encF (rz (cyF n))) := by
 have h := List.all_eq_true.1 zn_all n h
 unfold chkZN at h
 rw [Bool.and_eq_true] at h
 obtain ⟨h,h'⟩ := h
 constructor
 ·split at h
  ·rename_i k cs h1
   split at h
   ·rename_i l hl
    rw [Bool.and_eq_true] at h
    have e1 := Nat.eq_of_beq_eq_true h.1
    have e3 := eqZ_ok h.2
    subst e1
    subst e3
    have e4 := rdI2_ok hl
    rw [← e4] at h1 ⊢
    exact evo_good orcR_ok h1
   ·cases h
  ·cases h
 ·split at h'
  ·rename_i k cs h1
   split at h'
   ·rename_i l hl
    have e3 := eqZ_ok h'
    obtain ⟨rfl,rfl,_⟩ := rdZs_ok hl
    subst e3
    rw [encF_qc,rz_len]
    exact evo_good orcR_ok h1
   ·cases h'
  ·cases h'
def findC (l : List Int) : Option Nat := nFC.find? fun n => eqZ l (cyF n)
theorem findC_ok {l : List Int} {n : Nat} (h : findC l = some n) : n ∈ nFC ∧ l = cyF n := ⟨List.mem_of_find?_eq_some h,eqZ_ok (by simpa using List.find?_some h)⟩
def orcZn (args : List LV) : Option LV := match args with
 | [.sl k cs] => match rdI2 cs with
   | some l => match findC l with
     | some _ => bif Nat.beq k l.length then some (.sl k cs) else none
     | none => none
   | none => none
 | _ => none
def orcOf (args : List LV) : Option LV := match args with
 | [.sl k cs] => match rdI2 cs with
   | some l => match findC l with
     | some _ => bif Nat.beq k l.length && allZ l then some (wrZL l) else none
     | none => none
   | none => none
 | _ => none
theorem orcZn_ok {args : List LV} {r : LV} (h : orcZn args = some r) : PureGood Tryz.prog 95 args r := by
 unfold orcZn at h
 split at h
 ·rename_i k cs
  split at h
  ·rename_i l hl
   split at h
   ·rename_i n hn
    obtain ⟨m1,rfl⟩ := findC_ok hn
    cases hb : Nat.beq k (cyF n).length with
    | false => rw [hb,cond_false] at h;cases h
    | true =>
      rw [hb,cond_true] at h
      cases h
      have e1 := Nat.eq_of_beq_eq_true hb
      subst e1
      rw [rdI2_ok hl]
      exact (zn_good m1).1
   ·cases h
  ·cases h
 ·cases h
theorem orcOf_ok {args : List LV} {r : LV} (h : orcOf args = some r) : PureGood Tryz.prog 94 args r := by
 unfold orcOf at h
 split at h
 ·rename_i k cs
  split at h
  ·rename_i l hl
   split at h
   ·rename_i n hn
    obtain ⟨m1,rfl⟩ := findC_ok hn
    cases hb : (Nat.beq k (cyF n).length && allZ (cyF n)) with
    | false => rw [hb,cond_false] at h;cases h
    | true =>
      rw [hb,cond_true] at h
      cases h
      rw [Bool.and_eq_true] at hb
      have e1 := Nat.eq_of_beq_eq_true hb.1
      subst e1
      rw [rdI2_ok hl,wrZL_eq (List.all_eq_true.1 hb.2)]
      exact (zn_good m1).2
   ·cases h
  ·cases h
 ·cases h
def orcS (f : FuncId) (args : List LV) : Option LV := bif Nat.beq f 98 then orcMp args else bif Nat.beq f 108 then orcAp args else bif Nat.beq f 118 then orcNn args else bif Nat.beq f 95 then orcZn args else bif Nat.beq f 94 then orcOf args else orcR f args
theorem orcS_ok : OrcOk Tryz.prog orcS := by
 intro f args r h
 exact orc_cons (f0 := 98) (g := orcMp) (fun _ _ h => orcMp_ok h) (orc_cons (f0 := 108) (g := orcAp) (fun _ _ h => orcAp_ok h) (orc_cons (f0 := 118) (g := orcNn) (fun _ _ h => orcNn_ok h) (orc_cons (f0 := 95) (g := orcZn) (fun _ _ h => orcZn_ok h) (orc_cons (f0 := 94) (g := orcOf) (fun _ _ h => orcOf_ok h) orcR_ok)))) f args r h
end Go.Proofs.YtpkjokknpbclhaaGreat