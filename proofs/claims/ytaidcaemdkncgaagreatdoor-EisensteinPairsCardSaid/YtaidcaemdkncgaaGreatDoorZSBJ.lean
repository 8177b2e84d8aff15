/- Contracts of functions of the program, and what proves them (texts: EC5 DMs DMt NumSe S0e EP1 B11s L1e EP2 EC7 EP4 EP2b). -/
import Derived.Test.YtaidcaemdkncgaaGreatDoorZSAG
import Derived.Test.YtaidcaemdkncgaaGreatDoorZSAQ
import Derived.Test.YtaidcaemdkncgaaGreatDoorZSBH
import Derived.Test.YtaidcaemdkncgaaGreatDoorZSBI
set_option linter.all false
set_option maxRecDepth 100000
set_option maxHeartbeats 8000000
namespace Go.Proofs.YtaidcaemdkncgaaGreatDoor
section
open Go Go.Lg Go.Num
theorem tE (ρ:List Nat) (τ:Nat→Nat) {b:Nat}(h:b<2):kL ρ 2 τ b=ρ.getD b 0:=by
 rw[lQ,if_neg (by omega)]
theorem bMa {n l i:Nat}(h:i≤n):renLs (eH n l i+2) (kL [0,1] 2 (fun j=>j+2)) (cI n l i)=some (cI n l i):=by
 unfold cI;refine rS (fun j hj=> ?_);have hj:=List.mem_range.1 hj;by_cases c:j<i
 ·have:j<eH n l i:=by unfold eH;split <;>omega
  rw[aMj c,rT (by omega),aAv]
 ·rw[aTu c];by_cases hl:l=0
  ·subst hl;rw[aG8];rfl
  ·have:j<eH n l i:=by rw[wW hl];exact hj
   have e2:cvL l j= .own (j+2) 0 l 4:=if_neg hl;rw[e2,rT (by omega),aAv]
theorem aWx (cf:Nat→Nat→Rat) (j:Nat):qc (qP cf 0 j)=[]:=rfl
theorem aQb (cf:Nat→Nat→Rat) (l i j:Nat):∀ c∈(gQ cf l i j).cells,aB c=true:=of_eq_true (aF2 _)
theorem aAy {f:Nat→LV}{h:Nat→Option Blk}{nb n l i:Nat}{L:List (Nat×LV)}{b0:Blk}{ty:TypeId}{cf:Nat→Nat→Rat}(hi:i≤n) (F0:h 0=some b0) (F1:h 1=some ⟨ty,cI n l i,false⟩) (FI:∀ j,j<eH n l i→h (j+2)=some (gQ cf l i j)) (p0:∀ c∈b0.cells,aB c=true)
  (hf:∀ p∈L,renL (eH n l i+2) (kL [0,1] 2 fun j=>j+2) p.2=some (f p.1)):Sub 0 ⟨160,f,h,nb⟩ ⟨160,lk L,eE [(0,b0),(1,⟨ty,cI n l i,false⟩)] 2 (eH n l i) (gQ cf l i),eH n l i+2⟩:=by
 refine Sub.fam [0,1] (fun j=>j+2) rfl rfl (by decide) hf (by simp) ?_ FI (fun j _=>aQb cf l i j) (fun i j _ _ e=>by omega) (fun i _ b hb=>by simp at hb;omega);simp only[List.forall_mem_cons,List.not_mem_nil,false_imp_iff,implies_true,and_true,List.getD_cons_zero,List.getD_cons_succ];exact⟨⟨_,F0,cM p0⟩,⟨_,F1,bMa hi⟩⟩
theorem aJ2 {f:Nat→LV}{h:Nat→Option Blk}{nb n l i new:Nat}{L:List (Nat×LV)}{b0:Blk}{ty:TypeId}{cf:Nat→Nat→Rat}(hi:i<n) (hnew:eH n l i+2≤new) (F0:h 0=some b0) (F1:h 1=some ⟨ty,(cI n l i).set i (.own new 0 (l+1) 4),false⟩) (FI:∀ j,j<eH n l i→j≠i→h (j+2)=some (gQ cf l i j)) (FN:h new=some ⟨47,qc (qP cf l i)++dD (cf l i),false⟩) (p0:∀ c∈b0.cells,aB c=true)
  (hf:∀ p∈L,renL (eH n l (i+1)+2) (kL [0,1] 2 fun j=>if j=i then new else j+2) p.2=some (f p.1)):Sub 0 ⟨160,f,h,nb⟩ ⟨160,lk L,eE [(0,b0),(1,⟨ty,cI n l (i+1),false⟩)] 2 (eH n l (i+1)) (gQ cf l (i+1)),eH n l (i+1)+2⟩:=by
 have hlt:∀ j,j<eH n l (i+1)→j≠i→j<eH n l i:=fun j h1 h2=>by
  unfold eH at*;split at h1 <;>split <;>omega
 refine Sub.fam [0,1] (fun j=>if j=i then new else j+2) rfl rfl (by decide) hf (by simp) ?_ ?_ (fun j _=>aQb cf l (i+1) j) ?_ ?_
 ·simp only[List.forall_mem_cons,List.not_mem_nil,false_imp_iff,implies_true,and_true,List.getD_cons_zero,List.getD_cons_succ];exact⟨⟨_,F0,cM p0⟩,⟨_,F1,bWi hi (fun j _ hj=>if_neg hj) (if_pos rfl)⟩⟩
 ·intro j hj;by_cases e:j=i
  ·subst e;rw[if_pos rfl,FN];unfold gQ;rw[if_pos (by omega),bAd];simp only[qc,List.flatMap_append,List.flatMap_cons,List.flatMap_nil,List.append_nil]
  ·rw[if_neg e,FI j (hlt j hj e) e];unfold gQ;by_cases c:j<i
   ·rw[if_pos c,if_pos (by omega)]
   ·rw[if_neg c,if_neg (by omega)]
 ·intro j j' hj hj' e;have a1:=hlt j hj;have a2:=hlt j' hj';by_cases c:j=i <;>by_cases c':j'=i
  ·omega
  ·have:=a2 c';rw[if_pos c,if_neg c']at e
   omega
  ·have:=a1 c;rw[if_neg c,if_pos c']at e
   omega
  ·rw[if_neg c,if_neg c']at e
   omega
 ·intro j hj b hb;simp only[List.mem_cons,List.not_mem_nil,or_false]at hb;split <;>omega
def cK (n prec:Nat):List LV:=(List.range n).map fun j=>if prec=0 then nilL else .own (j+3) 0 prec 4
def gK (cf:Nat→Nat→Rat) (prec i j:Nat):Blk:=⟨47,qc (qP cf prec j),decide (j<i)⟩
theorem bWj (n prec:Nat):(cK n prec).length=n:=by simp[cK]
theorem bWk {n prec i:Nat}(h:i<n):((cK n prec).drop i).head? =some (if prec=0 then nilL else .own (i+3) 0 prec 4):=by simp[cK,h]
theorem aWy (n prec:Nat):cK n prec=(List.range n).map fun j=>if prec=0 then nilL else .own (j+3) 0 prec 4:=rfl
theorem cG7 (ρ:List Nat) (τ:Nat→Nat) (j:Nat):kL ρ 3 τ (j+3)=τ j:=by
 rw[lQ,if_pos (by omega),Nat.add_sub_cancel]
theorem vP (ρ:List Nat) (τ:Nat→Nat) {b:Nat}(h:b<3):kL ρ 3 τ b=ρ.getD b 0:=by
 rw[lQ,if_neg (by omega)]
theorem bWl {n prec:Nat}{ρ:List Nat}{τ:Nat→Nat}{f:Nat→LV}(hf:∀ j,j<n→f j=if prec=0 then nilL else .own (τ j) 0 prec 4):renLs (eH n prec 0+3) (kL ρ 3 τ) (cK n prec)=some ((List.range n).map f):=by
 unfold cK;refine rS (fun j hj=> ?_);have hj:=List.mem_range.1 hj;rw[hf j hj];by_cases h:prec=0
 ·rw[if_pos h,if_pos h];rfl
 ·rw[if_neg h,if_neg h,rT (by rw[wW h];omega),cG7]
theorem bGk (cf:Nat→Nat→Rat) (l i j:Nat):∀ c∈(gK cf l i j).cells,aB c=true:=of_eq_true (aF2 _)
theorem aAz {f:Nat→LV}{h:Nat→Option Blk}{nb n prec i' x:Nat}{L:List (Nat×LV)}{b0:Blk}{ty:TypeId}{cf:Nat→Nat→Rat}{S:Nat→LV×LV}{τ:Nat→Nat}(hS:∀ j,∃ a nn cs,(S j).1=i64 a∧(S j).2= .sl nn cs) (F0:h 0=some b0) (F1:h 1=some ⟨ty,(List.range n).map fun j=>if prec=0 then nilL else .own (τ j) 0 prec 4,false⟩) (FI:∀ j,j<eH n prec 0→h (τ j)=some (gK cf prec i' j)) (F2:i'≠0→h x=some ⟨80,sC S i',false⟩) (p0:∀ c∈b0.cells,aB c=true)
  (hx:1<x) (hτ:∀ i j,τ i=τ j→i=j) (hτ1:∀ j,j<eH n prec 0→1<τ j∧x≠τ j)
  (hf:∀ p∈L,renL (eH n prec 0+3) (kL [0,1,x] 3 τ) p.2=some (f p.1)):Sub 0 ⟨160,f,h,nb⟩ ⟨160,lk L,eE ((0,b0)::(1,⟨ty,cK n prec,false⟩)::nWB 2 i' (sC S i')) 3 (eH n prec 0) (gK cf prec i'),eH n prec 0+3⟩:=by
 refine Sub.fam [0,1,x] τ rfl rfl ?_ hf ?_ ?_ FI (fun j _=>bGk cf prec i' j) (fun i j _ _ e=>hτ i j e) (fun j hj b hb=> ?_)
 ·simp;omega
 ·unfold nWB;split <;>simp
 ·have h01:∀ p∈[((0:Nat),b0),(1,⟨ty,cK n prec,false⟩)],∃ cs,h ([0,1,x].getD p.1 0)=some ⟨p.2.ty,cs,p.2.fz⟩∧renLs (eH n prec 0+3) (kL [0,1,x] 3 τ) p.2.cells=some cs:=by
   simp only[List.forall_mem_cons,List.not_mem_nil,false_imp_iff,implies_true,and_true,List.getD_cons_zero,List.getD_cons_succ];exact⟨⟨_,F0,cM p0⟩,⟨_,F1,bWl (fun j _=>rfl)⟩⟩
  intro p hp;unfold nWB at hp;by_cases h0:i'=0
  ·rw[if_pos h0]at hp
   exact h01 p hp
  ·rw[if_neg h0]at hp
   simp only[List.mem_cons,List.not_mem_nil,or_false]at hp;rcases hp with rfl |rfl |rfl
   ·exact h01 _ (by simp)
   ·exact h01 _ (by simp)
   ·exact⟨_,F2 h0,cM (vO hS i')⟩
 ·have:=hτ1 j hj;simp only[List.mem_cons,List.not_mem_nil,or_false]at hb;omega
theorem aEd {ops:Array Oper}{base i k:Nat}(h:okD ops 0 i k=true):okD ops base i (base+k)=true:=by
 unfold okD at*;rw[Nat.add_sub_cancel_left];simp only[Nat.not_lt_zero,decide_false,Bool.false_or,Nat.sub_zero]at h;rw[h,Bool.or_true]
theorem bWm {P:Program}[Laid P] {na:Nat}{ops:Array Oper}{draw:Bool}{b c:Code}{Φ:Exit→LS→Prop}{s:LS}(h:lwp P na (.seq (.seq (.region 25 ops draw) c) b) Φ s):lwp P na (.seq (.seq (.region 25 ops draw) c) b) Φ s:=h
theorem cG8 {P:Program}[Laid P] {na:Nat}{ops:Array Oper}{draw:Bool}{b:Code}{Φ:Exit→LS→Prop}{s:LS}(h:lwp P na (.seq (.region 8 ops draw) b) Φ s):lwp P na (.seq (.region 8 ops draw) b) Φ s:=h
attribute [local irreducible] lrun lwp exThen exBlk keep goodPost sg mg oc op ec qP cI fJ sC cK
theorem aMk {k prec m n T:Nat}{n1 n2:Nat}{x1 x2 y1 y2:LV}{b1 b2 tr:Bool}(hx1:∃ a c,x1= .sl a c) (hx2:∃ a c,x2= .sl a c) (k1:2≤k) (k2:k≤40) (hn1:1≤n) (hn2:n≤12) (hp:prec≤20) (m1:1≤m) (m2:m≤1000) (T1:1≤T) (T2:T≤1000)
  (htr:tr=(decide ((n1:Int)=1) && decide ((n2:Int)=1))) (hpar:(b1==b2)=decide (k % 2=0)) (hk:¬(k=2∧tr=true∧T=1)) (cf:Nat→Nat→Rat)
  (gform:PGd 91 [.agg [i64 n1,x1,i64 n2,x2,i64 T]] (i64 0)) (gord:PGd 92 [.agg [i64 n1,x1],.agg [i64 n2,x2]] (i64 m))
  (ge1:PGd 93 [.agg [i64 n1,x1],i64 (-1),i64 (2*(m:Int))] (i64 (if b1 then 0 else(m:Int)))) (ge2:PGd 93 [.agg [i64 n2,x2],i64 (-1),i64 (2*(m:Int))] (i64 (if b2 then 0 else(m:Int))))
  (gphi:PGd 94 [i64 m] (i64 n))
  (hc0:∃ Z:List Rat,Z.length=n∧(∀ j,j<n→Z.getD j 0=cf 0 j)∧PGd 95 [i64 k,.agg [i64 n1,x1,i64 n2,x2,i64 T],i64 m,i64 n] (.sl n (qc Z)))
  (hc1:∀ l,1≤l→l<prec→∃ Z:List Rat,Z.length=n∧(∀ j,j<n→Z.getD j 0=cf l j)∧PGd 96 [i64 k,.agg [i64 n1,x1,i64 n2,x2,i64 T],i64 m,i64 n,i64 l] (.sl n (qc Z)))
  (R S:Nat→LV×LV) (hR:∀ j,fK (R j).1=true∧fK (R j).2=true∧∃ a nn cs,(R j).1=i64 a∧(R j).2= .sl nn cs) (hS:∀ j,fK (S j).1=true∧fK (S j).2=true∧∃ a nn cs,(S j).1=i64 a∧(S j).2= .sl nn cs)
  (gres:∀ j,j<n→PGd 97 [i64 0,.sl prec (qc (qP cf prec j))] (.tup [.agg [(R j).1,(R j).2],i64 0]))
  (gat:∀ j,j<n→PGd 98 [.agg [(R j).1,(R j).2],i64 k,i64 T,bl tr,i64 prec] (.agg [(S j).1,(S j).2])):
  PGd 27 [i64 k,.agg [i64 n1,x1,i64 n2,x2,i64 T],i64 prec] (.tup [.sl n (sC S n),i64 0]):=by
 obtain⟨a1,d1,rfl⟩:=hx1;obtain⟨a2,d2,rfl⟩:=hx2;have hkm:(k:Int) % 2=((k % 2:Nat):Int):=rfl
 obtain⟨sv,hsv,hsm⟩:∃ sv:Nat,((if b1 then 0 else(m:Int))+(if b2 then 0 else(m:Int))) % (2*(m:Int))=(sv:Int)∧((sv=0)=(k % 2=0)):=by
  refine⟨if b1=b2 then 0 else m,?_,?_⟩
  ·cases b1 <;>cases b2 <;>simp
   all_goals(first |done |(rw[show(m:Int)+m=2*m by omega,Int.emod_self]) |(rw[Int.emod_eq_of_lt (by omega) (by omega)]))
  ·cases b1 <;>cases b2 <;>simp_all <;>omega
 have gi1:PGd 93 [.agg [i64 n1,.sl a1 d1],i64 (-1),i64 (2*(m:Int))] (i64 (if b1 then 0 else(m:Int))):=ge1;have gi2:PGd 93 [.agg [i64 n2,.sl a2 d2],i64 (-1),i64 (2*(m:Int))] (i64 (if b2 then 0 else(m:Int))):=ge2;have he1:∃ e1:Int,(if b1 then 0 else(m:Int))=e1∧0≤e1∧e1≤1000:=⟨_,rfl,by split <;>omega,by split <;>omega⟩;have he2:∃ e2:Int,(if b2 then 0 else(m:Int))=e2∧0≤e2∧e2≤1000:=⟨_,rfl,by split <;>omega,by split <;>omega⟩;obtain⟨e1,q1,r1,s1⟩:=he1;obtain⟨e2,q2,r2,s2⟩:=he2;rw[q1,q2]at hsv
 rw[q1]at gi1
 rw[q2]at gi2
 clear ge1 ge2;have htm:(e1+e2).tmod (2*(m:Int))=(sv:Int):=by rw[Int.tmod_eq_emod_of_nonneg (by omega)];exact hsv
 have hkt:(k:Int).tmod 2=((k % 2:Nat):Int):=by rw[Int.tmod_eq_emod_of_nonneg (by omega)];rfl
 have hpz:(((e1+e2) % (2*(m:Int)))==0)=((k:Int) % 2==0):=by
  rw[hsv,hkm];by_cases h:k % 2=0
  ·have h1:sv=0:=by rw[hsm];exact h
   rw[h,h1]
  ·have h1:sv≠0:=fun x=>h (by rw[← hsm];exact x)
   rw[beq_eq_false_iff_ne.2 (by omega),beq_eq_false_iff_ne.2 (by omega)]
 simp only[i64]at*;refine aA aV Tryz.func27 rfl (by decide) (nt:=160) rfl (rs:=[.tmp 6,.tmp 7]) rfl (aW rfl) ?_
 (repeat((fail_if_success (refine cG8 ?_));first|apply zO (by decide+kernel)|apply zP (by decide+kernel)|(apply zS;(case h=>constructor<;>decide))|((first|apply cB rfl|apply aS|apply zT rfl (by decide) rfl);(case hs=>(simp(disch:=first|omega|exact kD rfl|exact kX rfl) only[smY,simprocAttr,bl,i64,smT,smO,smE,htm,hkt];exact rfl));first|refine bZ ?_|refine cA ?_|refine zq ?_|(case hg=>assumption))))
 refine aEu (α:=Unit) (fun _=>st 160 (lk [(0,.lit (.int .i64 k)),(2,.lit (.int .i64 prec)),(4,.ptr 0 0),(9,.lit (.int .i64 m)),(10,.lit (.int .i64 (e1+e2))),(11,bl tr)]) (cG [(0,⟨58,[.lit (.int .i64 n1),.sl a1 d1,.lit (.int .i64 n2),.sl a2 d2,.lit (.int .i64 T)],false⟩)]) 1) ?_ ?_
 ·by_cases h1:(n1:Int)=1
  ·by_cases h2:(n2:Int)=1
   ·have ht:tr=true:=by rw[htr,decide_eq_true h1,decide_eq_true h2];rfl
    subst ht
    (repeat(first|apply zO (by decide+kernel)|apply zP (by decide+kernel)|(apply zS;(case h=>constructor<;>decide))|((first|apply cB rfl|apply aS|apply zT rfl (by decide) rfl);(case hs=>(simp(disch:=first|omega|exact kD rfl|exact kX rfl) only[smY,simprocAttr,bl,i64,smT,smO,smE,htm,hkt,h1,h2];exact rfl));first|refine bZ ?_|refine cA ?_|refine zq ?_|(case hg=>assumption))))
    refine⟨(),?_⟩
    (refine fY [0] ?_ ?_ ?_;all_goals(first|(simp only[aB,aI,simprocAttr,bl,i64,smT,smO,smE,htm,hkt,h1,h2];done) |(simp only[aI,simprocAttr,bl,i64,smT,smO,smE,htm,hkt,h1,h2];try((repeat' apply And.intro);all_goals rfl)) |skip))
    all_goals(first |done |trace_state)
   ·have ht:tr=false:=by rw[htr,decide_eq_true h1,decide_eq_false h2];rfl
    subst ht
    (repeat(first|apply zO (by decide+kernel)|apply zP (by decide+kernel)|(apply zS;(case h=>constructor<;>decide))|((first|apply cB rfl|apply aS|apply zT rfl (by decide) rfl);(case hs=>(simp(disch:=first|omega|exact kD rfl|exact kX rfl) only[smY,simprocAttr,bl,i64,smT,smO,smE,htm,hkt,h1,h2];exact rfl));first|refine bZ ?_|refine cA ?_|refine zq ?_|(case hg=>assumption))))
    refine⟨(),?_⟩
    (refine fY [0] ?_ ?_ ?_;all_goals(first|(simp only[aB,aI,simprocAttr,bl,i64,smT,smO,smE,htm,hkt,h1,h2];done) |(simp only[aI,simprocAttr,bl,i64,smT,smO,smE,htm,hkt,h1,h2];try((repeat' apply And.intro);all_goals rfl)) |skip))
    all_goals(first |done |trace_state)
  ·have ht:tr=false:=by rw[htr,decide_eq_false h1];rfl
   subst ht;refine kK (nd htm (nd hkt h1)) ?_;refine⟨(),?_⟩;exact bT9 (nd htm (nd hkt h1)) [0]
 ·rintro -;simp only[st];refine aEu (α:=Unit) (fun _=>st 160 (lk [(0,.lit (.int .i64 k)),(2,.lit (.int .i64 prec)),(4,.ptr 0 0),(9,.lit (.int .i64 m)),(11,bl tr)]) (cG [(0,⟨58,[.lit (.int .i64 n1),.sl a1 d1,.lit (.int .i64 n2),.sl a2 d2,.lit (.int .i64 T)],false⟩)]) 1) ?_ ?_
  ·refine vY ?_;by_cases h1:(k:Int)=2
   ·cases htt:tr
    ·skip
     (repeat(first|apply zO (by decide+kernel)|apply zP (by decide+kernel)|(apply zS;(case h=>constructor<;>decide))|((first|apply cB rfl|apply aS|apply zT rfl (by decide) rfl);(case hs=>(simp(disch:=first|omega|exact kD rfl|exact kX rfl) only[smY,simprocAttr,bl,i64,smT,smO,smE,hpz,bne_self_eq_false,h1,htt];exact rfl));first|refine bZ ?_|refine cA ?_|refine zq ?_|(case hg=>assumption))))
     refine⟨(),?_⟩
     (refine fY [0] ?_ ?_ ?_;all_goals(first|(simp only[aB,aI,simprocAttr,bl,i64,smT,smO,smE,hpz,bne_self_eq_false,h1,htt];done) |(simp only[aI,simprocAttr,bl,i64,smT,smO,smE,hpz,bne_self_eq_false,h1,htt];try((repeat' apply And.intro);all_goals rfl)) |skip))
     all_goals(first |done |trace_state)
    ·by_cases h2:(T:Int)=1
     ·exact absurd ⟨by omega,htt,by omega⟩ hk
     ·skip
      (repeat(first|apply zO (by decide+kernel)|apply zP (by decide+kernel)|(apply zS;(case h=>constructor<;>decide))|((first|apply cB rfl|apply aS|apply zT rfl (by decide) rfl);(case hs=>(simp(disch:=first|omega|exact kD rfl|exact kX rfl) only[smY,simprocAttr,bl,i64,smT,smO,smE,hpz,bne_self_eq_false,h1,h2,htt];exact rfl));first|refine bZ ?_|refine cA ?_|refine zq ?_|(case hg=>assumption))))
      refine⟨(),?_⟩
      (refine fY [0] ?_ ?_ ?_;all_goals(first|(simp only[aB,aI,simprocAttr,bl,i64,smT,smO,smE,hpz,bne_self_eq_false,h1,h2,htt];done) |(simp only[aI,simprocAttr,bl,i64,smT,smO,smE,hpz,bne_self_eq_false,h1,h2,htt];try((repeat' apply And.intro);all_goals rfl)) |skip))
      all_goals(first |done |trace_state)
   ·skip
    (repeat(first|apply zO (by decide+kernel)|apply zP (by decide+kernel)|(apply zS;(case h=>constructor<;>decide))|((first|apply cB rfl|apply aS|apply zT rfl (by decide) rfl);(case hs=>(simp(disch:=first|omega|exact kD rfl|exact kX rfl) only[smY,simprocAttr,bl,i64,smT,smO,smE,hpz,bne_self_eq_false,h1];exact rfl));first|refine bZ ?_|refine cA ?_|refine zq ?_|(case hg=>assumption))))
    refine⟨(),?_⟩
    (refine fY [0] ?_ ?_ ?_;all_goals(first|(simp only[aB,aI,simprocAttr,bl,i64,smT,smO,smE,hpz,bne_self_eq_false,h1];done) |(simp only[aI,simprocAttr,bl,i64,smT,smO,smE,hpz,bne_self_eq_false,h1];try((repeat' apply And.intro);all_goals rfl)) |skip))
    all_goals(first |done |trace_state)
  ·rintro -;simp only[st];refine zA8 ?_;refine aG (α:={l:Nat // l≤prec}) (fun l=>st 160 (lk [(0,.lit (.int .i64 k)),(2,.lit (.int .i64 prec)),(4,.ptr 0 0),(9,.lit (.int .i64 m)),(11,bl tr),(12,.lit (.int .i64 n)),(13,.own 1 0 n 1),(14,.lit (.int .i64 l.1))]) (eE [(0,⟨58,[.lit (.int .i64 n1),.sl a1 d1,.lit (.int .i64 n2),.sl a2 d2,.lit (.int .i64 T)],false⟩),(1,⟨29,cI n l.1 0,false⟩)] 2 (eH n l.1 0) (gQ cf l.1 0)) (eH n l.1 0+2)) (fun l=>prec-l.1) ⟨0,by omega⟩ ?_ ?_
   ·simp only[st];have hN0:(0<eH n 0 0+2)=True:=by simp
    have hN1:(1<eH n 0 0+2)=True:=by simp
    have hz:eH n 0 0=0:=rfl;refine Sub.fam [0,13] (fun j=>j+2) rfl rfl (by decide) ?_ ?_ ?_ ?_ ?_ ?_ ?_
    ·simp only[List.forall_mem_cons,List.not_mem_nil,false_imp_iff,implies_true,and_true,aI,simprocAttr,bl,i64,smT,smO,smE,hN0,hN1,tE,Nat.reduceLT,List.getD_cons_zero,List.getD_cons_succ,↓reduceIte]
    ·simp
    ·simp only[List.forall_mem_cons,List.not_mem_nil,false_imp_iff,implies_true,and_true,List.getD_cons_zero,List.getD_cons_succ,bJ,Nat.reduceEqDiff,↓reduceIte];refine⟨⟨_,rfl,by simp only[aI,simprocAttr,bl,i64,smT,smO,smE]⟩,⟨_,rfl,?_⟩⟩;rw[bGj];exact cM (fun c hc=>by rw[List.eq_of_mem_replicate hc];rfl)
    ·rintro i hi;omega
    ·rintro i hi;omega
    ·rintro i j hi;omega
    ·rintro i hi;omega
   ·rintro⟨l,hl⟩;simp only[st];have F0:eE [(0,⟨58,[.lit (.int .i64 n1),.sl a1 d1,.lit (.int .i64 n2),.sl a2 d2,.lit (.int .i64 T)],false⟩),(1,⟨29,cI n l 0,false⟩)] 2 (eH n l 0) (gQ cf l 0) 0=some ⟨58,[.lit (.int .i64 n1),.sl a1 d1,.lit (.int .i64 n2),.sl a2 d2,.lit (.int .i64 T)],false⟩:=rfl;have F1:eE [(0,⟨58,[.lit (.int .i64 n1),.sl a1 d1,.lit (.int .i64 n2),.sl a2 d2,.lit (.int .i64 T)],false⟩),(1,⟨29,cI n l 0,false⟩)] 2 (eH n l 0) (gQ cf l 0) 1=some ⟨29,cI n l 0,false⟩:=rfl;have FI:∀ j,j<eH n l 0→eE [(0,⟨58,[.lit (.int .i64 n1),.sl a1 d1,.lit (.int .i64 n2),.sl a2 d2,.lit (.int .i64 T)],false⟩),(1,⟨29,cI n l 0,false⟩)] 2 (eH n l 0) (gQ cf l 0) (j+2)=some (gQ cf l 0 j):=fun j hj=>qD hj
    by_cases hlt:l<prec
    ·generalize eE [(0,⟨58,[.lit (.int .i64 n1),.sl a1 d1,.lit (.int .i64 n2),.sl a2 d2,.lit (.int .i64 T)],false⟩),(1,⟨29,cI n l 0,false⟩)] 2 (eH n l 0) (gQ cf l 0)=HH at*;obtain⟨Z0,z1,z2,gz⟩:=hc0
     (repeat((fail_if_success (refine bWm ?_));first|apply zO (by decide+kernel)|apply zP (by decide+kernel)|(apply zS;(case h=>constructor<;>decide))|((first|apply cB rfl|apply aS|apply zT rfl (by decide) rfl);(case hs=>(simp(disch:=first|omega|exact kD rfl|exact kX rfl) only[smY,simprocAttr,bl,i64,smT,smO,smE,F0,F1];exact rfl));first|refine bZ ?_|refine cA ?_|refine zq ?_|(case hg=>assumption))))
     refine aEu (α:={Z:List Rat // Z.length=n∧∀ j,j<n→Z.getD j 0=cf l j}) (fun Z=>st 160 (lk [(0,.lit (.int .i64 k)),(2,.lit (.int .i64 prec)),(4,.ptr 0 0),(9,.lit (.int .i64 m)),(11,bl tr),(12,.lit (.int .i64 n)),(13,.own 1 0 n 1),(14,.lit (.int .i64 l)),(15,.sl n (qc Z.1))]) (eE [(0,⟨58,[.lit (.int .i64 n1),.sl a1 d1,.lit (.int .i64 n2),.sl a2 d2,.lit (.int .i64 T)],false⟩),(1,⟨29,cI n l 0,false⟩)] 2 (eH n l 0) (gQ cf l 0)) (eH n l 0+2)) ?_ ?_
     ·by_cases h0:l=0
      ·subst h0;refine kK (nd F0 F1) ?_;refine⟨⟨Z0,z1,z2⟩,?_⟩;simp only[st];refine aAy (Nat.zero_le _) F0 F1 FI (by simp[aB]) ?_;have hN0:(0<eH n 0 0+2)=True:=by simp
       have hN1:(1<eH n 0 0+2)=True:=by simp
       simp only[List.forall_mem_cons,List.not_mem_nil,false_imp_iff,implies_true,and_true,aI,simprocAttr,bl,i64,smT,smO,smE,F0,F1,hN0,hN1,tE,Nat.reduceLT,List.getD_cons_zero,List.getD_cons_succ,↓reduceIte]
      ·obtain⟨Z1,y1,y2,gy⟩:=hc1 l (by omega) hlt;refine kK (nd F0 F1) ?_;refine⟨⟨Z1,y1,y2⟩,?_⟩;simp only[st];refine aAy (Nat.zero_le _) F0 F1 FI (by simp[aB]) ?_;have hN0:(0<eH n l 0+2)=True:=by simp
       have hN1:(1<eH n l 0+2)=True:=by simp
       simp only[List.forall_mem_cons,List.not_mem_nil,false_imp_iff,implies_true,and_true,aI,simprocAttr,bl,i64,smT,smO,smE,F0,F1,hN0,hN1,tE,Nat.reduceLT,List.getD_cons_zero,List.getD_cons_succ,↓reduceIte]
     ·rintro⟨Z,hZ1,hZ2⟩;simp only[st];have F0:eE [(0,⟨58,[.lit (.int .i64 n1),.sl a1 d1,.lit (.int .i64 n2),.sl a2 d2,.lit (.int .i64 T)],false⟩),(1,⟨29,cI n l 0,false⟩)] 2 (eH n l 0) (gQ cf l 0) 0=some ⟨58,[.lit (.int .i64 n1),.sl a1 d1,.lit (.int .i64 n2),.sl a2 d2,.lit (.int .i64 T)],false⟩:=rfl;have F1:eE [(0,⟨58,[.lit (.int .i64 n1),.sl a1 d1,.lit (.int .i64 n2),.sl a2 d2,.lit (.int .i64 T)],false⟩),(1,⟨29,cI n l 0,false⟩)] 2 (eH n l 0) (gQ cf l 0) 1=some ⟨29,cI n l 0,false⟩:=rfl;have FI:∀ j,j<eH n l 0→eE [(0,⟨58,[.lit (.int .i64 n1),.sl a1 d1,.lit (.int .i64 n2),.sl a2 d2,.lit (.int .i64 T)],false⟩),(1,⟨29,cI n l 0,false⟩)] 2 (eH n l 0) (gQ cf l 0) (j+2)=some (gQ cf l 0 j):=fun j hj=>qD hj
      generalize eE [(0,⟨58,[.lit (.int .i64 n1),.sl a1 d1,.lit (.int .i64 n2),.sl a2 d2,.lit (.int .i64 T)],false⟩),(1,⟨29,cI n l 0,false⟩)] 2 (eH n l 0) (gQ cf l 0)=HH at*;refine kK (nd F0 F1) ?_;refine aG (α:={i:Nat // i≤n}) (fun i=>st 160 (lk [(0,.lit (.int .i64 k)),(2,.lit (.int .i64 prec)),(4,.ptr 0 0),(9,.lit (.int .i64 m)),(11,bl tr),(12,.lit (.int .i64 n)),(13,.own 1 0 n 1),(14,.lit (.int .i64 l)),(15,.sl n (qc Z)),(16,.lit (.int .i64 i.1))]) (eE [(0,⟨58,[.lit (.int .i64 n1),.sl a1 d1,.lit (.int .i64 n2),.sl a2 d2,.lit (.int .i64 T)],false⟩),(1,⟨29,cI n l i.1,false⟩)] 2 (eH n l i.1) (gQ cf l i.1)) (eH n l i.1+2)) (fun i=>n-i.1) ⟨0,by omega⟩ ?_ ?_
      ·simp only[st];refine aAy (Nat.zero_le _) F0 F1 FI (by simp[aB]) ?_;have hN0:(0<eH n l 0+2)=True:=by simp
       have hN1:(1<eH n l 0+2)=True:=by simp
       simp only[List.forall_mem_cons,List.not_mem_nil,false_imp_iff,implies_true,and_true,aI,simprocAttr,bl,i64,smT,smO,smE,F0,F1,hN0,hN1,tE,Nat.reduceLT,List.getD_cons_zero,List.getD_cons_succ,↓reduceIte]
      ·rintro⟨i,hi⟩;simp only[st];have F0:eE [(0,⟨58,[.lit (.int .i64 n1),.sl a1 d1,.lit (.int .i64 n2),.sl a2 d2,.lit (.int .i64 T)],false⟩),(1,⟨29,cI n l i,false⟩)] 2 (eH n l i) (gQ cf l i) 0=some ⟨58,[.lit (.int .i64 n1),.sl a1 d1,.lit (.int .i64 n2),.sl a2 d2,.lit (.int .i64 T)],false⟩:=rfl;have F1:eE [(0,⟨58,[.lit (.int .i64 n1),.sl a1 d1,.lit (.int .i64 n2),.sl a2 d2,.lit (.int .i64 T)],false⟩),(1,⟨29,cI n l i,false⟩)] 2 (eH n l i) (gQ cf l i) 1=some ⟨29,cI n l i,false⟩:=rfl;have FI:∀ j,j<eH n l i→eE [(0,⟨58,[.lit (.int .i64 n1),.sl a1 d1,.lit (.int .i64 n2),.sl a2 d2,.lit (.int .i64 T)],false⟩),(1,⟨29,cI n l i,false⟩)] 2 (eH n l i) (gQ cf l i) (j+2)=some (gQ cf l i j):=fun j hj=>qD hj
       have hcl:=bWg n l i;by_cases hin:i<n
       ·have hg:=bWh (l:=l) hin;have hz:=hZ2 i hin;generalize eE [(0,⟨58,[.lit (.int .i64 n1),.sl a1 d1,.lit (.int .i64 n2),.sl a2 d2,.lit (.int .i64 T)],false⟩),(1,⟨29,cI n l i,false⟩)] 2 (eH n l i) (gQ cf l i)=HH at*;by_cases h0:l=0
        ·subst h0;rw[aG8]at hg
         (repeat(first|apply zO (by decide+kernel)|apply zP (by decide+kernel)|(apply zS;(case h=>constructor<;>decide))|((first|apply cB rfl|apply aS|apply zT rfl (by decide) rfl);(case hs=>(simp(disch:=first|omega|exact kD rfl|exact kX rfl) only[smY,simprocAttr,bl,i64,smT,smO,smE,F0,F1,hcl,hg,hz,hZ1,aEd];exact rfl));first|refine bZ ?_|refine cA ?_|refine zq ?_|(case hg=>assumption))))
         refine⟨⟨i+1,by omega⟩,?_,by simp only;omega⟩;have hN0:(0<eH n 0 (i+1)+2)=True:=by simp
         have hN1:(1<eH n 0 (i+1)+2)=True:=by simp
         refine aJ2 (new:=eH n 0 i+2+3+11) hin (by omega) ?_ ?_ ?_ ?_ (by simp[aB]) ?_
         ·simp(disch:=omega) only[bJ,Nat.reduceEqDiff,↓reduceIte,if_neg,F0]
         ·simp(disch:=omega) only[bJ,Nat.reduceEqDiff,↓reduceIte,if_neg]
         ·intro j hj hji;simp(disch:=omega) only[bJ,if_neg,FI j hj]
         ·simp(disch:=omega) only[bJ,if_neg,↓reduceIte];rw[dR,aWx,List.nil_append]
         ·simp only[List.forall_mem_cons,List.not_mem_nil,false_imp_iff,implies_true,and_true,aI,simprocAttr,bl,i64,smT,smO,smE,F0,F1,hcl,hg,hz,hZ1,aEd,hN0,hN1,tE,Nat.reduceLT,List.getD_cons_zero,List.getD_cons_succ,↓reduceIte]
        ·have hcv:cvL l i= .own (i+2) 0 l 4:=if_neg h0;rw[hcv]at hg
         have FIi:=FI i (by rw[wW h0];exact hin)
         have hgq:gQ cf l i i=⟨47,qc (qP cf l i),false⟩:=by
          unfold gQ;rw[if_neg (by omega)]
         rw[hgq]at FIi
         have hql:=aQa cf l i;have hfi:i<eH n l i:=by rw[wW h0];exact hin
         have hne:(i=eH n l i+13)=False:=eq_false (by omega);have hqn:(qc (qP cf l i)).length=l*4:=by rw[gV,hql]
         have htk:(qc (qP cf l i)).take (l*4)=qc (qP cf l i):=List.take_of_length_le (by omega);have hlb:(l+1)*64≤140737488355328:=by omega
         have hlb2:l≤9223372036854775806:=by omega
         (repeat(first|apply zO (by decide+kernel)|apply zP (by decide+kernel)|(apply zS;(case h=>constructor<;>decide))|((first|apply cB rfl|apply aS|apply zT rfl (by decide) rfl);(case hs=>(simp(disch:=first|omega|exact kD rfl|exact kX rfl) only[smY,simprocAttr,bl,i64,smT,smO,smE,F0,F1,hcl,hg,hz,hZ1,aEd,FIi,hne,hqn,htk,hlb,hlb2];exact rfl));first|refine bZ ?_|refine cA ?_|refine zq ?_|(case hg=>assumption))))
         refine⟨⟨i+1,by omega⟩,?_,by simp only;omega⟩;have hN0:(0<eH n l (i+1)+2)=True:=by simp
         have hN1:(1<eH n l (i+1)+2)=True:=by simp
         refine aJ2 (new:=eH n l i+2+3+11) hin (by omega) ?_ ?_ ?_ ?_ (by simp[aB]) ?_
         ·simp(disch:=omega) only[bJ,Nat.reduceEqDiff,↓reduceIte,if_neg,F0]
         ·simp(disch:=omega) only[bJ,Nat.reduceEqDiff,↓reduceIte,if_neg]
         ·intro j hj hji;simp(disch:=omega) only[bJ,if_neg,FI j hj]
         ·simp(disch:=omega) only[bJ,if_neg,↓reduceIte];rw[dR]
         ·simp only[List.forall_mem_cons,List.not_mem_nil,false_imp_iff,implies_true,and_true,aI,simprocAttr,bl,i64,smT,smO,smE,F0,F1,hcl,hg,hz,hZ1,aEd,FIi,hne,hqn,htk,hlb,hlb2,hN0,hN1,tE,Nat.reduceLT,List.getD_cons_zero,List.getD_cons_succ,↓reduceIte]
       ·obtain rfl:i=n:=by omega
        have FI:∀ j,j<eH i (l+1) 0→eE [(0,⟨58,[.lit (.int .i64 n1),.sl a1 d1,.lit (.int .i64 n2),.sl a2 d2,.lit (.int .i64 T)],false⟩),(1,⟨29,cI i l i,false⟩)] 2 (eH i l i) (gQ cf l i) (j+2)=some (gQ cf (l+1) 0 j):=fun j hj=>by
         rw[wW (by omega)]at hj
         rw[FI j (by unfold eH;split <;>exact hj)];unfold gQ;rw[if_pos hj,if_neg (by omega)]
        generalize eE [(0,⟨58,[.lit (.int .i64 n1),.sl a1 d1,.lit (.int .i64 n2),.sl a2 d2,.lit (.int .i64 T)],false⟩),(1,⟨29,cI i l i,false⟩)] 2 (eH i l i) (gQ cf l i)=HH at*;rw[bL9]at F1
        refine kK (nd F0 F1) ?_;refine⟨⟨l+1,by omega⟩,?_,by simp only;omega⟩;have hN0:(0<eH i (l+1) 0+2)=True:=by simp
        have hN1:(1<eH i (l+1) 0+2)=True:=by simp
        refine aAy (Nat.zero_le _) F0 F1 FI (by simp[aB]) ?_;simp only[List.forall_mem_cons,List.not_mem_nil,false_imp_iff,implies_true,and_true,aI,simprocAttr,bl,i64,smT,smO,smE,F0,F1,hN0,hN1,tE,Nat.reduceLT,List.getD_cons_zero,List.getD_cons_succ,↓reduceIte]
    ·obtain rfl:l=prec:=by omega
     have hS3:∀ j,∃ a nn cs,(S j).1=i64 a∧(S j).2= .sl nn cs:=fun j=>(hS j).2.2
     have hSp:=aAx (S:=S) (fun j=>⟨(hS j).1,(hS j).2.1⟩);generalize eE [(0,⟨58,[.lit (.int .i64 n1),.sl a1 d1,.lit (.int .i64 n2),.sl a2 d2,.lit (.int .i64 T)],false⟩),(1,⟨29,cI n l 0,false⟩)] 2 (eH n l 0) (gQ cf l 0)=HH at*;refine kK (nd F0 F1) ?_;refine aG (α:={i:Nat // i≤n}) (fun i=>st 160 (lk [(0,.lit (.int .i64 k)),(2,.lit (.int .i64 l)),(4,.ptr 0 0),(9,.lit (.int .i64 m)),(11,bl tr),(12,.lit (.int .i64 n)),(13,.own 1 0 n 1),(17,nW 2 i.1),(18,.lit (.int .i64 i.1))]) (eE ((0,⟨58,[.lit (.int .i64 n1),.sl a1 d1,.lit (.int .i64 n2),.sl a2 d2,.lit (.int .i64 T)],false⟩)::(1,⟨29,cK n l,false⟩)::nWB 2 i.1 (sC S i.1)) 3 (eH n l 0) (gK cf l i.1)) (eH n l 0+3)) (fun i=>n-i.1) ⟨0,by omega⟩ ?_ ?_
     ·simp only[st];have hN1:(1<eH n l 0+3)=True:=by simp
      have hN0:(0<eH n l 0+3)=True:=by simp
      refine aAz (i':=0) (x:=eH n l 0+2) (τ:=fun j=>j+2) hS3 F0 ?_ (fun j hj=> ?_) (fun h=>absurd rfl h) (by simp[aB]) (by omega) (fun i j e=>by omega) (fun j hj=>by omega) ?_
      ·rw[F1];congr 2;unfold cI cvI;refine List.map_congr_left (fun j _=> ?_);rw[if_neg (by omega)];unfold cvL;rfl
      ·rw[FI j hj];unfold gQ gK;rw[if_neg (by omega),decide_eq_false (by omega)]
      ·simp only[show nW 2 0=nilL from rfl,List.forall_mem_cons,List.not_mem_nil,false_imp_iff,implies_true,and_true,aI,simprocAttr,bl,i64,smT,smO,smE,F0,F1,hN0,hN1,vP,Nat.reduceLT,List.getD_cons_zero,List.getD_cons_succ,↓reduceIte];all_goals(first |done |rfl |trace_state)
     ·rintro⟨i,hi⟩;simp only[st];have F0:eE ((0,⟨58,[.lit (.int .i64 n1),.sl a1 d1,.lit (.int .i64 n2),.sl a2 d2,.lit (.int .i64 T)],false⟩)::(1,⟨29,cK n l,false⟩)::nWB 2 i (sC S i)) 3 (eH n l 0) (gK cf l i) 0=some ⟨58,[.lit (.int .i64 n1),.sl a1 d1,.lit (.int .i64 n2),.sl a2 d2,.lit (.int .i64 T)],false⟩:=rfl;have F1:eE ((0,⟨58,[.lit (.int .i64 n1),.sl a1 d1,.lit (.int .i64 n2),.sl a2 d2,.lit (.int .i64 T)],false⟩)::(1,⟨29,cK n l,false⟩)::nWB 2 i (sC S i)) 3 (eH n l 0) (gK cf l i) 1=some ⟨29,cK n l,false⟩:=rfl
      have F2:i≠0→eE ((0,⟨58,[.lit (.int .i64 n1),.sl a1 d1,.lit (.int .i64 n2),.sl a2 d2,.lit (.int .i64 T)],false⟩)::(1,⟨29,cK n l,false⟩)::nWB 2 i (sC S i)) 3 (eH n l 0) (gK cf l i) 2=some ⟨80,sC S i,false⟩:=fun h=>by
       unfold nWB;rw[if_neg h];rfl
      have FI:∀ j,j<eH n l 0→eE ((0,⟨58,[.lit (.int .i64 n1),.sl a1 d1,.lit (.int .i64 n2),.sl a2 d2,.lit (.int .i64 T)],false⟩)::(1,⟨29,cK n l,false⟩)::nWB 2 i (sC S i)) 3 (eH n l 0) (gK cf l i) (j+3)=some (gK cf l i j):=fun j hj=>qD hj
      have hcl:=bWj n l;generalize eE ((0,⟨58,[.lit (.int .i64 n1),.sl a1 d1,.lit (.int .i64 n2),.sl a2 d2,.lit (.int .i64 T)],false⟩)::(1,⟨29,cK n l,false⟩)::nWB 2 i (sC S i)) 3 (eH n l 0) (gK cf l i)=HH at*;have hsl:=tD S i;have hst:(sC S i).take (i*2)=sC S i:=List.take_of_length_le (by omega);by_cases hin:i<n
      ·have hg:=bWk (prec:=l) hin;obtain⟨_,_,ra,rn,rc,er1,er2⟩:=hR i;obtain⟨_,_,sa,sn,scs,es1,es2⟩:=hS i;have g1:=gres i hin;have g2:=gat i hin;rw[er1,er2]at g1 g2
       rw[es1,es2]at g2
       have hsc:=aAw S i;rw[es1,es2]at hsc
       have hib:(i+1)*64≤140737488355328:=by omega
       by_cases hp0:l=0
       ·subst hp0;rw[if_pos rfl]at hg
        rw[aWx]at g1
        by_cases h0:i=0
        ·subst h0;rw[show sC S 0=[]by with_unfolding_all rfl,List.nil_append]at hsc
         rw[List.drop_zero]at hg
         simp only[nW,if_pos];refine bIv (nd F0 (nd F1 hcl)) ?_;refine⟨⟨0+1,by omega⟩,?_,by simp only;omega⟩;have hN1:(1<eH n 0 0+3)=True:=eq_true (by omega);have hN0:(0<eH n 0 0+3)=True:=eq_true (by omega);have hN2:(2<eH n 0 0+3)=True:=eq_true (by omega);refine aAz (i':=0+1) (x:=eH n 0 0+3+3+11+9) (τ:=fun j=>j+3) hS3 ?_ ?_ (fun j hj=> ?_) (fun _=> ?_) (by simp[aB]) (by omega) (fun i j e=>by omega) (fun j hj=>by omega) ?_
         ·simp(disch:=omega) only[bJ,cN,Nat.reduceEqDiff,↓reduceIte,if_neg,F0];all_goals(first |done |trace_state)
         ·simp(disch:=omega) only[bJ,cN,Nat.reduceEqDiff,↓reduceIte,if_neg,F1,aWy];all_goals(first |done |trace_state)
         ·exact absurd hj (Nat.not_lt_zero j)
         ·simp(disch:=omega) only[bJ,cN,if_neg,↓reduceIte,hsc];all_goals(first |done |trace_state)
         ·simp only[List.forall_mem_cons,List.not_mem_nil,false_imp_iff,implies_true,and_true,aI,simprocAttr,bl,i64,smT,smO,smE,F0,F1,hcl,hg,hN0,hN1,hN2,vP,Nat.reduceLT,List.getD_cons_zero,List.getD_cons_succ,↓reduceIte];all_goals(first |done |trace_state)
        ·have F2':=F2 h0;simp only[nW,if_neg h0];refine bIv (nd F0 (nd F1 (nd hcl (nd F2' (nd hsl (nd hst hib)))))) ?_;refine⟨⟨i+1,by omega⟩,?_,by simp only;omega⟩;have hN1:(1<eH n 0 0+3)=True:=eq_true (by omega);have hN0:(0<eH n 0 0+3)=True:=eq_true (by omega);have hN2:(2<eH n 0 0+3)=True:=eq_true (by omega);refine aAz (i':=i+1) (x:=eH n 0 0+3+3+11+9) (τ:=fun j=>j+3) hS3 ?_ ?_ (fun j hj=> ?_) (fun _=> ?_) (by simp[aB]) (by omega) (fun i j e=>by omega) (fun j hj=>by omega) ?_
         ·simp(disch:=omega) only[bJ,cN,Nat.reduceEqDiff,↓reduceIte,if_neg,F0];all_goals(first |done |trace_state)
         ·simp(disch:=omega) only[bJ,cN,Nat.reduceEqDiff,↓reduceIte,if_neg,F1,aWy];all_goals(first |done |trace_state)
         ·exact absurd hj (Nat.not_lt_zero j)
         ·simp(disch:=omega) only[bJ,cN,if_neg,↓reduceIte,hsc];all_goals(first |done |trace_state)
         ·simp only[List.forall_mem_cons,List.not_mem_nil,false_imp_iff,implies_true,and_true,aI,simprocAttr,bl,i64,smT,smO,smE,F0,F1,hcl,hg,F2',hsl,hst,hib,hN0,hN1,hN2,vP,Nat.reduceLT,List.getD_cons_zero,List.getD_cons_succ,↓reduceIte];all_goals(first |done |trace_state)
       ·rw[if_neg hp0]at hg
        have hfi:i<eH n l 0:=by rw[wW hp0];exact hin
        have FIi:HH (i+3)=some ⟨47,qc (qP cf l i),false⟩:=by
         rw[FI i hfi];unfold gK;rw[decide_eq_false (by omega)]
        have hql:=aQa cf l i;have hqn:(qc (qP cf l i)).length=l*4:=by rw[gV,hql]
        have htk:(qc (qP cf l i)).take (l*4)=qc (qP cf l i):=List.take_of_length_le (by omega);by_cases h0:i=0
        ·subst h0;rw[show sC S 0=[]by with_unfolding_all rfl,List.nil_append]at hsc
         rw[List.drop_zero]at hg
         rw[Nat.zero_add]at FIi hg
         simp only[nW,if_pos];refine bIv (nd F0 (nd F1 (nd hcl (nd FIi (nd hqn htk))))) ?_;refine⟨⟨0+1,by omega⟩,?_,by simp only;omega⟩;have hN1:(1<eH n l 0+3)=True:=eq_true (by omega);have hN0:(0<eH n l 0+3)=True:=eq_true (by omega);have hN2:(2<eH n l 0+3)=True:=eq_true (by omega);have hm0:(0∈[3])=False:=by simp
         have hm1:(1∈[3])=False:=by simp
         have hmi:(0+3∈[3])=True:=by simp
         refine aAz (i':=0+1) (x:=eH n l 0+3+3+11+9) (τ:=fun j=>j+3) hS3 ?_ ?_ (fun j hj=> ?_) (fun _=> ?_) (by simp[aB]) (by omega) (fun i j e=>by omega) (fun j hj=>by omega) ?_
         ·simp(disch:=omega) only[bJ,cN,Nat.reduceEqDiff,↓reduceIte,if_neg,F0,hm0,Option.map_some];all_goals(first |done |trace_state)
         ·simp(disch:=omega) only[bJ,cN,Nat.reduceEqDiff,↓reduceIte,if_neg,F1,hm1,Option.map_some,aWy];all_goals(first |done |trace_state)
         ·by_cases e:j=0
          ·subst e;simp(disch:=omega) only[bJ,cN,if_neg,FIi,hmi,Option.map_some,↓reduceIte];unfold gK;rw[decide_eq_true (by omega)]
          ·have hmj:(j+3∈[0+3])=False:=by simp;omega
           simp(disch:=omega) only[bJ,cN,if_neg,FI j hj,hmj,Option.map_some,↓reduceIte];unfold gK;rw[show decide (j<0)=decide (j<0+1)by by_cases c:j<0 <;>simp[c] <;>omega]
         ·simp(disch:=omega) only[bJ,cN,if_neg,↓reduceIte,hsc];all_goals(first |done |trace_state)
         ·simp only[List.forall_mem_cons,List.not_mem_nil,false_imp_iff,implies_true,and_true,aI,simprocAttr,bl,i64,smT,smO,smE,F0,F1,hcl,hg,FIi,hqn,htk,hN0,hN1,hN2,vP,Nat.reduceLT,List.getD_cons_zero,List.getD_cons_succ,↓reduceIte];all_goals(first |done |trace_state)
        ·have F2':=F2 h0;simp only[nW,if_neg h0];refine bIv (nd F0 (nd F1 (nd hcl (nd F2' (nd hsl (nd hst (nd hib (nd FIi (nd hqn htk))))))))) ?_;refine⟨⟨i+1,by omega⟩,?_,by simp only;omega⟩;have hN1:(1<eH n l 0+3)=True:=eq_true (by omega);have hN0:(0<eH n l 0+3)=True:=eq_true (by omega);have hN2:(2<eH n l 0+3)=True:=eq_true (by omega);have hm0:(0∈[i+3])=False:=by simp
         have hm1:(1∈[i+3])=False:=by simp
         have hmi:(i+3∈[i+3])=True:=by simp
         refine aAz (i':=i+1) (x:=eH n l 0+3+3+11+9) (τ:=fun j=>j+3) hS3 ?_ ?_ (fun j hj=> ?_) (fun _=> ?_) (by simp[aB]) (by omega) (fun i j e=>by omega) (fun j hj=>by omega) ?_
         ·simp(disch:=omega) only[bJ,cN,Nat.reduceEqDiff,↓reduceIte,if_neg,F0,hm0,Option.map_some];all_goals(first |done |trace_state)
         ·simp(disch:=omega) only[bJ,cN,Nat.reduceEqDiff,↓reduceIte,if_neg,F1,hm1,Option.map_some,aWy];all_goals(first |done |trace_state)
         ·by_cases e:j=i
          ·subst e;simp(disch:=omega) only[bJ,cN,if_neg,FIi,hmi,Option.map_some,↓reduceIte];unfold gK;rw[decide_eq_true (by omega)]
          ·have hmj:(j+3∈[i+3])=False:=by simp;omega
           simp(disch:=omega) only[bJ,cN,if_neg,FI j hj,hmj,Option.map_some,↓reduceIte];unfold gK;rw[show decide (j<i)=decide (j<i+1)by by_cases c:j<i <;>simp[c] <;>omega]
         ·simp(disch:=omega) only[bJ,cN,if_neg,↓reduceIte,hsc];all_goals(first |done |trace_state)
         ·simp only[List.forall_mem_cons,List.not_mem_nil,false_imp_iff,implies_true,and_true,aI,simprocAttr,bl,i64,smT,smO,smE,F0,F1,hcl,hg,F2',hsl,hst,hib,FIi,hqn,htk,hN0,hN1,hN2,vP,Nat.reduceLT,List.getD_cons_zero,List.getD_cons_succ,↓reduceIte];all_goals(first |done |trace_state)
      ·obtain rfl:i=n:=by omega
       have F2':=F2 (by omega);have h0:¬i=0:=by omega
       have hpv:=fun(h:Nat→Option Blk) (ok:Nat→Bool) (k:Nat)=>jC (h:=h) (ok:=ok) (k:=k) (hSp i)
       simp only[nW,if_neg h0];refine kK (nd F0 (nd F1 (nd F2' (nd hsl (nd hst hpv))))) ?_;exact aX4 (nd F0 (nd F1 (nd F2' (nd hsl (nd hst hpv)))))
end
section
open Go Go.Lg Go.Num
def nY (b c:Nat):LV:=if c=0 then nilL else .own b 0 c 2
def nYB (b c:Nat) (cs:List LV):List (Nat×Blk):=if c=0 then[]else[(b,⟨80,cs,false⟩)]
def bC (C:Pr→List LV) (l:List Pr):List LV:=l.flatMap C
theorem bGl (p:Pr):p.cs.length=5:=rfl
theorem aWz:∀ {l:List Pr}{i:Nat}(h:i<l.length),((pC l).drop (i*5)).take 5=(l[i]'h).cs
 |[],i,h=>by simp at h
 |p::l,0,_=>by
  unfold pC;rw[List.flatMap_cons,Nat.zero_mul,List.drop_zero];show(p.cs++_).take p.cs.length=_
  exact List.take_left
 |p::l,i+1,h=>by
  have ih:=aWz (l:=l) (i:=i) (by simpa using h);unfold pC at*;rw[List.flatMap_cons,show(i+1)*5=p.cs.length+i*5 by rw[bGl];omega,List.drop_append,List.drop_of_length_le (by omega),Nat.add_sub_cancel_left,List.nil_append];simpa using ih
theorem aTv (l:List Pr):(pC l).length=l.length*5:=by
 unfold pC
 induction l with
 |nil=>rfl
 |cons p l ih=>rw[List.flatMap_cons,List.length_append,ih,bGl,List.length_cons];omega
theorem aQc {l:List Pr}{i:Nat}(h:i<l.length):dB (l.take (i+1))=dB (l.take i)+(l[i]'h).dg:=by
 unfold dB;rw[List.take_succ_eq_append_getElem h,List.map_append,List.sum_append];simp
theorem aW0 {C:Pr→List LV}{l:List Pr}{i:Nat}(h:i<l.length):bC C (l.take (i+1))=bC C (l.take i)++C (l[i]'h):=by
 unfold bC;rw[List.take_succ_eq_append_getElem h,List.flatMap_append];simp
theorem aG9 {C:Pr→List LV}(hC:∀ p,(C p).length=p.dg*2):∀ l:List Pr,(bC C l).length=dB l*2
 |[]=>rfl
 |p::l=>by
  have ih:=aG9 hC l;unfold bC dB at*;rw[List.flatMap_cons,List.length_append,ih,hC,List.map_cons,List.sum_cons];omega
theorem bGm {l:List Pr}:∀ i,dB (l.take i)≤dB l:=fun i=>by
 conv=>rhs;rw[← List.take_append_drop i l]
 unfold dB;rw[List.map_append,List.sum_append];omega
attribute [local irreducible] lrun lwp exThen exBlk keep goodPost ec sg mg pC bC
theorem aDe {L K P:Nat}{d:Int}{ps:List Pr}(hP:P≤16) (C:Pr→List LV) (hC:∀ p,(C p).length=p.dg*2) (hpu:∀ p,∀ c∈C p,aB c=true) (hpv:∀ p,∀ c∈C p,fK c=true) (gp:PGd 29 [.agg [i64 L,i64 K,i64 d]] (.tup [.sl ps.length (pC ps),i64 0])) (gin:PGd 83 [i64 P] (bl true))
  (gs:∀ p∈ps,PGd 26 [i64 K,.agg p.cs,i64 P] (.tup [.sl p.dg (C p),i64 0])) (hdg:∀ p∈ps,1≤p.dg) (hN:dB ps≤200) (hl:ps.length≤200):PGd 31 [.agg [i64 L,i64 K,i64 d],i64 P] (.tup [.sl (dB ps) (bC C ps),i64 0]):=by
 have hpl:=aTv ps;simp only[i64,bl]at*;refine aA aV Tryz.func31 rfl (by decide) (nt:=46) rfl (rs:=[.tmp 4,.tmp 5]) rfl (aW rfl) ?_;refine kK hpl ?_;refine aG (α:={i:Nat // i≤ps.length}) (fun i=>st 46 (lk [(1,.lit (.int .i64 P)),(2,.ptr 0 0),(8,nY 1 (dB (ps.take i.1))),(24,.sl ps.length (pC ps)),(25,.lit (.int .i64 ps.length)),(26,.lit (.int .i64 i.1))]) (cG ((0,⟨67,[.lit (.int .i64 L),.lit (.int .i64 K),.lit (.int .i64 d)],false⟩)::nYB 1 (dB (ps.take i.1)) (bC C (ps.take i.1)))) 2) (fun i=>ps.length-i.1) ⟨0,by omega⟩ ?_ ?_
 ·have e0:dB (ps.take 0)=0:=rfl;simp only[e0,nY,nYB,if_true];exact bT9 hpl [0,99]
 ·rintro⟨i,hi⟩;simp only[st];by_cases hlt:i<ps.length
  ·have htd:=aWz hlt;have g:=gs _ (List.getElem_mem hlt);have g1:=hdg _ (List.getElem_mem hlt);have hc:=hC ps[i];have e1:=aQc hlt;have e2:=aW0 (C:=C) hlt;have e3:=bGm (l:=ps) (i+1);have hb:=aG9 hC (ps.take i)
   have hBp:∀ x∈bC C (ps.take i),aB x=true:=fun x hx=>by
    unfold bC at hx;obtain⟨p,_,h⟩:=List.mem_flatMap.1 hx;exact hpu p x h
   generalize dB (ps.take i)=c at*;generalize bC C (ps.take i)=B at*;generalize hq:C ps[i]=Q at*;generalize ps[i]=p at*;unfold Pr.cs at*;generalize p.dg=n at*;simp only[i64]at htd g;have hqu:=hpu p;have hqv:=hpv p;rw[hq]at hqu hqv
   have hn0:(n=0)=False:=eq_false (by omega);by_cases h0:c=0
   ·have hB:B=[]:=List.eq_nil_of_length_eq_zero (by omega);subst h0;simp only[nY,nYB,if_true]
    (repeat(first|apply zO (by decide+kernel)|apply zP (by decide+kernel)|(apply zS;(case h=>constructor<;>decide))|((first|apply cB rfl|apply aS|apply zT rfl (by decide) rfl);(case hs=>(simp(disch:=first|omega|exact kD rfl|exact kX rfl) only[smY,simprocAttr,bl,i64,smT,smO,smE,hpl,htd,hc,hn0,List.take_zero,List.nil_append,Nat.zero_add];exact rfl));first|refine bZ ?_|refine cA ?_|refine zq ?_|(case hg=>assumption))))
    refine⟨⟨i+1,by omega⟩,?_,by simp only;omega⟩;simp only[e1,e2,hB,Nat.zero_add,if_neg (show¬n=0 by omega),List.nil_append]
    (refine fY [0,21] ?_ ?_ ?_;all_goals(first|(simp only[aB,aI,simprocAttr,bl,i64,smT,smO,smE,hpl];done) |(simp only[aI,simprocAttr,bl,i64,smT,smO,smE,hpl];try((repeat' apply And.intro);all_goals rfl)) |skip))
    all_goals exact⟨⟨rfl,rfl,rfl⟩,hqu⟩
   ·simp only[nY,nYB,if_neg h0];refine kK (nd hpl (nd htd hc)) ?_;refine⟨⟨i+1,by omega⟩,?_,by simp only;omega⟩;simp only[e1,e2,if_neg (show¬c+n=0 by omega)];have htB:B.take (c*2)=B:=List.take_of_length_le (by omega)
    (refine fY [0,21] ?_ ?_ ?_;all_goals(first|(simp only[aB,aI,simprocAttr,bl,i64,smT,smO,smE,hpl];done) |(simp only[aI,simprocAttr,bl,i64,smT,smO,smE,hpl];try((repeat' apply And.intro);all_goals rfl)) |skip))
    all_goals(try simp only[htB])
    all_goals(first |exact⟨trivial,trivial⟩ |exact⟨⟨rfl,rfl,rfl⟩,fun x hx=>(List.mem_append.1 hx).elim (hBp x) (hqu x)⟩ |trace_state)
  ·obtain rfl:i=ps.length:=by omega
   rw[List.take_length];have hpB:=aG9 hC ps;by_cases h0:dB ps=0
   ·have hB:bC C ps=[]:=List.eq_nil_of_length_eq_zero (by omega);simp only[h0,hB,nY,nYB,if_true];refine kK hpl ?_;exact aX4 hpl
   ·have hpu2:∀ c∈bC C ps,fK c=true:=fun c hc=>by
     unfold bC at hc;obtain⟨p,_,h⟩:=List.mem_flatMap.1 hc;exact hpv p c h
    have hpp:=fun(h:Nat→Option Blk) (ok:Nat→Bool) (k:Nat)=>jC (h:=h) (ok:=ok) (k:=k) hpu2
    have htk:(bC C ps).take (dB ps*2)=bC C ps:=List.take_of_length_le (by omega);simp only[nY,nYB,if_neg h0];refine kK (nd hpl (nd hpp htk)) ?_;exact aX4 (nd hpl (nd hpp htk))
end
section
open Go Go.Lg Go.Num
theorem cG9 {P:Program}[Laid P] {na:Nat}{ops:Array Oper}{draw:Bool}{b c:Code}{Φ:Exit→LS→Prop}{s:LS}(h:lwp P na (.seq (.seq (.region 4 ops draw) c) b) Φ s):lwp P na (.seq (.seq (.region 4 ops draw) c) b) Φ s:=h
attribute [local irreducible] lrun lwp exThen exBlk keep goodPost sg mg
theorem aHa {L:Nat}{k d:Int}{r:LV}(gc:PGd 99 [.agg [i64 L,i64 k,i64 d]] (i64 0)) (hd: -60≤d∧d≤60) (h:paT k L d=some r):PGd 29 [.agg [i64 L,i64 k,i64 d]] r:=by
 simp only[i64,bl]at*;refine aA aV Tryz.func29 rfl (by decide) (nt:=108) rfl (rs:=[.tmp 2,.tmp 3]) rfl (aW rfl) ?_
 (repeat((fail_if_success (refine cG9 ?_));first|apply zO (by decide+kernel)|apply zP (by decide+kernel)|(apply zS;(case h=>constructor<;>decide))|((first|apply cB rfl|apply aS|apply zT rfl (by decide) rfl);(case hs=>(simp(disch:=first|omega|exact kD rfl|exact kX rfl) only[smY,simprocAttr,bl,i64,smE];exact rfl));first|refine bZ ?_|refine cA ?_|refine zq ?_|(case hg=>assumption))))
 refine aEu (α:=Unit) (fun _=>st 108 (lk [(1,.ptr 0 0)]) (cG [(0,⟨67,[.lit (.int .i64 (L:Int)),.lit (.int .i64 k),.lit (.int .i64 d)],false⟩)]) 1) ?_ ?_
 ·refine sA ?_;refine⟨(),?_⟩;exact zO2 0
 ·rintro -;unfold paT at h;exact aG0 aV aWn wI lF (by decide+kernel) h
end
end Go.Proofs.YtaidcaemdkncgaaGreatDoor
namespace Go.Num
def ocD (te:Nat→Option Nat) (z:Nat→List Int) (p:Nat→Int) (j:Nat):Nat→Option Rat
 |0=>none
 |D+1=>match te D with
  |none=>ocD te z p j D
  |some e=>if j<(z e).length then some ((ocD te z p j D).getD 0+((p D:Int):Rat)*(((z e).getD j 0:Int):Rat))else ocD te z p j D
theorem aA0 {te:Nat→Option Nat}{z:Nat→List Int}{p:Nat→Int}{D:Nat}(h:te D=none) (j:Nat):ocD te z p j (D+1)=ocD te z p j D:=by
 rw[ocD,h]
theorem kH {te:Nat→Option Nat}{z:Nat→List Int}{p:Nat→Int}{D e:Nat}(h:te D=some e) (j:Nat):ocD te z p j (D+1)=if j<(z e).length then some ((ocD te z p j D).getD 0+((p D:Int):Rat)*(((z e).getD j 0:Int):Rat))else ocD te z p j D:=by
 rw[ocD,h]
def cE (o0:Nat→Option Rat) (te:Nat→Nat→Option Nat) (z:Nat→List Int) (p:Nat→Int) (N D a j l:Nat):Option Rat:=
 if l=0 then o0 j else if l<N then ocD (te l) z p j l else if l=N then ocD (te N) z p j (if j<a then D+1 else D)else none
theorem bMb {o0:Nat→Option Rat}{te:Nat→Nat→Option Nat}{z:Nat→List Int}{p:Nat→Int}{N j l:Nat}(hN:1≤N):cE o0 te z p N N 0 j l=cE o0 te z p (N+1) 0 0 j l:=by
 unfold cE;by_cases h0:l=0
 ·rw[if_pos h0,if_pos h0]
 ·rw[if_neg h0,if_neg h0];by_cases h1:l<N
  ·rw[if_pos h1,if_pos (by omega)]
  ·rw[if_neg h1];by_cases h2:l=N
   ·subst h2;rw[if_pos rfl,if_neg (show¬j<0 by omega),if_pos (show l<l+1 by omega)]
   ·rw[if_neg h2,if_neg (by omega)];split
    ·rw[if_neg (by omega)];rfl
    ·rfl
theorem bMc {o0:Nat→Option Rat}{te:Nat→Nat→Option Nat}{z:Nat→List Int}{p:Nat→Int}{N D j l:Nat}(h:te N D=none):cE o0 te z p N D 0 j l=cE o0 te z p N (D+1) 0 j l:=by
 unfold cE;split
 ·rfl
 ·split
  ·rfl
  ·split
   ·rw[if_neg (by omega),if_neg (by omega),aA0 h]
   ·rfl
theorem bMd {o0:Nat→Option Rat}{te:Nat→Nat→Option Nat}{z:Nat→List Int}{p:Nat→Int}{N D j l e:Nat}(h:te N D=some e):cE o0 te z p N D (z e).length j l=cE o0 te z p N (D+1) 0 j l:=by
 unfold cE;split
 ·rfl
 ·split
  ·rfl
  ·split
   ·rw[if_neg (show¬j<0 by omega)];split
    ·rfl
    ·rename_i h4;rw[kH h,if_neg h4]
   ·rfl
theorem bGn {o0:Nat→Option Rat}{te:Nat→Nat→Option Nat}{z:Nat→List Int}{p:Nat→Int}{N D a j l:Nat}(h:j≠a):cE o0 te z p N D (a+1) j l=cE o0 te z p N D a j l:=by
 unfold cE;split
 ·rfl
 ·split
  ·rfl
  ·split
   ·by_cases c:j<a
    ·rw[if_pos c,if_pos (by omega)]
    ·rw[if_neg c,if_neg (by omega)]
   ·rfl
theorem bMe {o0:Nat→Option Rat}{te:Nat→Nat→Option Nat}{z:Nat→List Int}{p:Nat→Int}{N D a l:Nat}(h:l≠N):cE o0 te z p N D (a+1) a l=cE o0 te z p N D a a l:=by
 unfold cE;split
 ·rfl
 ·split
  ·rfl
  ·simp only[if_neg h]
theorem bWn {o0:Nat→Option Rat}{te:Nat→Nat→Option Nat}{z:Nat→List Int}{p:Nat→Int}{N D a:Nat}(hN:1≤N):cE o0 te z p N D a a N=ocD (te N) z p a D:=by
 unfold cE;rw[if_neg (by omega),if_neg (by omega),if_pos rfl,if_neg (by omega)]
theorem bWo {o0:Nat→Option Rat}{te:Nat→Nat→Option Nat}{z:Nat→List Int}{p:Nat→Int}{N D a e:Nat}(hN:1≤N) (h:te N D=some e) (ha:a<(z e).length):cE o0 te z p N D (a+1) a N=some ((ocD (te N) z p a D).getD 0+((p D:Int):Rat)*(((z e).getD a 0:Int):Rat)):=by
 unfold cE;rw[if_neg (by omega),if_neg (by omega),if_pos rfl,if_pos (by omega),kH h,if_pos ha]
def cL (o0:Nat→Option Rat) (te:Nat→Nat→Option Nat) (z:Nat→List Int) (p:Nat→Int) (P N D a j:Nat):List (Option Rat):=(List.range P).map (cE o0 te z p N D a j)
theorem aTw (o0:Nat→Option Rat) (te:Nat→Nat→Option Nat) (z:Nat→List Int) (p:Nat→Int) (P N D a j:Nat):(cL o0 te z p P N D a j).length=P:=by simp[cL]
theorem bWp {o0:Nat→Option Rat}{te:Nat→Nat→Option Nat}{z:Nat→List Int}{p:Nat→Int}{P N D a j l:Nat}(h:l<P):(cL o0 te z p P N D a j).getD l none=cE o0 te z p N D a j l:=by simp[cL,h]
theorem bWq {o0:Nat→Option Rat}{te:Nat→Nat→Option Nat}{z:Nat→List Int}{p:Nat→Int}{P N D a e:Nat}(hN:1≤N) (h:te N D=some e) (ha:a<(z e).length):(cL o0 te z p P N D a a).set N (some ((ocD (te N) z p a D).getD 0+((p D:Int):Rat)*(((z e).getD a 0:Int):Rat)))=cL o0 te z p P N D (a+1) a:=by
 refine List.ext_getElem (by simp[cL]) (fun i h1 h2=> ?_);rw[List.getElem_set];simp only[cL,List.getElem_map,List.getElem_range];by_cases c:N=i
 ·subst c;rw[if_pos rfl,bWo hN h ha]
 ·rw[if_neg c,bMe (fun x=>c x.symm)]
def o0I (f:Nat→Rat) (i j:Nat):Option Rat:=if j<i then some (f j)else none
theorem aQd {te:Nat→Nat→Option Nat}{z:Nat→List Int}{p:Nat→Int}{P j:Nat}(o0:Nat→Option Rat) (h:o0 j=none):cL o0 te z p P 1 0 0 j=List.replicate P none:=by
 refine List.ext_getElem (by simp[cL]) (fun i h1 h2=> ?_);simp only[cL,List.getElem_map,List.getElem_range,List.getElem_replicate];unfold cE;split
 ·exact h
 ·rw[if_neg (by omega)];split
  ·rw[if_neg (by omega)];rfl
  ·rfl
theorem bN8 {te:Nat→Nat→Option Nat}{z:Nat→List Int}{p:Nat→Int}{P N D a j:Nat}{o0 o1:Nat→Option Rat}(h:o0 j=o1 j):cL o0 te z p P N D a j=cL o1 te z p P N D a j:=by
 unfold cL cE;rw[h]
theorem bGo {te:Nat→Nat→Option Nat}{z:Nat→List Int}{p:Nat→Int}{P i:Nat}(f:Nat→Rat):(cL (o0I f i) te z p P 1 0 0 i).set 0 (some (f i))=cL (o0I f (i+1)) te z p P 1 0 0 i:=by
 refine List.ext_getElem (by simp[cL]) (fun l h1 h2=> ?_);rw[List.getElem_set];simp only[cL,List.getElem_map,List.getElem_range];by_cases c:0=l
 ·subst c;rw[if_pos rfl];unfold cE o0I;rw[if_pos rfl,if_pos (by omega)]
 ·rw[if_neg c];unfold cE;have c':¬l=0:=fun x=>c x.symm
  simp only[if_neg c']
end Go.Num
namespace Go.Proofs.YtaidcaemdkncgaaGreatDoor
section
open Go Go.Lg Go.Num
attribute [local irreducible] lrun lwp exThen exBlk keep goodPost sg mg oc mC bq
theorem qF (p:Int) (hp: -9223372036854775808≤p∧p≤9223372036854775807):PGd 83 [i64 p] (bl (decide (0≤p∧p≤1000))):=by
 by_cases h1:0≤p
 ·by_cases h2:p≤1000
  ·rw[nS ⟨h1,h2⟩];simp only[i64,bl];refine aA aV Tryz.func83 rfl (by decide) (nt:=9) rfl (rs:=[.tmp 2]) rfl (aW rfl) ?_;refine dP ?_;exact lU
  ·rw[nT (fun e=>h2 e.2)];simp only[i64,bl];refine aA aV Tryz.func83 rfl (by decide) (nt:=9) rfl (rs:=[.tmp 2]) rfl (aW rfl) ?_;refine dP ?_;exact lU
 ·rw[nT (fun e=>h1 e.1)];simp only[i64,bl];refine aA aV Tryz.func83 rfl (by decide) (nt:=9) rfl (rs:=[.tmp 2]) rfl (aW rfl) ?_;refine dP ?_;exact lU
end
section
open Go Go.Lg Go.Num
attribute [local irreducible] lrun lwp exThen exBlk keep goodPost sg mg oc op
def aMl (o:Nat→Option Rat) (t n:Nat):Option Rat:=if n % t=0 then o (n / t)else none
def rxE (o:Nat→Option Rat) (t m n:Nat):List LV:=if n<m∧n % t=0 then oqp (o (n / t))else oqc none
def rxC (o:Nat→Option Rat) (t m N:Nat):List LV:=(List.range N).flatMap (rxE o t m)
theorem aW1 (o:Nat→Option Rat) (t m n:Nat):(rxE o t m n).length=4:=by
 unfold rxE;split
 ·exact aAg _
 ·exact aAf _
theorem vQ {f g:Nat→List LV}:∀ {L:List Nat},(∀ n∈L,f n=g n)→L.flatMap f=L.flatMap g
 |[],_=>rfl
 |n::L,h=>by rw[List.flatMap_cons,List.flatMap_cons,h n (by simp),vQ (fun m hm=>h m (by simp[hm]))]
theorem aTx {f:Nat→List LV}(hf:∀ n,(f n).length=4):∀ N,((List.range N).flatMap f).length=N*4
 |0=>rfl
 |N+1=>by rw[List.range_succ,List.flatMap_append,List.length_append,aTx hf N];simp[hf];omega
theorem aQe {f g:Nat→List LV}(hf:∀ n,(f n).length=4) {j:Nat}(hg:∀ n,n≠j→g n=f n):∀ N,j<N→((List.range N).flatMap f).take (j*4)++g j++((List.range N).flatMap f).drop (j*4+4)=(List.range N).flatMap g
 |0,h=>by omega
 |N+1,h=>by
  have hl:=aTx hf N;have ef:(List.range (N+1)).flatMap f=(List.range N).flatMap f++f N:=by rw[List.range_succ,List.flatMap_append];simp
  have eg:(List.range (N+1)).flatMap g=(List.range N).flatMap g++g N:=by rw[List.range_succ,List.flatMap_append];simp
  rw[ef,eg];by_cases e:j=N
  · subst e
    have h1:(List.range j).flatMap g=(List.range j).flatMap f:=by
      refine vQ (fun n hn=>hg n ?_);have:=List.mem_range.1 hn;omega
    rw[h1,← hl,List.take_left,show((List.range j).flatMap f).length+4=((List.range j).flatMap f++f j).length by rw[List.length_append,hf],List.drop_length,List.append_nil]
  · have ih:=aQe hf hg N (by omega);rw[List.take_append_of_le_length (by omega),List.drop_append_of_le_length (by omega),← ih,hg N (fun x=>e x.symm)];simp
theorem aW2 (o:Nat→Option Rat) (t m N:Nat):(rxC o t m N).length=N*4:=aTx (aW1 o t m) N
theorem bGq (o:Nat→Option Rat) (t N:Nat):rxC o t 0 N=oc (List.replicate N none):=by
 unfold rxC oc
 induction N with
 |zero=>rfl
 |succ N ih=>
  rw[List.range_succ,List.flatMap_append,ih,List.replicate_succ',List.flatMap_append];rfl
theorem bGr {o:Nat→Option Rat}{t m:Nat}(h:¬m % t=0) (N:Nat):rxC o t (m+1) N=rxC o t m N:=by
 unfold rxC;refine vQ (fun n _=> ?_);unfold rxE;by_cases c:n % t=0
 ·have:n≠m:=fun e=>h (e ▸ c)
  by_cases d:n<m
  ·rw[if_pos ⟨by omega,c⟩,if_pos ⟨d,c⟩]
  ·rw[if_neg (fun x=>d (by omega)),if_neg (fun x=>d x.1)]
 ·rw[if_neg (fun x=>c x.2),if_neg (fun x=>c x.2)]
theorem bMf {o:Nat→Option Rat}{t m N:Nat}(h:m % t=0) (hm:m<N):(rxC o t m N).take (m*4)++oqp (o (m / t))++(rxC o t m N).drop (m*4+4)=rxC o t (m+1) N:=by
 have e:oqp (o (m / t))=rxE o t (m+1) m:=by
  unfold rxE;rw[if_pos ⟨by omega,h⟩]
 rw[e];refine aQe (aW1 o t m) (fun n hn=> ?_) N hm;unfold rxE;by_cases c:n % t=0
 ·by_cases d:n<m
  ·rw[if_pos ⟨by omega,c⟩,if_pos ⟨d,c⟩]
  ·rw[if_neg (fun x=>d (by omega)),if_neg (fun x=>d x.1)]
 ·rw[if_neg (fun x=>c x.2),if_neg (fun x=>c x.2)]
theorem bMg {h:Nat→Option Blk}{ok:Nat→Bool}{k:Nat}(o:Option Rat) {b rb:List LV}(hb:fM h ok (k+1) b=some (rb,[])):fM h ok (k+1) (oqp o++b)=some (oqp o++rb,[]):=by
 cases o with
 |none=>
  rw[oqp_none];simp only[List.cons_append,List.nil_append,jU,hb,zG,Option.bind_some,Option.map_some]
  rfl
 |some q=>
  rw[oqp_some];simp only[List.cons_append,List.nil_append,jU,hb,rZ (sQ _),rZ (sR _),Option.bind_some,Option.map_some]
theorem bMh {h:Nat→Option Blk}{ok:Nat→Bool}{k:Nat}{b rb:List LV}(hb:fM h ok (k+1) b=some (rb,[])):fM h ok (k+1) (oqc none++b)=some (oqp none++rb,[]):=by
 rw[aF9,oqp_none];simp only[List.cons_append,List.nil_append,jU,hb,zG,aKi,Option.bind_some,Option.map_some]
theorem aW3 {h:Nat→Option Blk}{ok:Nat→Bool}{k:Nat}(o:Nat→Option Rat) (t m:Nat):∀ L:List Nat,fM h ok (k+1) (L.flatMap (rxE o t m))=some (L.flatMap (fun n=>oqp (if n<m∧n % t=0 then o (n / t)else none)),[])
 |[]=>rfl
 |n::L=>by
  have ih:=aW3 (h:=h) (ok:=ok) (k:=k) o t m L;rw[List.flatMap_cons,List.flatMap_cons];by_cases c:n<m∧n % t=0
  · have e:rxE o t m n=oqp (o (n / t)):=if_pos c;rw[e,if_pos c];exact bMg _ ih
  · have e:rxE o t m n=oqc none:=if_neg c;rw[e,if_neg c];exact bMh ih
theorem bWr {h:Nat→Option Blk}{ok:Nat→Bool}{k:Nat}(o:Nat→Option Rat) (t N:Nat):fM h ok (k+1) (rxC o t N N)=some (op (oP (aMl o t) N),[]):=by
 unfold rxC;rw[aW3];congr 2;unfold op oP;rw[List.flatMap_map];refine vQ (fun n hn=> ?_);have:=List.mem_range.1 hn;unfold aMl;by_cases c:n % t=0
 ·rw[if_pos ⟨this,c⟩,if_pos c]
 ·rw[if_neg (fun x=>c x.2),if_neg c]
theorem bAe (o:Option Rat):∀ c∈oqp o,aB c=true:=by
 cases o with
 |none=>intro c hc;simp[oqp]at hc;rcases hc with rfl |rfl |rfl |rfl <;>rfl
 |some q=>
  rw[oqp_some];intro c hc;simp only[List.mem_cons,List.not_mem_nil,or_false]at hc;rcases hc with rfl |rfl |rfl |rfl
  · exact s9 _
  · exact s10 _
  · exact s9 _
  · exact s10 _
theorem aJ3 (o:Nat→Option Rat) (t m N:Nat):∀ c∈rxC o t m N,aB c=true:=by
 intro c hc;simp only[rxC,List.mem_flatMap]at hc;obtain⟨n,_,h⟩:=hc;unfold rxE at h;split at h
 ·exact bAe _ c h
 ·exact aJg none c h
theorem ren_rx {nb:Nat}{ρ:Nat→Nat}(o:Nat→Option Rat) (t m N:Nat):renLs nb ρ (rxC o t m N)=some (rxC o t m N):=cM (aJ3 o t m N)
theorem rx_plainT (o:Nat→Option Rat) (t m N:Nat):(∀ c∈rxC o t m N,aB c=true)=True:=eq_true (aJ3 o t m N)
theorem rx_take {o:Nat→Option Rat}{t m N:Nat}:(rxC o t m N).take (N*4)=rxC o t m N:=List.take_of_length_le (by rw[aW2];exact Nat.le_refl _)
attribute [local irreducible] rxC
theorem aDf (o:Nat→Option Rat) (N t:Nat) (hN:N≤1000) (ht1:1≤t) (ht:t≤1000):PGd 90 [.sl N (op (oP o N)),i64 t,bl false] (.sl N (op (oP (aMl o t) N))):=by
 have hl:=op_len (oP o N);rw[mL]at hl
 have hl2:∀ m,(rxC o t m N).length=N*4:=fun m=>aW2 _ _ _ _
 have hpv:=fun(h:Nat→Option Blk) (ok:Nat→Bool) (k:Nat)=>bWr (h:=h) (ok:=ok) (k:=k) o t N
 simp only[i64,bl]at*;refine aA aV Tryz.func90 rfl (by decide) (nt:=48) rfl (rs:=[.tmp 6]) rfl (aW rfl) ?_;refine bIu (nd hl hl2) ?_;refine aG (α:={n:Nat // n≤N}) (fun n=>st 48 (lk [(0,.sl N (op (oP o N))),(1,i64 t),(2,bl false),(7,.own 0 0 N 4),(13,i64 N),(14,i64 n.1)]) (cG [(0,⟨47,rxC o t n.1 N,false⟩)]) 1) (fun n=>N-n.1) ⟨0,by omega⟩ ?_ ?_
 ·simp only[bGq]
  (refine Sub.heap1 3 ?_ (by simp only[aI,simprocAttr,bl,i64,smT,smO,hl,hl2,@rx_take,rx_plainT,@ren_rx];exact rfl) ?_ ?_;all_goals(first |exact aE _ |with_reducible rfl |(simp only[aI,simprocAttr,bl,i64,smT,smO,hl,hl2,@rx_take,rx_plainT,@ren_rx])|skip))
  all_goals(first |done |(rw[rH]) |trace_state)
 ·rintro⟨n,hn⟩;simp only[st];by_cases hlt:n<N
  ·have hq:n / t≤n:=Nat.div_le_self _ _;have e1:=op_td (l:=oP o N) (s:=n / t) (by rw[mL];omega);rw[aMg (show n / t<N by omega)]at e1
   by_cases hd:n % t=0
   ·have hos:=bMf (o:=o) hd hlt;have hol:=aAg (o (n / t))
    cases ho:o (n / t)with
    |none=>
     rw[ho,oqp_none]at e1 hos
     generalize hqv:n / t=q at*;refine bIu (nd hl (nd hl2 (nd e1 hqv))) ?_;refine⟨⟨n+1,by omega⟩,?_,by simp only;omega⟩
     (refine Sub.heap1 0 ?_ (by simp only[aI,simprocAttr,bl,i64,smT,smO,hl,hl2,@rx_take,rx_plainT,@ren_rx];exact rfl) ?_ ?_;all_goals(first |exact aE _ |with_reducible rfl |(simp only[aI,simprocAttr,bl,i64,smT,smO,hl,hl2,@rx_take,rx_plainT,@ren_rx])|skip))
     all_goals(first |done |exact hos |trace_state)
    |some av=>
     rw[ho,oqp_some]at e1 hos
     generalize hqv:n / t=q at*;refine bIu (nd hl (nd hl2 (nd e1 hqv))) ?_;refine⟨⟨n+1,by omega⟩,?_,by simp only;omega⟩
     (refine Sub.heap1 0 ?_ (by simp only[aI,simprocAttr,bl,i64,smT,smO,hl,hl2,@rx_take,rx_plainT,@ren_rx];exact rfl) ?_ ?_;all_goals(first |exact aE _ |with_reducible rfl |(simp only[aI,simprocAttr,bl,i64,smT,smO,hl,hl2,@rx_take,rx_plainT,@ren_rx])|skip))
     all_goals(first |done |exact hos |trace_state)
   ·have hs:=bGr (o:=o) hd N;refine bIu (nd hl hl2) ?_;refine⟨⟨n+1,by omega⟩,?_,by simp only;omega⟩;simp only[hs]
    (refine Sub.heap1 0 ?_ (by simp only[aI,simprocAttr,bl,i64,smT,smO,hl,hl2,@rx_take,rx_plainT,@ren_rx];exact rfl) ?_ ?_;all_goals(first |exact aE _ |with_reducible rfl |(simp only[aI,simprocAttr,bl,i64,smT,smO,hl,hl2,@rx_take,rx_plainT,@ren_rx])|skip))
    all_goals(first |done |trace_state)
  ·obtain rfl:n=N:=by omega
   (repeat(first|apply zO (by decide+kernel)|apply zP (by decide+kernel)|(apply zS;(case h=>constructor<;>decide))|((first|apply cB rfl|apply aS|apply zT rfl (by decide) rfl);(case hs=>(simp(disch:=first|omega|exact kD rfl|exact kX rfl) only[smY,simprocAttr,bl,i64,smT,smO,hl,hl2,@rx_take,hpv];exact rfl));first|refine bZ ?_|refine cA ?_|refine zq ?_|(case hg=>assumption))))
   ((first|apply dI|apply dK);case hres=>(simp only[gW];simp(disch:=first|omega|exact kD rfl|exact kX rfl) only[smY,simprocAttr,bl,i64,smT,smO,hl,hl2,@rx_take,hpv];exact rfl))
   simp(disch:=first|omega|exact kD rfl|exact kX rfl) only[smY,simprocAttr,bl,i64,smT,smO,hl,hl2,@rx_take,hpv]
end
section
open Go Go.Lg Go.Num
attribute [local irreducible] lrun lwp exThen exBlk keep goodPost mutPost
end
section
open Go Go.Lg Go.Num
attribute [local irreducible] lrun lwp exThen exBlk keep goodPost sg mg oc mC bq
theorem bAf (d k:Nat) (hd1:1≤d) (hd:d≤1000) (hk:k≤40):PGd 88 [i64 d,i64 k] (aO ((d:Int)^k)):=by
 have g1:=jW (d:Int) (by omega);have hb:=jM d;have hdl:(aC d).length≤1:=bV (k:=1) (by omega)
 have g2:=uR (d:Int) k (Nat.le_trans (bH (e:=1) (by omega)) (by omega)) (by
  rw[Int.natAbs_natCast];by_cases h:aK d≤1
  ·exact .inl h
  ·refine .inr ((Nat.le_div_iff_mul_le (by omega)).2 ?_);have:k*aK d≤40*32:=Nat.mul_le_mul hk (by omega)
   omega) (by omega)
 generalize (d:Int)^k=p at*;simp only[aY,i64]at*;refine aA aV Tryz.func88 rfl (by decide) (nt:=15) rfl (rs:=[.cell 4 45]) rfl (aW rfl) ?_;refine zA4 ?_;exact zQ5
end
section
open Go Go.Lg Go.Num
theorem aEe {te:Nat→Option Nat}{k m n j:Nat}(hj:j<n):∀ D,(ocD te (zI m) (kM k) j D).getD 0=(wV te k m n D).getD j 0
 |0=>by simp[ocD,wV,List.getD,hj]
 |D+1=>by
  have ih:=aEe (te:=te) (k:=k) (m:=m) hj D;unfold wV
  cases h:te D with
  |none=>rw[aA0 h];exact ih
  |some e=>
   simp only;rw[kH h,fC (by rw[tB,iO]),oW hj,← ih];by_cases c:j<(zI m e).length
   · rw[if_pos c];rfl
   · rw[if_neg c];have:(zI m e).getD j 0=0:=by simp[List.getD,Nat.le_of_not_lt c]
     rw[this,Rat.intCast_zero,Rat.mul_zero,Rat.add_zero]
theorem aMm {ix1 ix2:Nat→Option Nat}{m o1 o2 l D x:Nat}(hdv:l % (D+1)=0) (hx:l / (D+1)=x+1):(ix1 x=none→rR ix1 ix2 m o1 o2 l D=none)∧(ix2 D=none→rR ix1 ix2 m o1 o2 l D=none)∧∀ i j,ix1 x=some i→ix2 D=some j→rR ix1 ix2 m o1 o2 l D=some ((i*(m / o1)+j*(m / o2)) % m):=by
 have e:rR ix1 ix2 m o1 o2 l D=(match ix1 x,ix2 D with
  |some i,some j=>some ((i*(m / o1)+j*(m / o2)) % m)
  |_,_=>none):=by
  unfold rR;rw[if_pos hdv,hx,Nat.add_sub_cancel]
  cases ix1 x <;>cases ix2 D <;>rfl
 rw[e];refine⟨fun h=>by rw[h],fun h=> ?_,fun i j h h'=>by rw[h,h']⟩;rw[h]
 cases ix1 x <;>rfl
def kI (n P i:Nat):List LV:=(List.range n).map fun j=>if j<i then .own (j+4) 0 P 4 else nilL
theorem aMn (n P i:Nat):(kI n P i).length=n:=by simp[kI]
theorem aTy {n P i a:Nat}(h:a<n) (hi:a<i):((kI n P i).drop a).head? =some (.own (a+4) 0 P 4):=by simp[kI,h,hi]
theorem bMi {n P i:Nat}(h:i<n):((kI n P i).drop i).head? =some nilL:=by simp[kI,h]
theorem bMj (n P:Nat):kI n P 0=List.replicate n nilL:=by
 unfold kI
 have:(fun j=>if j<0 then LV.own (j+4) 0 P 4 else nilL)=fun _=>nilL:=by
  funext j
  rw[if_neg (by omega)]
 rw[this,List.map_const',List.length_range]
theorem cHa (ρ:List Nat) (τ:Nat→Nat) (j:Nat):kL ρ 4 τ (j+4)=τ j:=by
 rw[lQ,if_pos (by omega),Nat.add_sub_cancel]
theorem oZ (ρ:List Nat) (τ:Nat→Nat) {b:Nat}(h:b<4):kL ρ 4 τ b=ρ.getD b 0:=by
 rw[lQ,if_neg (by omega)]
theorem bAg {nb b off n sz:Nat}{ρ:Nat→Nat}(h:b<nb):renL nb ρ (.own b off n sz)=some (.own (ρ b) off n sz):=by
 rw[renL,if_pos h]
theorem bGs {n P i M:Nat}{ρ:List Nat}{τ:Nat→Nat}(hM:∀ j,j<i→j<n→j<M):renLs (M+4) (kL ρ 4 τ) (kI n P i)=some ((List.range n).map fun j=>if j<i then .own (τ j) 0 P 4 else nilL):=by
 unfold kI;refine rS (fun j hj=> ?_);have hj:=List.mem_range.1 hj;by_cases c:j<i
 ·have:=hM j c hj;rw[if_pos c,if_pos c,bAg (by omega),cHa]
 ·rw[if_neg c,if_neg c];rfl
theorem bWs {f:Nat→LV}{h:Nat→Option Blk}{nb nt M c y x:Nat}{L:List (Nat×LV)}{b0:Blk}{ty:TypeId}{C C':List LV}{g:Nat→Blk}{τ:Nat→Nat}{E:List (Nat×Blk)}(F0:h 0=some b0) (p0:∀ c∈b0.cells,aB c=true) (F1:h c=some ⟨ty,C',false⟩) (hC:renLs (M+4) (kL [0,c,y,x] 4 τ) C=some C') (FI:∀ j,j<M→h (τ j)=some (g j)) (gp:∀ j,j<M→∀ c∈(g j).cells,aB c=true)
  (hE:∀ p∈E,(p.1=2∨p.1=3)∧h ([0,c,y,x].getD p.1 0)=some p.2∧∀ c∈p.2.cells,aB c=true) (hyx:0<c∧0<y∧0<x∧y≠x∧c≠y∧c≠x) (hτ:∀ i j,i<M→j<M→τ i=τ j→i=j) (hτ1:∀ j,j<M→0<τ j∧c≠τ j∧y≠τ j∧x≠τ j)
  (hf:∀ p∈L,renL (M+4) (kL [0,c,y,x] 4 τ) p.2=some (f p.1)):Sub 0 ⟨nt,f,h,nb⟩ ⟨nt,lk L,eE ((0,b0)::(1,⟨ty,C,false⟩)::E) 4 M g,M+4⟩:=by
 refine Sub.fam [0,c,y,x] τ rfl rfl ?_ hf ?_ ?_ FI gp hτ (fun j hj b hb=> ?_)
 ·simp;omega
 ·intro p hp;simp only[List.mem_cons]at hp;rcases hp with rfl |rfl |hp
  ·simp
  ·simp
  ·rcases(hE p hp).1 with h |h <;>simp[h]
 ·intro p hp;simp only[List.mem_cons]at hp;rcases hp with rfl |rfl |hp
  ·exact⟨_,F0,cM p0⟩
  ·exact⟨_,F1,hC⟩
  ·exact⟨_,(hE p hp).2.1,cM (hE p hp).2.2⟩
 ·have:=hτ1 j hj;simp only[List.mem_cons,List.not_mem_nil,or_false]at hb;omega
theorem aQf {n P i new:Nat}{ρ:List Nat}{τ:Nat→Nat}(hi:i<n) (h1:∀ j,j<i→τ j=j+4) (h2:τ i=new):renLs (i+1+4) (kL ρ 4 τ) (kI n P (i+1))=some ((kI n P i).set i (.own new 0 P 4)):=by
 rw[bGs (M:=i+1) (fun j h _=>h)];congr 1;unfold kI;rw[xL _ _ hi];refine List.map_congr_left (fun j _=> ?_);by_cases e:j=i
 ·subst e;rw[if_pos (by omega),if_pos rfl,h2]
 ·rw[if_neg e];by_cases c:j<i
  ·rw[if_pos (by omega),if_pos c,h1 j c]
  ·rw[if_neg (by omega),if_neg c]
theorem bAh {n P:Nat}{ρ:List Nat}:renLs (n+4) (kL ρ 4 fun j=>j+4) (kI n P n)=some (kI n P n):=by
 rw[bGs (M:=n) (fun j h _=>h)];rfl
theorem aW4 {f:Nat→LV}{h:Nat→Option Blk}{nb nt n P y x:Nat}{L:List (Nat×LV)}{b0:Blk}{ty:TypeId}{g:Nat→Blk}{E:List (Nat×Blk)}(F0:h 0=some b0) (p0:∀ c∈b0.cells,aB c=true) (F1:h 1=some ⟨ty,kI n P n,false⟩) (FI:∀ j,j<n→h (j+4)=some (g j)) (gp:∀ j,j<n→∀ c∈(g j).cells,aB c=true)
  (hE:∀ p∈E,(p.1=2∨p.1=3)∧h ([0,1,y,x].getD p.1 0)=some p.2∧∀ c∈p.2.cells,aB c=true) (hyx:1<y∧1<x∧y≠x∧(y<4∨n+4≤y)∧(x<4∨n+4≤x))
  (hf:∀ p∈L,renL (n+4) (kL [0,1,y,x] 4 fun j=>j+4) p.2=some (f p.1)):Sub 0 ⟨nt,f,h,nb⟩ ⟨nt,lk L,eE ((0,b0)::(1,⟨ty,kI n P n,false⟩)::E) 4 n g,n+4⟩:=
 bWs (c:=1) (τ:=fun j=>j+4) F0 p0 F1 bAh FI gp hE (by omega) (fun i j _ _ e=>by omega) (fun j hj=>by omega) hf
def zc (m i:Nat):List LV:=(List.range m).map fun e=>if e<i then .sl (zI m e).length (qc (rz (zI m e)))else nilL
theorem bGt (m i:Nat):(zc m i).length=m:=by simp[zc]
theorem aW5 (m:Nat):zc m 0=List.replicate m nilL:=by
 unfold zc
 have:(fun e=>if e<0 then LV.sl (zI m e).length (qc (rz (zI m e)))else nilL)=fun _=>nilL:=by
  funext j
  rw[if_neg (by omega)]
 rw[this,List.map_const',List.length_range]
theorem bWt {m i:Nat}(h:i<m):(zc m i).set i (.sl (zI m i).length (qc (rz (zI m i))))=zc m (i+1):=by
 unfold zc;refine List.ext_getElem (by simp) (fun j h1 h2=> ?_);rw[List.getElem_set];simp only[List.getElem_map,List.getElem_range];by_cases e:i=j
 ·subst e;rw[if_pos rfl,if_pos (by omega)]
 ·rw[if_neg e];by_cases c:j<i
  ·rw[if_pos c,if_pos (by omega)]
  ·rw[if_neg c,if_neg (by omega)]
theorem bWu {m e:Nat}(h:e<m):((zc m m).drop e).head? =some (.sl (zI m e).length (qc (rz (zI m e)))):=by simp[zc,h]
theorem aHc (m i:Nat):∀ c∈zc m i,aB c=true:=by
 intro c hc;simp only[zc,List.mem_map]at hc;obtain⟨e,_,rfl⟩:=hc;split <;>rfl
def gO (l:Nat→List (Option Rat)) (j:Nat):Blk:=⟨47,oc (l j),false⟩
theorem aHd (l:Nat→List (Option Rat)) (j:Nat):∀ c∈(gO l j).cells,aB c=true:=rI _
theorem aQg {o0:Nat→Option Rat}{te:Nat→Nat→Option Nat}{z:Nat→List Int}{p:Nat→Int}{P N D a j:Nat}(h:j≠a):cL o0 te z p P N D (a+1) j=cL o0 te z p P N D a j:=List.map_congr_left (fun l _=>bGn h)
theorem bMk {o0:Nat→Option Rat}{te:Nat→Nat→Option Nat}{z:Nat→List Int}{p:Nat→Int}{P N j:Nat}(hN:1≤N):cL o0 te z p P N N 0 j=cL o0 te z p P (N+1) 0 0 j:=List.map_congr_left (fun l _=>bMb hN)
theorem aEf {o0:Nat→Option Rat}{te:Nat→Nat→Option Nat}{z:Nat→List Int}{p:Nat→Int}{P N D j:Nat}(h:te N D=none):cL o0 te z p P N D 0 j=cL o0 te z p P N (D+1) 0 j:=List.map_congr_left (fun l _=>bMc h)
theorem bMl {o0:Nat→Option Rat}{te:Nat→Nat→Option Nat}{z:Nat→List Int}{p:Nat→Int}{P N D j e:Nat}(h:te N D=some e):cL o0 te z p P N D (z e).length j=cL o0 te z p P N (D+1) 0 j:=List.map_congr_left (fun l _=>bMd h)
def gOz (l:Nat→List (Option Rat)) (i j:Nat):Blk:=⟨47,oc (l j),decide (j<i)⟩
theorem aJ4 (l:Nat→List (Option Rat)) (i j:Nat):∀ c∈(gOz l i j).cells,aB c=true:=rI _
theorem mB {ops:Array Oper}{base i k:Nat}(h:okD ops 0 i k=true):okD ops base i (base+k)=true:=by
 unfold okD at*;rw[Nat.add_sub_cancel_left];simp only[Nat.not_lt_zero,decide_false,Bool.false_or,Nat.sub_zero]at h;rw[h,Bool.or_true]
theorem bWv {P:Program}[Laid P] {na:Nat}{ops:Array Oper}{draw:Bool}{b c:Code}{Φ:Exit→LS→Prop}{s:LS}(h:lwp P na (.seq (.seq (.region 23 ops draw) c) b) Φ s):lwp P na (.seq (.seq (.region 23 ops draw) c) b) Φ s:=h
end
section
open Go Go.Lg Go.Num
attribute [local irreducible] lrun lwp exThen exBlk keep goodPost sg mg oc op ec qP cI fJ sC cK
def eS (e:Int):LV:= .tup [.sl 0 [],.lit (.int .i64 e)]
end
section
open Go Go.Lg Go.Num
attribute [local irreducible] lrun lwp exThen exBlk keep goodPost ec pt gn od rE sg mg
def cpE (k T:Int) (n1 c1 n2 c2:Nat) (b1 b2:Bool):Int:=if c1≠n1∨c2≠n2 then 3 else if(b1==b2)=decide (k % 2=0)then(if T<1∨1000<T then 2 else if k=2∧n1=1∧n2=1∧T=1 then 20 else 0)else 16
theorem aHe {n1 o1 c1 n2 o2 c2:Nat}{v1 v2:List Int}{b1 b2:Bool}{ix1 ix2:Nat→Option Nat}{k T:Int}(h1:SeD n1 v1 o1 c1 b1 ix1) (h2:SeD n2 v2 o2 c2 b2 ix2) (hk:2≤k∧k≤40):PGd 81 [i64 k,.agg [i64 n1,.sl v1.length (ec v1),i64 n2,.sl v2.length (ec v2),i64 T]] (i64 (cpE k T n1 c1 n2 c2 b1 b2)):=by
 have gk1:=h1.chP;have gk2:=h2.chP;have gc1:=h1.coP;have gc2:=h2.coP;have ge1:=h1.evP;have ge2:=h2.evP;have hn1:=h1.n2;have hn2:=h2.n2;have hc1:=h1.c2;have hc2:=h2.c2;clear h1 h2;generalize ec v1=x1 at*;generalize ec v2=x2 at*;generalize v1.length=w1 at*;generalize v2.length=w2 at*;obtain⟨r,hr⟩:∃ r,r=cpE k T n1 c1 n2 c2 b1 b2:=⟨_,rfl⟩;rw[← hr];unfold cpE at hr;simp only[i64,bl]at*;refine aA aV Tryz.func81 rfl (by decide) (nt:=102) rfl (rs:=[.tmp 4]) rfl (aW rfl) ?_;refine zA7 ?_;refine aG (α:={i:Nat // i≤2∧(1≤i→c1=n1)∧(2≤i→c2=n2)}) (fun i=>st 102 (lk [(0,.lit (.int .i64 k)),(3,.ptr 0 0),(37,.own 1 0 2 2),(38,.lit (.int .i64 2)),(39,.lit (.int .i64 i.1))]) (cG [(0,⟨58,[.lit (.int .i64 n1),.sl w1 x1,.lit (.int .i64 n2),.sl w2 x2,.lit (.int .i64 T)],false⟩),(1,⟨25,[.lit (.int .i64 n1),.sl w1 x1,.lit (.int .i64 n2),.sl w2 x2],false⟩)]) 2) (fun i=>2-i.1) ⟨0,by omega,by omega,by omega⟩ ?_ ?_
 ·(refine fY [0,24] ?_ ?_ ?_;all_goals(first|(simp only[aB,aI,simprocAttr,bl,i64,smE,bP,undef];done) |(simp only[aI,simprocAttr,bl,i64,smE,bP,undef];try((repeat' apply And.intro);all_goals rfl)) |skip))
  all_goals(first |done |exact⟨trivial,rfl⟩ |((repeat' apply And.intro);all_goals(first |trivial |rfl)))
 ·rintro⟨i,hi,hA,hB⟩;simp only[st];have hi3:i=0∨i=1∨i=2:=by omega
  rcases hi3 with rfl |rfl |rfl
  ·by_cases hc:(c1:Int)=n1
   ·
    skip
    refine zA7 ?_;refine⟨⟨1,by omega,fun _=>by omega,by omega⟩,?_,by simp only;omega⟩
    (refine fY [0,1] ?_ ?_ ?_;all_goals(first|(simp only[aB,aI,simprocAttr,bl,i64,smE,bP,undef];done) |(simp only[aI,simprocAttr,bl,i64,smE,bP,undef];try((repeat' apply And.intro);all_goals rfl)) |skip))
    all_goals(first |done |trace_state)
   ·have hr:r=3:=by rw[hr,if_pos (.inl (by omega))]
    subst hr;refine aBg hc ?_;exact aHr hc
  ·by_cases hc:(c2:Int)=n2
   ·have hA:=hA (by omega);refine aBg hc ?_;refine⟨⟨2,by omega,fun _=>hA,fun _=>by omega⟩,?_,by simp only;omega⟩
    (refine fY [0,1] ?_ ?_ ?_;all_goals(first|(simp only[aB,aI,simprocAttr,bl,i64,smE,bP,undef,hc];done) |(simp only[aI,simprocAttr,bl,i64,smE,bP,undef,hc];try((repeat' apply And.intro);all_goals rfl)) |skip))
    all_goals(first |done |trace_state)
   ·have hr:r=3:=by rw[hr,if_pos (.inr (by omega))]
    subst hr;refine aBg hc ?_;exact aHr hc
  ·have hA:=hA (by omega);have hB:=hB (by omega);rw[if_neg (by omega)]at hr
   have hkz:(k % 2==0)=decide (k % 2=0):=by
    by_cases h:k % 2=0
    ·rw[beq_iff_eq.2 h,decide_eq_true h]
    ·rw[beq_eq_false_iff_ne.2 h,decide_eq_false h]
   by_cases hp:(b1==b2)=decide (k % 2=0)
   ·rw[if_pos hp]at hr
    have hx:((b1==b2) !=(k % 2==0))=false:=by rw[hkz,hp,bne_self_eq_false]
    by_cases hT:T<1∨1000<T
    ·rw[if_pos hT]at hr
     subst hr;rcases hT with hT |hT
     ·skip
      refine aBg hx ?_;exact aHr hx
     ·skip
      refine aBg hx ?_;exact aHr hx
    ·rw[if_neg hT]at hr
     by_cases e1:k=2
     ·have hbt:(b1==b2)=true:=by rw[hp,e1];rfl
      by_cases e2:(n1:Int)=1
      ·rw[e2]at ge1
       by_cases e3:(n2:Int)=1
       ·rw[e3]at ge2
        by_cases e4:T=1
        ·rw[if_pos ⟨e1,by omega,by omega,e4⟩]at hr
         subst hr
         (repeat(first|apply zO (by decide+kernel)|apply zP (by decide+kernel)|(apply zS;(case h=>constructor<;>decide))|((first|apply cB rfl|apply aS|apply zT rfl (by decide) rfl);(case hs=>(simp(disch:=first|omega|exact kD rfl|exact kX rfl) only[smY,simprocAttr,bl,i64,smE,bP,undef,hbt,e1,e2,e3,e4];exact rfl));first|refine bZ ?_|refine cA ?_|refine zq ?_|(case hg=>assumption))))
         ((first|apply dI|apply dK);case hres=>(simp only[gW];simp(disch:=first|omega|exact kD rfl|exact kX rfl) only[smY,simprocAttr,bl,i64,smE,bP,undef,hbt,e1,e2,e3,e4];exact rfl))
         simp(disch:=first|omega|exact kD rfl|exact kX rfl) only[smY,simprocAttr,bl,i64,smE,bP,undef,hbt,e1,e2,e3,e4]
        ·rw[if_neg (by omega)]at hr
         subst hr
         (repeat(first|apply zO (by decide+kernel)|apply zP (by decide+kernel)|(apply zS;(case h=>constructor<;>decide))|((first|apply cB rfl|apply aS|apply zT rfl (by decide) rfl);(case hs=>(simp(disch:=first|omega|exact kD rfl|exact kX rfl) only[smY,simprocAttr,bl,i64,smE,bP,undef,hbt,e1,e2,e3,e4];exact rfl));first|refine bZ ?_|refine cA ?_|refine zq ?_|(case hg=>assumption))))
         ((first|apply dI|apply dK);case hres=>(simp only[gW];simp(disch:=first|omega|exact kD rfl|exact kX rfl) only[smY,simprocAttr,bl,i64,smE,bP,undef,hbt,e1,e2,e3,e4];exact rfl))
         simp(disch:=first|omega|exact kD rfl|exact kX rfl) only[smY,simprocAttr,bl,i64,smE,bP,undef,hbt,e1,e2,e3,e4]
       ·rw[if_neg (by omega)]at hr
        subst hr
        (repeat(first|apply zO (by decide+kernel)|apply zP (by decide+kernel)|(apply zS;(case h=>constructor<;>decide))|((first|apply cB rfl|apply aS|apply zT rfl (by decide) rfl);(case hs=>(simp(disch:=first|omega|exact kD rfl|exact kX rfl) only[smY,simprocAttr,bl,i64,smE,bP,undef,hbt,e1,e2,e3];exact rfl));first|refine bZ ?_|refine cA ?_|refine zq ?_|(case hg=>assumption))))
        ((first|apply dI|apply dK);case hres=>(simp only[gW];simp(disch:=first|omega|exact kD rfl|exact kX rfl) only[smY,simprocAttr,bl,i64,smE,bP,undef,hbt,e1,e2,e3];exact rfl))
        simp(disch:=first|omega|exact kD rfl|exact kX rfl) only[smY,simprocAttr,bl,i64,smE,bP,undef,hbt,e1,e2,e3]
      ·rw[if_neg (by omega)]at hr
       subst hr
       (repeat(first|apply zO (by decide+kernel)|apply zP (by decide+kernel)|(apply zS;(case h=>constructor<;>decide))|((first|apply cB rfl|apply aS|apply zT rfl (by decide) rfl);(case hs=>(simp(disch:=first|omega|exact kD rfl|exact kX rfl) only[smY,simprocAttr,bl,i64,smE,bP,undef,hbt,e1,e2];exact rfl));first|refine bZ ?_|refine cA ?_|refine zq ?_|(case hg=>assumption))))
       ((first|apply dI|apply dK);case hres=>(simp only[gW];simp(disch:=first|omega|exact kD rfl|exact kX rfl) only[smY,simprocAttr,bl,i64,smE,bP,undef,hbt,e1,e2];exact rfl))
       simp(disch:=first|omega|exact kD rfl|exact kX rfl) only[smY,simprocAttr,bl,i64,smE,bP,undef,hbt,e1,e2]
     ·rw[if_neg (by omega)]at hr
      subst hr
      (repeat(first|apply zO (by decide+kernel)|apply zP (by decide+kernel)|(apply zS;(case h=>constructor<;>decide))|((first|apply cB rfl|apply aS|apply zT rfl (by decide) rfl);(case hs=>(simp(disch:=first|omega|exact kD rfl|exact kX rfl) only[smY,simprocAttr,bl,i64,smE,bP,undef,hx,e1];exact rfl));first|refine bZ ?_|refine cA ?_|refine zq ?_|(case hg=>assumption))))
      ((first|apply dI|apply dK);case hres=>(simp only[gW];simp(disch:=first|omega|exact kD rfl|exact kX rfl) only[smY,simprocAttr,bl,i64,smE,bP,undef,hx,e1];exact rfl))
      simp(disch:=first|omega|exact kD rfl|exact kX rfl) only[smY,simprocAttr,bl,i64,smE,bP,undef,hx,e1]
   ·rw[if_neg hp]at hr
    subst hr
    have hx:((b1==b2) !=(k % 2==0))=true:=by
     rw[hkz]
     cases h:(b1==b2) <;>cases h':decide (k % 2=0) <;>simp_all
    refine aBg hx ?_;exact aHr hx
theorem aTz {n1 o1 c1 n2 o2 c2:Nat}{v1 v2:List Int}{b1 b2:Bool}{ix1 ix2:Nat→Option Nat}{T:Int}(h1:SeD n1 v1 o1 c1 b1 ix1) (h2:SeD n2 v2 o2 c2 b2 ix2):PGd 91 [.agg [i64 n1,.sl v1.length (ec v1),i64 n2,.sl v2.length (ec v2),i64 T]] (i64 (if c1≠n1∨c2≠n2 then 3 else 0)):=by
 have gk1:=h1.chR;have gk2:=h2.chR;have gc1:=h1.coR;have gc2:=h2.coR;have hn1:=h1.n2;have hn2:=h2.n2;have hc1:=h1.c2;have hc2:=h2.c2;clear h1 h2;generalize ec v1=x1 at*;generalize ec v2=x2 at*;simp only[i64]at*;by_cases hc:(c1:Int)=n1
 ·by_cases hc':(c2:Int)=n2
  ·rw[if_neg (by omega)];refine aA aV Tryz.func91 rfl (by decide) (nt:=33) rfl (rs:=[.tmp 2]) rfl (aW rfl) ?_
   (repeat(first|apply zO (by decide+kernel)|apply zP (by decide+kernel)|(apply zS;(case h=>constructor<;>decide))|((first|apply cB rfl|apply aS|apply zT rfl (by decide) rfl);(case hs=>(simp(disch:=first|omega|exact kD rfl|exact kX rfl) only[smY,simprocAttr,bl,i64,smE,bP,undef,hc,hc'];exact rfl));first|refine bZ ?_|refine cA ?_|refine zq ?_|(case hg=>assumption))))
   ((first|apply dI|apply dK);case hres=>(simp only[gW];simp(disch:=first|omega|exact kD rfl|exact kX rfl) only[smY,simprocAttr,bl,i64,smE,bP,undef,hc,hc'];exact rfl))
   simp(disch:=first|omega|exact kD rfl|exact kX rfl) only[smY,simprocAttr,bl,i64,smE,bP,undef,hc,hc']
  ·rw[if_pos (.inr (by omega))];refine aA aV Tryz.func91 rfl (by decide) (nt:=33) rfl (rs:=[.tmp 2]) rfl (aW rfl) ?_
   (repeat(first|apply zO (by decide+kernel)|apply zP (by decide+kernel)|(apply zS;(case h=>constructor<;>decide))|((first|apply cB rfl|apply aS|apply zT rfl (by decide) rfl);(case hs=>(simp(disch:=first|omega|exact kD rfl|exact kX rfl) only[smY,simprocAttr,bl,i64,smE,bP,undef,hc,hc'];exact rfl));first|refine bZ ?_|refine cA ?_|refine zq ?_|(case hg=>assumption))))
   ((first|apply dI|apply dK);case hres=>(simp only[gW];simp(disch:=first|omega|exact kD rfl|exact kX rfl) only[smY,simprocAttr,bl,i64,smE,bP,undef,hc,hc'];exact rfl))
   simp(disch:=first|omega|exact kD rfl|exact kX rfl) only[smY,simprocAttr,bl,i64,smE,bP,undef,hc,hc']
 ·rw[if_pos (.inl (by omega))];refine aA aV Tryz.func91 rfl (by decide) (nt:=33) rfl (rs:=[.tmp 2]) rfl (aW rfl) ?_;refine aBg hc ?_;refine fX rfl (by decide) rfl ?_;refine aBg hc ?_;exact aHr hc
end
section
open Go Go.Lg Go.Num
attribute [local irreducible] lrun lwp exThen exBlk keep goodPost
section
variable {f:Nat→LV}{h HH:Nat→Option Blk}{nb nt n N P M na x y:Nat}{L:List (Nat×LV)}{E:List (Nat×Blk)}{b0 b1 b2 b3:Blk}{ty:TypeId}{g g':Nat→Blk}{l:Nat→List (Option Rat)}{c:Code}{Φ:Exit→LS→Prop}{a b C:Prop}{v:Bool}{fz:List Nat}
theorem lt4 {b n:Nat}(h:b<4):(b<n+4)=True:=eq_true (by omega)
theorem gz1 (k:∀ HH:Nat→Option Blk,HH 0=some b0→HH 1=some b1→(∀ j,j<M→HH (j+4)=some (g j))→lwp Tryz.prog na c Φ ⟨nt,f,HH,nb⟩):lwp Tryz.prog na c Φ ⟨nt,f,eE ((0,b0)::(1,b1)::E) 4 M g,nb⟩:=k _ rfl rfl fun _ hj=>qD hj
theorem gz2 (k:∀ HH:Nat→Option Blk,HH 0=some b0→HH 1=some b1→HH 2=some b2→(∀ j,j<M→HH (j+4)=some (g j))→lwp Tryz.prog na c Φ ⟨nt,f,HH,nb⟩):lwp Tryz.prog na c Φ ⟨nt,f,eE ((0,b0)::(1,b1)::[(2,b2)]) 4 M g,nb⟩:=k _ rfl rfl rfl fun _ hj=>qD hj
theorem gz3 (k:∀ HH:Nat→Option Blk,HH 0=some b0→HH 1=some b1→HH 2=some b2→HH 3=some b3→(∀ j,j<M→HH (j+4)=some (g j))→lwp Tryz.prog na c Φ ⟨nt,f,HH,nb⟩):lwp Tryz.prog na c Φ ⟨nt,f,eE ((0,b0)::(1,b1)::[(2,b2),(3,b3)]) 4 M g,nb⟩:=k _ rfl rfl rfl rfl fun _ hj=>qD hj
theorem gz4 {S:Nat→LV×LV}{i:Nat}(k:∀ HH:Nat→Option Blk,HH 0=some b0→HH 1=some b1→(i≠0→HH 3=some ⟨80,sC S i,false⟩)→(∀ j,j<M→HH (j+4)=some (g j))→lwp Tryz.prog na c Φ ⟨nt,f,HH,nb⟩):lwp Tryz.prog na c Φ ⟨nt,f,eE ((0,b0)::(1,b1)::nWB 3 i (sC S i)) 4 M g,nb⟩:=
 k _ rfl rfl (fun h=>by unfold nWB;rw[if_neg h];rfl) fun _ hj=>qD hj
theorem fiE (FI:∀ j,j<n→HH (j+4)=some (g' j)) (e:∀ j,g' j=g j) (eI:∀ j,j<n→h (j+4)=HH (j+4):=by intro j hj;simp(disch:=omega) only[bJ,if_neg]):∀ j,j<n→h (j+4)=some (g j):=fun j hj=>by rw[eI j hj,FI j hj,e j]
theorem aId {l':Nat→List (Option Rat)}{j:Nat}(e:l' j=l j):gO l' j=gO l j:=by unfold gO;rw[e]
theorem bWx (F0:HH 0=some b0) (F1:HH 1=some ⟨ty,kI n P n,false⟩) (y x:Nat) (e2:h y=some b2) (fi:∀ j,j<n→h (j+4)=some (gO l j)) (p2:∀ c∈b2.cells,aB c=true:=by exact aHc _ _) (p0:∀ c∈b0.cells,aB c=true:=by simp[aB]) (e0:h 0=HH 0:=by simp(disch:=omega) only[bJ,Nat.reduceEqDiff,↓reduceIte,if_neg]) (e1:h 1=HH 1:=by simp(disch:=omega) only[bJ,Nat.reduceEqDiff,↓reduceIte,if_neg])
  (hx:1<y∧1<x∧y≠x∧(y<4∨n+4≤y)∧(x<4∨n+4≤x):=by omega) (hf:∀ p∈L,renL (n+4) (kL [0,1,y,x] 4 fun j=>j+4) p.2=some (f p.1):=by simp(maxSteps:=5000000) only[List.forall_mem_cons,List.not_mem_nil,false_imp_iff,implies_true,and_true,aI,simprocAttr,bl,i64,smT,smO,smE,lt4,oZ,Nat.reduceLT,List.getD_cons_zero,List.getD_cons_succ,↓reduceIte];all_goals(simp only[LV.lit.injEq,Value.int.injEq,true_and,and_true];omega)):
  Sub 0 ⟨nt,f,h,nb⟩ ⟨nt,lk L,eE ((0,b0)::(1,⟨ty,kI n P n,false⟩)::[(2,b2)]) 4 n (gO l),n+4⟩:=
 aW4 (e0.trans F0) p0 (e1.trans F1) fi (fun j _=>aHd _ _) (by
  intro p hp;simp only[List.mem_cons,List.not_mem_nil,or_false]at hp;subst hp
  exact⟨.inl rfl,e2,p2⟩) hx hf
theorem sz2 (F0:HH 0=some b0) (F1:HH 1=some ⟨ty,kI n P n,false⟩) (F2:HH 2=some b2) (fi:∀ j,j<n→h (j+4)=some (gO l j)) (p2:∀ c∈b2.cells,aB c=true:=by exact aHc _ _) (p0:∀ c∈b0.cells,aB c=true:=by simp[aB]) (e0:h 0=HH 0:=by simp(disch:=omega) only[bJ,Nat.reduceEqDiff,↓reduceIte,if_neg]) (e1:h 1=HH 1:=by simp(disch:=omega) only[bJ,Nat.reduceEqDiff,↓reduceIte,if_neg]) (e2:h 2=HH 2:=by simp(disch:=omega) only[bJ,Nat.reduceEqDiff,↓reduceIte,if_neg])
  (hf:∀ p∈L,renL (n+4) (kL [0,1,2,n+4+77] 4 fun j=>j+4) p.2=some (f p.1):=by simp(maxSteps:=5000000) only[List.forall_mem_cons,List.not_mem_nil,false_imp_iff,implies_true,and_true,aI,simprocAttr,bl,i64,smT,smO,smE,lt4,oZ,Nat.reduceLT,List.getD_cons_zero,List.getD_cons_succ,↓reduceIte];all_goals(simp only[LV.lit.injEq,Value.int.injEq,true_and,and_true];omega)):
  Sub 0 ⟨nt,f,h,nb⟩ ⟨nt,lk L,eE ((0,b0)::(1,⟨ty,kI n P n,false⟩)::[(2,b2)]) 4 n (gO l),n+4⟩:=bWx F0 F1 2 (n+4+77) (e2.trans F2) fi p2 p0 e0 e1 (by omega) hf
theorem sz3 (F0:HH 0=some b0) (F1:HH 1=some ⟨ty,kI n P n,false⟩) (F2:HH 2=some b2) (x:Nat) (e3:h x=some b3) (p3:∀ c∈b3.cells,aB c=true) (fi:∀ j,j<n→h (j+4)=some (gO l j)) (p2:∀ c∈b2.cells,aB c=true:=by exact aHc _ _) (p0:∀ c∈b0.cells,aB c=true:=by simp[aB]) (e0:h 0=HH 0:=by simp(disch:=omega) only[bJ,Nat.reduceEqDiff,↓reduceIte,if_neg]) (e1:h 1=HH 1:=by simp(disch:=omega) only[bJ,Nat.reduceEqDiff,↓reduceIte,if_neg]) (e2:h 2=HH 2:=by simp(disch:=omega) only[bJ,Nat.reduceEqDiff,↓reduceIte,if_neg])
  (hx:2<x∧(x<4∨n+4≤x):=by omega) (hf:∀ p∈L,renL (n+4) (kL [0,1,2,x] 4 fun j=>j+4) p.2=some (f p.1):=by simp(maxSteps:=5000000) only[List.forall_mem_cons,List.not_mem_nil,false_imp_iff,implies_true,and_true,aI,simprocAttr,bl,i64,smT,smO,smE,lt4,oZ,Nat.reduceLT,List.getD_cons_zero,List.getD_cons_succ,↓reduceIte];all_goals(simp only[LV.lit.injEq,Value.int.injEq,true_and,and_true];omega)):
  Sub 0 ⟨nt,f,h,nb⟩ ⟨nt,lk L,eE ((0,b0)::(1,⟨ty,kI n P n,false⟩)::[(2,b2),(3,b3)]) 4 n (gO l),n+4⟩:=
 aW4 (e0.trans F0) p0 (e1.trans F1) fi (fun j _=>aHd _ _) (by
  intro p hp;simp only[List.mem_cons,List.not_mem_nil,or_false]at hp;rcases hp with rfl |rfl
  ·exact⟨.inl rfl,e2.trans F2,p2⟩
  ·exact⟨.inr rfl,e3,p3⟩) (by omega) hf
theorem bGu {z a:Nat}(hz:z≠a):bY h [a] z=h z:=by
 rw[cN];have:(z∈[a])=False:=by simp[hz]
 simp only[this,↓reduceIte]
 cases h z <;>rfl
theorem sz4 {S:Nat→LV×LV}{i:Nat}(F0:HH 0=some b0) (F1:HH 1=some ⟨ty,kI n P n,false⟩) (FI:∀ j,j<n→HH (j+4)=some (gOz l i j)) (hi:i<n) (x z:Nat) (hz:z=i+4) (hS:∀ j,∃ a nn cs,(S j).1=i64 a∧(S j).2= .sl nn cs) (ex:h x=some ⟨80,sC S (i+1),false⟩) (ei:h z=some ⟨47,oc (l i),true⟩) (eI:∀ j,j<n→j≠i→h (j+4)=HH (j+4):=by intro j hj hne;simp(disch:=omega) only[bJ,bGu,if_neg]) (p0:∀ c∈b0.cells,aB c=true:=by simp[aB]) (e0:h 0=HH 0:=by simp(disch:=omega) only[bJ,bGu,Nat.reduceEqDiff,↓reduceIte,if_neg]) (e1:h 1=HH 1:=by simp(disch:=omega) only[bJ,bGu,Nat.reduceEqDiff,↓reduceIte,if_neg])
  (hx:1<x∧x≠n+4+777∧(x<4∨n+4≤x):=by omega) (hf:∀ p∈L,renL (n+4) (kL [0,1,n+4+777,x] 4 fun j=>j+4) p.2=some (f p.1):=by simp(maxSteps:=5000000) only[nW0,nWs,List.forall_mem_cons,List.not_mem_nil,false_imp_iff,implies_true,and_true,aI,simprocAttr,bl,i64,smT,smO,smE,lt4,oZ,Nat.reduceLT,List.getD_cons_zero,List.getD_cons_succ,↓reduceIte];all_goals(simp only[LV.lit.injEq,Value.int.injEq,true_and,and_true];omega)):
  Sub 0 ⟨nt,f,h,nb⟩ ⟨nt,lk L,eE ((0,b0)::(1,⟨ty,kI n P n,false⟩)::nWB 3 (i+1) (sC S (i+1))) 4 n (gOz l (i+1)),n+4⟩:=by
 subst hz;refine aW4 (y:=n+4+777) (x:=x) (e0.trans F0) p0 (e1.trans F1) (fun j hj=> ?_) (fun j _=>aJ4 _ _ _) ?_ (by omega) hf
 ·by_cases ej:j=i
  ·subst ej;rw[ei];unfold gOz;rw[decide_eq_true (by omega)]
  ·rw[eI j hj ej,FI j hj];unfold gOz;rw[show decide (j<i)=decide (j<i+1)by by_cases c:j<i <;>simp[c] <;>omega]
 ·rw[cLr];intro p hp;simp only[List.mem_cons,List.not_mem_nil,or_false]at hp;subst hp;exact⟨.inr rfl,ex,vO hS _⟩
theorem cs4 [Decidable a] [Decidable b] [Decidable C] (h:v=(decide a && decide b && decide C)):(a∧b∧C∧v=true)∨(a∧b∧¬C∧v=false)∨(a∧¬b∧¬b∧v=false)∨(¬a∧¬a∧¬a∧v=false):=by
 subst h;by_cases x:a <;>by_cases y:b <;>by_cases z:C <;>simp[x,y,z]
end
end
end Go.Proofs.YtaidcaemdkncgaaGreatDoor
