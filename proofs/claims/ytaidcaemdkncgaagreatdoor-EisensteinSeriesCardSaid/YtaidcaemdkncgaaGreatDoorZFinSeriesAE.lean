/- Contracts of functions of the program, and what proves them (texts: R4 R5 R6 R7 EC4 ECs NumSe S0e EP1 B11s L1e EP2 EC5 EC7). -/
import Derived.Test.YtaidcaemdkncgaaGreatDoorZAG
import Derived.Test.YtaidcaemdkncgaaGreatDoorZFinSeriesAA
import Derived.Test.YtaidcaemdkncgaaGreatDoorZFinSeriesAB
import Derived.Test.YtaidcaemdkncgaaGreatDoorZFinSeriesAD
set_option linter.all false
set_option maxRecDepth 100000
set_option maxHeartbeats 8000000
namespace Go.Proofs.YtaidcaemdkncgaaGreatDoor
section
open Go Go.Lg Go.Num
attribute [local irreducible] lrun lwp exThen exBlk keep goodPost sg mg oc mC bq fS
theorem cLg:lq 0≤3:=by decide+kernel
theorem jY (x:Int) (M:Nat) (cs:List LV) (h1: -100≤x) (h2:x+M≤1000):PureGood Tryz.prog 259 [.agg [i64 x,.sl M cs]] (i64 0):=by
 simp only[i64]
 refine aA bC Tryz.func259 rfl (by decide) (nt:=20) rfl (rs:=[.tmp 2]) rfl (aZ rfl) ?_
 refine dM ?_
 exact mJ
theorem aRj (x y:Int) (M N:Nat) (cs ds:List LV) (h1: -100≤x) (h2:x+M≤1000) (h3: -100≤y) (h4:y+N≤1000) (hc:(∀ c∈cs,gI c=true)):PureGood Tryz.prog 265 [.agg [i64 x,.sl M cs],.agg [i64 y,.sl N ds]] (i64 0):=by
 have g1:=jY x M cs h1 h2
 have g2:=jY y N ds h3 h4
 simp only[i64]at*
 refine aA bC Tryz.func265 rfl (by decide) (nt:=13) rfl (rs:=[.tmp 4]) rfl (aZ rfl) ?_
 refine dM ?_
 exact mJ
theorem aCa (x:Int) (h1: -1000000≤x∧x≤1000000):PureGood Tryz.prog 262 [i64 x] (.agg [i64 x,.sl 0 []]):=by
 simp only[i64]at*
 refine aA bC Tryz.func262 rfl (by decide) (nt:=5) rfl (rs:=[.cell 2 80]) rfl (aZ rfl) ?_
 refine dM ?_
 exact mJ
theorem oG (x:Int) (M:Nat) (cs:List LV) (h1: -100≤x) (h2:x+M≤1000):PureGood Tryz.prog 263 [.agg [i64 x,.sl M cs]] (i64 (x+M)):=by
 simp only[i64]at*
 refine aA bC Tryz.func263 rfl (by decide) (nt:=9) rfl (rs:=[.tmp 2]) rfl (aZ rfl) ?_
 refine dM ?_
 exact mJ
theorem aKr (d:Nat) (h1:1≤d) (h2:d≤1000):PureGood Tryz.prog 260 [i64 d] (bl false):=by
 simp only[i64,bl]at*
 refine aA bC Tryz.func260 rfl (by decide) (nt:=9) rfl (rs:=[.tmp 2]) rfl (aZ rfl) ?_
 refine dM ?_
 exact mJ
theorem aRk (n d:Nat) (hn:n≤10000000) (h1:1≤d) (h2:d≤10000000):PureGood Tryz.prog 155 [i64 n,i64 d] (i64 ((n % d:Nat):Int)):=by
 have:=Nat.mod_lt n (show 0<d by omega)
 simp only[i64]at*
 refine aA bC Tryz.func155 rfl (by decide) (nt:=15) rfl (rs:=[.tmp 4]) rfl (aZ rfl) ?_
 refine dM ?_
 exact mJ
theorem aXr (o M:Nat) (a:Nat→Rat) (h2:o+M≤1000) (ha:0<M→a o≠0) (hb:0<M→lq (a o)≤1000):PureGood Tryz.prog 261 [.agg [i64 o,.sl M (qc (aP (fun i=>a (o+i)) M))]] (i64 o):=by
 have hl:=eP (fun i=>a (o+i)) M
 have gp:=oG o M (qc (aP (fun i=>a (o+i)) M)) (by omega) (by omega)
 simp only[i64,bl]at*
 refine aA bC Tryz.func261 rfl (by decide) (nt:=24) rfl (rs:=[.tmp 2]) rfl (aZ rfl) ?_
 refine dM ?_
 refine aI (α:=Unit) (fun _=>st 24 (lk [(1,.ptr 0 0),(3,i64 0)]) (cP [(0,⟨80,[i64 o,.sl M (qc (aP (fun i=>a (o+i)) M))],false⟩)]) 1) (fun _=>0) () ?_ ?_
 ·exact zO4 0
 ·rintro⟨⟩
  simp only[st]
  by_cases hM:0<M
  ·have e1:(aP (fun i=>a (o+i)) M).getD 0 0=a o:=rV hM
   have gz:=aBg (a o) (hb hM)
   rw[nJ (ha hM)]at gz
   generalize a o=q at gz e1
   simp only[aH,bl]at gz
   (repeat(first|apply zO (by decide+kernel)|apply zP (by decide+kernel)|(apply zS;(case h=>constructor<;>decide))|((first|apply cD rfl|apply aR|apply zT rfl (by decide) rfl);(case hs=>(simp(disch:=first|omega|exact kD rfl|exact kX rfl) only[smY,simprocAttr,bl,i64,smT,e1,Int.add_zero];exact rfl));first|refine cB ?_|refine cC ?_|refine zq ?_|(case hg=>assumption))))
   ((first|apply dG|apply dI);case hres=>(simp only[iC];simp(disch:=first|omega|exact kD rfl|exact kX rfl) only[smY,simprocAttr,bl,i64,smT,e1,Int.add_zero];exact rfl))
   simp(disch:=first|omega|exact kD rfl|exact kX rfl) only[smY,simprocAttr,bl,i64,smT,e1,Int.add_zero]
  ·obtain rfl:M=0:=by omega
   rw[Int.natCast_zero,Int.add_zero]at gp
   refine dM ?_
   exact mJ
theorem sE (o M n:Nat) (a:Nat→Rat) (h2:o+M≤1000) (hz:∀ j,j<o→a j=0) (hn:n<o+M) (hb:lq (a n)≤1000):PureGood Tryz.prog 264 [.agg [i64 o,.sl M (qc (aP (fun i=>a (o+i)) M))],i64 n] (bF (a n)):=by
 have hl:=eP (fun i=>a (o+i)) M
 by_cases hno:n<o
 ·have g0:=fD 0 (by omega)
  rw[show((0:Int):Rat)=a n from(hz n hno).symm]at g0
  generalize a n=q at*
  simp only[i64,aH]at*
  refine aA bC Tryz.func264 rfl (by decide) (nt:=29) rfl (rs:=[.cell 4 47]) rfl (aZ rfl) ?_
  refine dM ?_
  exact mJ
 ·have e1:(aP (fun i=>a (o+i)) M).getD (n-o) 0=a n:=by
   rw[rV (by omega)]
   show a (o+(n-o))=_
   rw[show o+(n-o)=n by omega]
  have g0:=eH (a n) (by omega)
  have hc:((n:Int)-(o:Int)).toNat=n-o:=by omega
  generalize hq:a n=q at g0 e1⊢
  simp only[i64,aH]at g0⊢
  refine aA bC Tryz.func264 rfl (by decide) (nt:=29) rfl (rs:=[.cell 4 47]) rfl (aZ rfl) ?_
  refine cW (nd e1 hc) ?_
  exact aL4 (nd e1 hc)
end
section
open Go Go.Lg Go.Num
attribute [local irreducible] lrun lwp exThen exBlk keep goodPost sg mg oc mC bq fS
theorem aUc {a:Nat→Rat}{t o j:Nat}(ht:1≤t) (hz:∀ j,j<o→a j=0) (h:j<t*o):sX a t j=0:=by
 unfold sX
 split
 ·exact hz _ (Nat.div_lt_of_lt_mul h)
 ·rfl
theorem aBh {a:Nat→Rat}{t p B j:Nat}(ba:∀ i,i<p→lq (a i)≤B) (hB:3≤B) (h:j<t*p):lq (sX a t j)≤B:=by
 unfold sX
 split
 ·exact ba _ (Nat.div_lt_of_lt_mul h)
 ·exact Nat.le_trans cLg hB
theorem zK (a:Nat→Rat) (p t:Nat) (hp:p≤1000) (ht1:1≤t) (ht:t≤1000) (ba:∀ i,i<p→lq (a i)≤1000):PureGood Tryz.prog 187 [fS 0 a p,i64 t] (.tup [fS 0 (sX a t) (min (t*p) 1000),i64 0]):=by
 obtain⟨ho,hz,hnz⟩:=iM a p
 rw[iY (a:=a) rfl,Int.zero_add]
 generalize Go.Num.ordN a p=o at*
 have hoM:o+(p-o)=p:=by omega
 generalize p-o=M at*
 have g1:=jY o M (qc (aP (fun i=>a (o+i)) M)) (by omega) (by omega)
 have g2:=aKr t ht1 ht
 have g3:=aXr o M a (by omega) (fun h=>hnz (by omega)) (fun h=>ba _ (by omega))
 have g4:=oG o M (qc (aP (fun i=>a (o+i)) M)) (by omega) (by omega)
 rw[show(o:Int)+M=((p:Nat):Int)by omega]at g4
 have hl:=eP (fun i=>a (o+i)) M
 have b1:t*o≤1000*1000:=Nat.mul_le_mul ht (by omega)
 have b2:t*p≤1000*1000:=Nat.mul_le_mul ht hp
 have b3:t*o≤t*p:=Nat.mul_le_mul_left _ ho
 have hmul:(t:Int)*o=((t*o:Nat):Int):=by simp
 have hmul2:(t:Int)*p=((t*p:Nat):Int):=by simp
 by_cases hF:1000≤t*o
 ·have hN:min (t*p) 1000=1000:=by omega
  rw[hN,aIb (fun j hj=>aUc ht1 hz (by omega))]
  have g5:=aCa 1000 (by omega)
  generalize t*o=F at*
  simp only[i64,bl]at*
  refine aA bC Tryz.func187 rfl (by decide) (nt:=61) rfl (rs:=[.cell 4 80,.tmp 5]) rfl (aZ rfl) ?_
  refine cW hmul ?_
  ((first|apply dG|apply dI);case hres=>(simp only[iC];simp(disch:=first|omega|exact kD rfl|exact kX rfl) only[smY,simprocAttr,bl,i64,smT,hmul];exact rfl))
  simp(disch:=first|omega|exact kD rfl|exact kX rfl) only[smY,simprocAttr,bl,i64,smT,hmul]
  trace_state
 ·have hN:((min (t*p) 1000:Nat):Int)=if(1000:Int)<((t*p:Nat):Int)then 1000 else((t*p:Nat):Int):=by split <;>omega
  have hFN:t*o≤min (t*p) 1000:=by omega
  have hNp:min (t*p) 1000≤t*p:=by omega
  have hN1:min (t*p) 1000≤1000:=by omega
  rw[sD hFN (fun j hj=>aUc ht1 hz hj),Int.zero_add]
  have gR:=lT ((t*o:Nat):Int) (fun i=>sX a t (t*o+i)) (min (t*p) 1000-t*o) (by omega) (by omega) (fun i hi=>aBh ba (by omega) (by omega))
  obtain⟨x,MR,LR,hR,hLM,hM,hx⟩:=dT ((t*o:Nat):Int) (fun i=>sX a t (t*o+i)) (min (t*p) 1000-t*o)
  rw[hR]at gR⊢
  clear hR
  generalize hNv:min (t*p) 1000=N at*
  obtain⟨b,hbd⟩:∃ b,b=fun i=>sX a t (t*o+i):=⟨_,rfl⟩
  rw[← hbd]at gR
  have hbf:∀ i,b i=sX a t (t*o+i):=fun i=>by rw[hbd]
  clear hbd
  generalize hFv:t*o=F at*
  generalize hPv:t*p=P at*
  have hmn:=hN.symm
  simp only[i64,bl]at g1 g2 g3 g4 gR⊢
  refine aA bC Tryz.func187 rfl (by decide) (nt:=61) rfl (rs:=[.cell 4 80,.tmp 5]) rfl (aZ rfl) ?_
  refine cW hmul ?_
  refine aI (α:={m:Nat // F+m≤N}) (fun m=>st 61 (lk [(1,i64 t),(2,.ptr 0 0),(4,.ptr 1 0),(7,i64 F),(8,nV 2 m.1),(9,i64 ((F+m.1:Nat):Int))]) (cP ((0,⟨80,[i64 o,.sl M (qc (aP (fun i=>a (o+i)) M))],false⟩)::(1,⟨80,[i64 0,nilL],false⟩)::nB 2 m.1 (qc (aP b m.1)))) 3) (fun m=>N-(F+m.1)) ⟨0,by omega⟩ ?_ ?_
  ·simp only[mU,mV]
   (refine Sub.heapL [0,1,99] rfl (by decide) ?_ (by simp only[fB];decide) ?_ ?_;all_goals(first|(simp only[aB,aG,dg,renL,renLs,simprocAttr,bl,i64,smT,hmul];done) |(simp only[aG,dg,renL,renLs,simprocAttr,bl,i64,smT,hmul];(repeat' apply And.intro);all_goals rfl) |(simp only[aG,dg,renL,renLs,simprocAttr,bl,i64,smT,hmul]) |skip))
   all_goals(first |done |((repeat' apply And.intro);all_goals(first |trivial |rfl)))
  ·rintro⟨m,hm⟩
   simp only[st]
   have hla:=eP b m
   have happ:=pE b m
   have hbm0:=hbf m
   rw[sX]at hbm0
   by_cases hlt:F+m<N
   ·have gm:=aRk (F+m) t (by omega) ht1 (by omega)
    generalize hn:F+m=n at*
    simp only[i64]at gm
    by_cases h0:m=0
    ·simp only[oA h0,oB h0]
     by_cases hd:n % t=0
     ·have hb:b m=a (n / t):=by rw[hbm0,if_pos hd]
      have hnt:n / t<o+M:=by rw[hoM];exact Nat.div_lt_of_lt_mul (by omega)
      have gc:=sE o M (n / t) a (by omega) hz hnt (ba _ (by omega))
      rw[← hb]at gc
      rw[hd]at gm
      generalize hbm:b m=bv at*
      generalize hqt:n / t=q at*
      simp only[i64,aH]at gc
      (repeat(first|apply zO (by decide+kernel)|apply zP (by decide+kernel)|(apply zS;(case h=>constructor<;>decide))|((first|apply cD rfl|apply aR|apply zT rfl (by decide) rfl);(case hs=>(simp(disch:=first|omega|exact kD rfl|exact kX rfl) only[smY,simprocAttr,bl,i64,smT,hmul2,hmn,hqt,Int.sub_zero];exact rfl));first|refine cB ?_|refine cC ?_|refine zq ?_|(case hg=>assumption))))
      refine⟨⟨m+1,by omega⟩,?_,by simp only;omega⟩
      simp only[dR,dS]
      (refine Sub.heapL [0,1,25] rfl (by decide) ?_ (by simp only[fB];decide) ?_ ?_;all_goals(first|(simp only[aB,aG,dg,renL,renLs,simprocAttr,bl,i64,smT];done) |(simp only[aG,dg,renL,renLs,simprocAttr,bl,i64,smT];(repeat' apply And.intro);all_goals rfl) |(simp only[aG,dg,renL,renLs,simprocAttr,bl,i64,smT]) |skip))
      all_goals(first |done |(subst h0;(repeat' apply And.intro);all_goals(first |trivial |rfl |(simp only[LV.lit.injEq,Value.int.injEq,true_and];omega) |(have e:aP b 1=[bv]:=happ;rw[e,← jB]))))
     ·have hb:b m=0:=by rw[hbm0,if_neg hd]
      have gc:=fD 0 (by omega)
      rw[show((0:Int):Rat)=b m from hb.symm]at gc
      generalize hbm:b m=bv at*
      generalize hrt:n % t=r at*
      simp only[i64,aH]at gc
      refine cW (nd hmul2 hmn) ?_
      refine⟨⟨m+1,by omega⟩,?_,by simp only;omega⟩
      simp only[dR,dS]
      (refine Sub.heapL [0,1,17] rfl (by decide) ?_ (by simp only[fB];decide) ?_ ?_;all_goals(first|(simp only[aB,aG,dg,renL,renLs,simprocAttr,bl,i64,smT];done) |(simp only[aG,dg,renL,renLs,simprocAttr,bl,i64,smT];(repeat' apply And.intro);all_goals rfl) |(simp only[aG,dg,renL,renLs,simprocAttr,bl,i64,smT]) |skip))
      all_goals(first |done |(subst h0;(repeat' apply And.intro);all_goals(first |trivial |rfl |(simp only[LV.lit.injEq,Value.int.injEq,true_and];omega) |(have e:aP b 1=[bv]:=happ;rw[e,← jB]))))
    ·simp only[lQ h0,lR h0]
     by_cases hd:n % t=0
     ·have hb:b m=a (n / t):=by rw[hbm0,if_pos hd]
      have hnt:n / t<o+M:=by rw[hoM];exact Nat.div_lt_of_lt_mul (by omega)
      have gc:=sE o M (n / t) a (by omega) hz hnt (ba _ (by omega))
      rw[← hb]at gc
      rw[hd]at gm
      generalize hbm:b m=bv at*
      generalize hqt:n / t=q at*
      simp only[i64,aH]at gc
      (repeat(first|apply zO (by decide+kernel)|apply zP (by decide+kernel)|(apply zS;(case h=>constructor<;>decide))|((first|apply cD rfl|apply aR|apply zT rfl (by decide) rfl);(case hs=>(simp(disch:=first|omega|exact kD rfl|exact kX rfl) only[smY,simprocAttr,bl,i64,smT,hmul2,hmn,hqt,Int.sub_zero];exact rfl));first|refine cB ?_|refine cC ?_|refine zq ?_|(case hg=>assumption))))
      refine⟨⟨m+1,by omega⟩,?_,by simp only;omega⟩
      simp only[dR,dS]
      (refine Sub.heapL [0,1,25] rfl (by decide) ?_ (by simp only[fB];decide) ?_ ?_;all_goals(first|(simp only[aB,aG,dg,renL,renLs,simprocAttr,bl,i64,smT];done) |(simp only[aG,dg,renL,renLs,simprocAttr,bl,i64,smT];(repeat' apply And.intro);all_goals rfl) |(simp only[aG,dg,renL,renLs,simprocAttr,bl,i64,smT]) |skip))
      all_goals(first |done |((repeat' apply And.intro);all_goals(first |trivial |rfl |(simp only[LV.lit.injEq,Value.int.injEq,true_and];omega) |rw[happ,← gY])))
     ·have hb:b m=0:=by rw[hbm0,if_neg hd]
      have gc:=fD 0 (by omega)
      rw[show((0:Int):Rat)=b m from hb.symm]at gc
      generalize hbm:b m=bv at*
      generalize hrt:n % t=r at*
      simp only[i64,aH]at gc
      refine cW (nd hmul2 hmn) ?_
      refine⟨⟨m+1,by omega⟩,?_,by simp only;omega⟩
      simp only[dR,dS]
      (refine Sub.heapL [0,1,17] rfl (by decide) ?_ (by simp only[fB];decide) ?_ ?_;all_goals(first|(simp only[aB,aG,dg,renL,renLs,simprocAttr,bl,i64,smT];done) |(simp only[aG,dg,renL,renLs,simprocAttr,bl,i64,smT];(repeat' apply And.intro);all_goals rfl) |(simp only[aG,dg,renL,renLs,simprocAttr,bl,i64,smT]) |skip))
      all_goals(first |done |((repeat' apply And.intro);all_goals(first |trivial |rfl |(simp only[LV.lit.injEq,Value.int.injEq,true_and];omega) |rw[happ,← gY])))
   ·have hmN:N-F=m:=by omega
    rw[hmN]at gR
    by_cases h0:m=0
    ·simp only[oA h0,oB h0]
     subst h0
     rw[aP0]at gR
     refine cW (nd hmul2 hmn) ?_
     exact aL4 (nd hmul2 hmn)
    ·simp only[lQ h0,lR h0]
     refine cW (nd hmul2 hmn) ?_
     exact aL4 (nd hmul2 hmn)
end
section
open Go Go.Lg Go.Num
attribute [local irreducible] lrun lwp exThen exBlk keep goodPost sg mg oc mC bq fS
theorem bDq (b:Nat→Rat) {m n:Nat}(h:m≤n):(qc (aP b n)).take (m*4)=qc (aP b m):=by
 rw[aNj]
 congr 1
 unfold aP
 rw[← List.map_take,List.take_range,Nat.min_eq_left h]
theorem aId (c:Nat→Rat) (N p:Nat) (hp:p≤N) (hN:N≤1000) (ba:∀ i,i<N→lq (c i)≤1000):PureGood Tryz.prog 188 [fS 0 c N,i64 p] (.tup [fS 0 c p,i64 0]):=by
 obtain⟨ho,hz,hnz⟩:=iM c N
 rw[iY (a:=c) (N:=N) rfl,Int.zero_add]
 generalize Go.Num.ordN c N=o at*
 have hoM:o+(N-o)=N:=by omega
 generalize N-o=M at*
 have g1:=jY o M (qc (aP (fun i=>c (o+i)) M)) (by omega) (by omega)
 have hl:=eP (fun i=>c (o+i)) M
 by_cases hpo:p≤o
 ·have g5:=aCa p (by omega)
  rw[aIb (fun j hj=>hz j (by omega)),Int.zero_add]
  simp only[i64,bl]at*
  refine aA bC Tryz.func188 rfl (by decide) (nt:=45) rfl (rs:=[.cell 4 80,.tmp 5]) rfl (aZ rfl) ?_
  refine dM ?_
  exact mJ
 ·rw[sD (f:=o) (by omega) hz,Int.zero_add]
  have g4:=oG o M (qc (aP (fun i=>c (o+i)) M)) (by omega) (by omega)
  rw[show(o:Int)+M=((N:Nat):Int)by omega]at g4
  have gR:=lT o (fun i=>c (o+i)) (p-o) (by omega) (by omega) (fun i hi=>ba _ (by omega))
  obtain⟨x,MR,LR,hR,hLM,hM,hx⟩:=dT o (fun i=>c (o+i)) (p-o)
  rw[hR]at gR⊢
  clear hR
  by_cases hpN:p=N
  ·have hMe:p-o=M:=by omega
   rw[hMe]at gR
   simp only[i64,bl]at*
   refine aA bC Tryz.func188 rfl (by decide) (nt:=45) rfl (rs:=[.cell 4 80,.tmp 5]) rfl (aZ rfl) ?_
   refine dM ?_
   exact mJ
  ·have hpm:p-o≤M:=by omega
   have htk:=bDq (fun i=>c (o+i)) hpm
   have hcn:((p:Int)-(o:Int)).toNat=p-o:=by omega
   have hlq:=eP (fun i=>c (o+i)) (p-o)
   generalize hq:p-o=q at*
   simp only[i64,bl]at g1 g4 gR⊢
   refine aA bC Tryz.func188 rfl (by decide) (nt:=45) rfl (rs:=[.cell 4 80,.tmp 5]) rfl (aZ rfl) ?_
   refine cW (nd htk hcn) ?_
   exact aL4 (nd htk hcn)
theorem aKs (q:Rat) (c:Nat→Rat) (p:Nat) (hp:p≤1000) (lqq:lq q≤480) (ba:∀ i,i<p→lq (c i)≤480):PureGood Tryz.prog 189 [bF q,fS 0 c p] (.tup [fS 0 (fun i=>q*c i) p,i64 0]):=by
 obtain⟨ho,hz,hnz⟩:=iM c p
 have hb1:∀ i,i<p→lq (q*c i)≤1000:=fun i hi=>by
  have:=kK q (c i)
  have:=ba i hi
  omega
 rw[iY (a:=c) rfl,Int.zero_add,sD (a:=fun i=>q*c i) ho (fun j hj=>by simp only[hz j hj];exact Rat.mul_zero q),Int.zero_add]
 generalize Go.Num.ordN c p=o at*
 have hoM:o+(p-o)=p:=by omega
 generalize p-o=M at*
 have g1:=jY o M (qc (aP (fun i=>c (o+i)) M)) (by omega) (by omega)
 have hl:=eP (fun i=>c (o+i)) M
 have gR:=lT o (fun i=>q*c (o+i)) M (by omega) (by omega) (fun i hi=>hb1 _ (by omega))
 obtain⟨x,MR,LR,hR,hLM,hM,hx⟩:=dT o (fun i=>q*c (o+i)) M
 rw[hR]at gR⊢
 clear hR
 obtain⟨b,hbd⟩:∃ b,b=fun i=>q*c (o+i):=⟨_,rfl⟩
 rw[← hbd]at gR
 have hbf:∀ i,b i=q*c (o+i):=fun i=>by rw[hbd]
 clear hbd
 simp only[i64,bl,aH]at g1 gR⊢
 refine aA bC Tryz.func189 rfl (by decide) (nt:=38) rfl (rs:=[.cell 4 80,.tmp 5]) rfl (aZ rfl) ?_
 refine dM ?_
 refine aI (α:={m:Nat // m≤M}) (fun m=>st 38 (lk [(2,.ptr 0 0),(3,.ptr 1 0),(4,.ptr 2 0),(7,nV 3 m.1),(8,i64 m.1)]) (cP ((0,⟨47,[sg (q).num,mg (q).num,sg ((q).den:Int),mg ((q).den:Int)],false⟩)::(1,⟨80,[i64 o,.sl M (qc (aP (fun i=>c (o+i)) M))],false⟩)::(2,⟨80,[i64 0,nilL],false⟩)::nB 3 m.1 (qc (aP b m.1)))) 4) (fun m=>M-m.1) ⟨0,by omega⟩ ?_ ?_
 ·simp only[mU,mV]
  exact zL0 [0,1,2,99]
 ·rintro⟨m,hm⟩
  simp only[st]
  have hla:=eP b m
  have happ:=pE b m
  by_cases hlt:m<M
  ·have e1:(aP (fun i=>c (o+i)) M).getD m 0=c (o+m):=rV hlt
   have b1:=ba (o+m) (by omega)
   have r1:=dV q (c (o+m)) (by omega) (by omega)
   rw[← hbf m]at r1
   generalize c (o+m)=ci at*
   generalize hbm:b m=bv at*
   simp only[aH]at r1
   by_cases h0:m=0
   ·simp only[oA h0,oB h0]
    refine cW e1 ?_
    refine⟨⟨m+1,by omega⟩,?_,by simp only;omega⟩
    simp only[dR,dS]
    (refine Sub.heapL [0,1,2,18] rfl (by decide) ?_ (by simp only[fB];decide) ?_ ?_;all_goals(first|(simp only[aB,aG,dg,renL,renLs,simprocAttr,bl,i64,smT];done) |(simp only[aG,dg,renL,renLs,simprocAttr,bl,i64,smT];(repeat' apply And.intro);all_goals rfl) |(simp only[aG,dg,renL,renLs,simprocAttr,bl,i64,smT]) |skip))
    all_goals(first |done |(subst h0;(repeat' apply And.intro);all_goals(first |trivial |rfl |(simp only[LV.lit.injEq,Value.int.injEq,true_and];omega) |(have e:aP b 1=[bv]:=happ;rw[e,← jB]))))
   ·simp only[lQ h0,lR h0]
    refine cW e1 ?_
    refine⟨⟨m+1,by omega⟩,?_,by simp only;omega⟩
    simp only[dR,dS]
    (refine Sub.heapL [0,1,2,18] rfl (by decide) ?_ (by simp only[fB];decide) ?_ ?_;all_goals(first|(simp only[aB,aG,dg,renL,renLs,simprocAttr,bl,i64,smT];done) |(simp only[aG,dg,renL,renLs,simprocAttr,bl,i64,smT];(repeat' apply And.intro);all_goals rfl) |(simp only[aG,dg,renL,renLs,simprocAttr,bl,i64,smT]) |skip))
    all_goals(first |done |((repeat' apply And.intro);all_goals(first |trivial |rfl |(simp only[LV.lit.injEq,Value.int.injEq,true_and];omega) |rw[happ,← gY])))
  ·obtain rfl:m=M:=by omega
   by_cases h0:m=0
   ·simp only[oA h0,oB h0]
    subst h0
    rw[aP0]at gR
    refine dM ?_
    exact mJ
   ·simp only[lQ h0,lR h0]
    refine dM ?_
    exact mJ
theorem aRl (a c:Nat→Rat) (p:Nat) (hp:p≤1000) (ba:∀ i,i<p→lq (a i)≤450) (bc:∀ i,i<p→lq (c i)≤450) (bs:∀ i,i<p→lq (a i+c i)≤1000):PureGood Tryz.prog 190 [fS 0 a p,fS 0 c p] (.tup [fS 0 (fun i=>a i+c i) p,i64 0]):=by
 obtain⟨ho,hz,hnz⟩:=iM a p
 obtain⟨ho2,hz2,hnz2⟩:=iM c p
 rw[iY (a:=a) rfl,iY (a:=c) rfl,Int.zero_add,Int.zero_add]
 generalize Go.Num.ordN a p=o at*
 generalize Go.Num.ordN c p=w at*
 have hf1:min (min o w) p≤p:=by omega
 rw[sD (a:=fun i=>a i+c i) hf1 (fun j hj=>by simp only[hz j (by omega),hz2 j (by omega)];exact Rat.add_zero 0),Int.zero_add]
 have hoM:o+(p-o)=p:=by omega
 have hwM:w+(p-w)=p:=by omega
 have hmin:(if(p:Int)<(if(w:Int)<(o:Int)then(w:Int)else(o:Int))then(p:Int)else(if(w:Int)<(o:Int)then(w:Int)else(o:Int)))=((min (min o w) p:Nat):Int):=by
  by_cases h1:(w:Int)<o
  ·rw[if_pos h1];split <;>omega
  ·rw[if_neg h1];split <;>omega
 have hfo:min (min o w) p≤o:=by omega
 have hfw:min (min o w) p≤w:=by omega
 generalize min (min o w) p=f at*
 generalize p-o=M at*
 generalize p-w=K at*
 have g1:=aRj o w M K (qc (aP (fun i=>a (o+i)) M)) (qc (aP (fun i=>c (w+i)) K)) (by omega) (by omega) (by omega) (by omega) (kR rQ rR _)
 have g2:=oG o M (qc (aP (fun i=>a (o+i)) M)) (by omega) (by omega)
 have g3:=oG w K (qc (aP (fun i=>c (w+i)) K)) (by omega) (by omega)
 rw[show(o:Int)+M=((p:Nat):Int)by omega]at g2
 rw[show(w:Int)+K=((p:Nat):Int)by omega]at g3
 have hmp:(if(p:Int)<(p:Int)then(p:Int)else(p:Int))=(p:Int):=by split <;>rfl
 have hl:=eP (fun i=>a (o+i)) M
 have hl':=eP (fun i=>c (w+i)) K
 have gR:=lT f (fun i=>a (f+i)+c (f+i)) (p-f) (by omega) (by omega) (fun i hi=>bs _ (by omega))
 obtain⟨x,MR,LR,hR,hLM,hM,hx⟩:=dT f (fun i=>a (f+i)+c (f+i)) (p-f)
 rw[hR]at gR⊢
 clear hR
 obtain⟨b,hbd⟩:∃ b,b=fun i=>a (f+i)+c (f+i):=⟨_,rfl⟩
 rw[← hbd]at gR
 have hbf:∀ i,b i=a (f+i)+c (f+i):=fun i=>by rw[hbd]
 clear hbd
 simp only[i64,bl]at g1 g2 g3 gR⊢
 refine aA bC Tryz.func190 rfl (by decide) (nt:=50) rfl (rs:=[.cell 4 80,.tmp 5]) rfl (aZ rfl) ?_
 refine cW (nd hmin hmp) ?_
 refine aI (α:={m:Nat // f+m≤p}) (fun m=>st 50 (lk [(2,.ptr 0 0),(3,.ptr 1 0),(4,.ptr 2 0),(7,i64 p),(8,i64 f),(9,nV 3 m.1),(10,i64 ((f+m.1:Nat):Int))]) (cP ((0,⟨80,[i64 o,.sl M (qc (aP (fun i=>a (o+i)) M))],false⟩)::(1,⟨80,[i64 w,.sl K (qc (aP (fun i=>c (w+i)) K))],false⟩)::(2,⟨80,[i64 0,nilL],false⟩)::nB 3 m.1 (qc (aP b m.1)))) 4) (fun m=>p-(f+m.1)) ⟨0,by omega⟩ ?_ ?_
 ·simp only[mU,mV]
  exact zL0 [0,1,2,99]
 ·rintro⟨m,hm⟩
  simp only[st]
  have hla:=eP b m
  have happ:=pE b m
  by_cases hlt:f+m<p
  ·have b1:=ba (f+m) hlt
   have b2:=bc (f+m) hlt
   have r1:=sE o M (f+m) a (by omega) hz (by omega) (by omega)
   have r2:=sE w K (f+m) c (by omega) hz2 (by omega) (by omega)
   have r3:=kP (a (f+m)) (c (f+m)) (by omega) (by omega)
   rw[← hbf m]at r3
   generalize hn:f+m=n at*
   generalize a n=av at*
   generalize c n=cv at*
   generalize hbm:b m=bv at*
   simp only[aH,i64]at r1 r2 r3
   by_cases h0:m=0
   ·simp only[oA h0,oB h0]
    refine dM ?_
    refine⟨⟨m+1,by omega⟩,?_,by simp only;omega⟩
    simp only[dR,dS]
    (refine Sub.heapL [0,1,2,16] rfl (by decide) ?_ (by simp only[fB];decide) ?_ ?_;all_goals(first|(simp only[aB,aG,dg,renL,renLs,simprocAttr,bl,i64,smT];done) |(simp only[aG,dg,renL,renLs,simprocAttr,bl,i64,smT];(repeat' apply And.intro);all_goals rfl) |(simp only[aG,dg,renL,renLs,simprocAttr,bl,i64,smT]) |skip))
    all_goals(first |done |(subst h0;(repeat' apply And.intro);all_goals(first |trivial |rfl |(simp only[LV.lit.injEq,Value.int.injEq,true_and];omega) |(have e:aP b 1=[bv]:=happ;rw[e,← jB]))))
   ·simp only[lQ h0,lR h0]
    refine dM ?_
    refine⟨⟨m+1,by omega⟩,?_,by simp only;omega⟩
    simp only[dR,dS]
    (refine Sub.heapL [0,1,2,16] rfl (by decide) ?_ (by simp only[fB];decide) ?_ ?_;all_goals(first|(simp only[aB,aG,dg,renL,renLs,simprocAttr,bl,i64,smT];done) |(simp only[aG,dg,renL,renLs,simprocAttr,bl,i64,smT];(repeat' apply And.intro);all_goals rfl) |(simp only[aG,dg,renL,renLs,simprocAttr,bl,i64,smT]) |skip))
    all_goals(first |done |((repeat' apply And.intro);all_goals(first |trivial |rfl |(simp only[LV.lit.injEq,Value.int.injEq,true_and];omega) |rw[happ,← gY])))
  ·have hmN:p-f=m:=by omega
   rw[hmN]at gR
   by_cases h0:m=0
   ·simp only[oA h0,oB h0]
    subst h0
    rw[aP0]at gR
    refine dM ?_
    exact mJ
   ·simp only[lQ h0,lR h0]
    refine dM ?_
    exact mJ
end
section
open Go Go.Lg Go.Num
attribute [local irreducible] lrun lwp exThen exBlk keep goodPost sg mg oc mC bq fS
theorem aFr (a:Nat→Rat) (k p t:Nat) (b:Bool) (hp:p≤1000) (ht1:1≤t) (ht:t≤1000) (ba:∀ i,i<p→lq (a i)≤410) (hk:k≤40) (hkb:¬(k=2∧b=true)):PureGood Tryz.prog 98 [fS 0 a p,i64 k,i64 t,bl b,i64 p] (fS 0 (sX a t) p):=by
 have hpt:p≤t*p:=Nat.le_mul_of_pos_left p (by omega)
 have g1:=zK a p t hp ht1 ht (fun i hi=>Nat.le_trans (ba i hi) (by omega))
 have g2:=aId (sX a t) (min (t*p) 1000) p (by omega) (by omega) (fun i hi=>aBh (fun i hi=>Nat.le_trans (ba i hi) (by omega)) (by omega) (by omega:i<t*p))
 obtain⟨x1,M1,L1,hR1,hL1,hM1,hx1⟩:=dT 0 a p
 rw[hR1]at g1⊢
 clear hR1
 obtain⟨x2,M2,L2,hR2,hL2,hM2,hx2⟩:=dT 0 (sX a t) (min (t*p) 1000)
 rw[hR2]at g1 g2
 clear hR2
 obtain⟨x3,M3,L3,hR3,hL3,hM3,hx3⟩:=dT 0 (sX a t) p
 rw[hR3]at g2⊢
 clear hR3
 simp only[i64,bl]at*
 by_cases h2:k=2
 ·obtain rfl:b=false:=by
   cases b with
   |false=>rfl
   |true=>exact absurd ⟨h2,rfl⟩ hkb
  refine aA bC Tryz.func98 rfl (by decide) (nt:=45) rfl (rs:=[.cell 10 80]) rfl (aZ rfl) ?_
  refine dM ?_
  exact mJ
 ·refine aA bC Tryz.func98 rfl (by decide) (nt:=45) rfl (rs:=[.cell 10 80]) rfl (aZ rfl) ?_
  refine dM ?_
  exact mJ
theorem aGn (a:Nat→Rat) (p t:Nat) (hp:p≤1000) (ht1:1≤t) (ht:t≤1000) (ba:∀ i,i<p→lq (a i)≤100):PureGood Tryz.prog 98 [fS 0 a p,i64 2,i64 t,bl true,i64 p] (fS 0 (dfT a t) p):=by
 have hpt:p≤t*p:=Nat.le_mul_of_pos_left p (by omega)
 have bu:∀ i,i<p→lq (sX a t i)≤100:=fun i hi=>aBh ba (by omega) (by omega:i<t*p)
 have lt':=aJv (z:= -(t:Int)) (by omega)
 have bm:∀ i,i<p→lq (((-(t:Int):Int):Rat)*sX a t i)≤103:=fun i hi=>by
  have:=kK ((-(t:Int):Int):Rat) (sX a t i)
  have:=bu i hi
  omega
 have g1:=zK a p t hp ht1 ht (fun i hi=>Nat.le_trans (ba i hi) (by omega))
 have g2:=aId (sX a t) (min (t*p) 1000) p (by omega) (by omega) (fun i hi=>aBh (fun i hi=>Nat.le_trans (ba i hi) (by omega)) (by omega) (by omega:i<t*p))
 have g0:=fD (-(t:Int)) (by omega)
 have g3:=aKs ((-(t:Int):Int):Rat) (sX a t) p hp (by omega) (fun i hi=>Nat.le_trans (bu i hi) (by omega))
 have g4:=aRl a (fun i=>((-(t:Int):Int):Rat)*sX a t i) p hp (fun i hi=>Nat.le_trans (ba i hi) (by omega)) (fun i hi=>Nat.le_trans (bm i hi) (by omega)) (fun i hi=>by
  have h1:=bAx (a i) (((-(t:Int):Int):Rat)*sX a t i)
  have h2:=ba i hi
  have h3:=bm i hi
  omega)
 rw[show(fun i=>a i+((-(t:Int):Int):Rat)*sX a t i)=dfT a t from funext fun i=>by
  unfold dfT
  rw[Rat.intCast_neg,Rat.neg_mul,Rat.sub_eq_add_neg]]at g4
 rw[show -(t:Int)=0-(t:Int)by omega]at g0
 generalize hc:(fun i=>((-(t:Int):Int):Rat)*sX a t i)=c at*
 generalize hq:((-(t:Int):Int):Rat)=q at*
 rw[show((0-(t:Int):Int):Rat)=q by rw[← hq];congr 1;omega]at g0
 clear hc hq bm lt' bu
 obtain⟨x1,M1,L1,hR1,hL1,hM1,hx1⟩:=dT 0 a p
 rw[hR1]at g1 g4⊢
 clear hR1
 obtain⟨x2,M2,L2,hR2,hL2,hM2,hx2⟩:=dT 0 (sX a t) (min (t*p) 1000)
 rw[hR2]at g1 g2
 clear hR2
 obtain⟨x3,M3,L3,hR3,hL3,hM3,hx3⟩:=dT 0 (sX a t) p
 rw[hR3]at g2 g3
 clear hR3
 obtain⟨x4,M4,L4,hR4,hL4,hM4,hx4⟩:=dT 0 c p
 rw[hR4]at g3 g4
 clear hR4
 obtain⟨x5,M5,L5,hR5,hL5,hM5,hx5⟩:=dT 0 (dfT a t) p
 rw[hR5]at g4⊢
 clear hR5
 simp only[i64,bl,aH]at*
 refine aA bC Tryz.func98 rfl (by decide) (nt:=45) rfl (rs:=[.cell 10 80]) rfl (aZ rfl) ?_
 refine dM ?_
 exact mJ
end
section
open Go Go.Lg Go.Num
def cvL (l j:Nat):LV:=if l=0 then nilL else .own (j+2) 0 l 4
def cvI (l i j:Nat):LV:=if j<i then .own (j+2) 0 (l+1) 4 else cvL l j
def cI (n l i:Nat):List LV:=(List.range n).map (cvI l i)
def pU (cf:Nat→Nat→Rat) (l j:Nat):List Rat:=(List.range l).map fun l'=>cf l' j
def gQ (cf:Nat→Nat→Rat) (l i j:Nat):Blk:=⟨47,qc (pU cf (if j<i then l+1 else l) j),false⟩
def eC (n l i:Nat):Nat:=if l=0 then i else n
theorem bV4 (n l i:Nat):(cI n l i).length=n:=by simp[cI]
theorem bDr (l j:Nat):cvL (l+1) j= .own (j+2) 0 (l+1) 4:=if_neg (by omega)
theorem aFs (j:Nat):cvL 0 j=nilL:=rfl
theorem bJa (n l:Nat):cI n l n=cI n (l+1) 0:=by
 unfold cI
 refine List.map_congr_left (fun j hj=> ?_)
 unfold cvI
 rw[if_pos (List.mem_range.1 hj),if_neg (by omega),bDr]
theorem bDs (n:Nat):cI n 0 0=List.replicate n nilL:=by
 unfold cI
 have:cvI 0 0=fun _=>nilL:=by
  funext j
  unfold cvI
  rw[if_neg (by omega)]
  rfl
 rw[this,List.map_const',List.length_range]
theorem bV5 {n l i:Nat}(h:i<n):((cI n l i).drop i).head? =some (cvL l i):=by
 have:cvI l i i=cvL l i:=by unfold cvI;rw[if_neg (by omega)]
 simp[cI,h,this]
theorem aOe (cf:Nat→Nat→Rat) (l j:Nat):(pU cf l j).length=l:=by simp[pU]
theorem aXs (cf:Nat→Nat→Rat) (l j:Nat):pU cf (l+1) j=pU cf l j++[cf l j]:=by simp[pU,List.range_succ]
theorem wH {α:Type}{n i:Nat}(f:Nat→α) (x:α) (h:i<n):((List.range n).map f).set i x=(List.range n).map fun j=>if j=i then x else f j:=by
 refine List.ext_getElem (by simp) (fun j h1 h2=> ?_)
 rw[List.getElem_set]
 simp only[List.getElem_map,List.getElem_range]
 by_cases e:i=j
 ·rw[if_pos e,if_pos e.symm]
 ·rw[if_neg e,if_neg (fun x=>e x.symm)]
theorem aKt {l i j:Nat}(h:j<i):cvI l i j= .own (j+2) 0 (l+1) 4:=if_pos h
theorem aRm {l i j:Nat}(h:¬j<i):cvI l i j=cvL l j:=if_neg h
theorem qQ {nb b off n sz:Nat}{ρ:Nat→Nat}(h:b<nb):renL nb ρ (.own b off n sz)=some (.own (ρ b) off n sz):=by
 rw[renL,if_pos h]
theorem zL (ρ:List Nat) (τ:Nat→Nat) (j:Nat):jZ ρ 2 τ (j+2)=τ j:=by
 rw[lF,if_pos (by omega),Nat.add_sub_cancel]
theorem vQ {n l i:Nat}(h:l≠0):eC n l i=n:=if_neg h
theorem bV6 {n l i new:Nat}{ρ:List Nat}{τ:Nat→Nat}(h:i<n) (h1:∀ j,j<eC n l (i+1)→j≠i→τ j=j+2) (h2:τ i=new):renLs (eC n l (i+1)+2) (jZ ρ 2 τ) (cI n l (i+1))=some ((cI n l i).set i (.own new 0 (l+1) 4)):=by
 unfold cI
 rw[wH _ _ h]
 have hf:∀ j,j<n→(l=0→j<i+1)→j<eC n l (i+1):=fun j hj h0=>by
  unfold eC
  split
  ·exact h0 (by assumption)
  ·exact hj
 refine qP (fun j hj=> ?_)
 have hj:=List.mem_range.1 hj
 by_cases e:j=i
 ·subst e
  have hlt:=hf j hj (fun _=>by omega)
  rw[aKt (by omega),qQ (by omega),zL,h2,if_pos rfl]
 ·rw[if_neg e]
  by_cases c:j<i
  ·have hlt:=hf j hj (fun _=>by omega)
   rw[aKt (by omega),aKt c,qQ (by omega),zL,h1 j hlt e]
  ·rw[aRm (by omega),aRm c]
   by_cases hl:l=0
   ·subst hl
    rw[aFs]
    rfl
   ·have hlt:=hf j hj (fun h=>absurd h hl)
    have e2:cvL l j= .own (j+2) 0 l 4:=if_neg hl
    rw[e2,qQ (by omega),zL,h1 j hlt e]
attribute [local irreducible] lrun lwp exThen exBlk keep goodPost sg mg oc op ec pU cI fS
end
section
open Go Go.Lg Go.Num
def nW (b m:Nat):LV:=if m=0 then nilL else .own b 0 m 2
def nWB (b m:Nat) (cs:List LV):List (Nat×Blk):=if m=0 then[]else[(b,⟨80,cs,false⟩)]
theorem nW0 (b:Nat):nW b 0=nilL:=rfl
theorem nWs (b m:Nat):nW b (m+1)= .own b 0 (m+1) 2:=rfl
theorem nWn {b m:Nat}(h:¬m=0):nW b m= .own b 0 m 2:=if_neg h
theorem cLi (b m:Nat) (cs:List LV):nWB b (m+1) cs=[(b,⟨80,cs,false⟩)]:=rfl
def sC (S:Nat→LV×LV) (j:Nat):List LV:=(List.range j).flatMap fun j=>[(S j).1,(S j).2]
theorem aKu (S:Nat→LV×LV) (j:Nat):(sC S j).length=j*2:=by
 induction j with
 |zero=>rfl
 |succ j ih=>
  unfold sC at*
  rw[List.range_succ,List.flatMap_append,List.length_append,ih]
  simp
  omega
theorem aKv (S:Nat→LV×LV) (j:Nat):sC S (j+1)=sC S j++[(S j).1,(S j).2]:=by
 unfold sC
 rw[List.range_succ,List.flatMap_append]
 simp
theorem aUd {S:Nat→LV×LV}(hS:∀ j,gI (S j).1=true∧gI (S j).2=true) (n:Nat):∀ c∈sC S n,gI c=true:=by
 intro c hc
 simp only[sC,List.mem_flatMap]at hc
 obtain⟨j,_,h⟩:=hc
 simp only[List.mem_cons,List.not_mem_nil,or_false]at h
 rcases h with rfl |rfl
 ·exact(hS j).1
 ·exact(hS j).2
theorem aOf {S:Nat→LV×LV}(hS:∀ j,∃ a nn cs,(S j).1=i64 a∧(S j).2= .sl nn cs) (n:Nat):∀ c∈sC S n,aB c=true:=by
 intro c hc
 simp only[sC,List.mem_flatMap]at hc
 obtain⟨j,_,h⟩:=hc
 obtain⟨a,nn,cs,e1,e2⟩:=hS j
 simp only[List.mem_cons,List.not_mem_nil,or_false]at h
 rcases h with rfl |rfl
 ·rw[e1];rfl
 ·rw[e2];rfl
end
end Go.Proofs.YtaidcaemdkncgaaGreatDoor
namespace Go.Num
def ocD (te:Nat→Option Nat) (z:Nat→List Int) (p:Nat→Int) (j:Nat):Nat→Option Rat
 |0=>none
 |D+1=>match te D with
  |none=>ocD te z p j D
  |some e=>if j<(z e).length then some ((ocD te z p j D).getD 0+((p D:Int):Rat)*(((z e).getD j 0:Int):Rat))else ocD te z p j D
theorem aFt {te:Nat→Option Nat}{z:Nat→List Int}{p:Nat→Int}{D:Nat}(h:te D=none) (j:Nat):ocD te z p j (D+1)=ocD te z p j D:=by
 rw[ocD,h]
theorem qR {te:Nat→Option Nat}{z:Nat→List Int}{p:Nat→Int}{D e:Nat}(h:te D=some e) (j:Nat):ocD te z p j (D+1)=if j<(z e).length then some ((ocD te z p j D).getD 0+((p D:Int):Rat)*(((z e).getD j 0:Int):Rat))else ocD te z p j D:=by
 rw[ocD,h]
def cE (o0:Nat→Option Rat) (te:Nat→Nat→Option Nat) (z:Nat→List Int) (p:Nat→Int) (N D a j l:Nat):Option Rat:=
 if l=0 then o0 j else if l<N then ocD (te l) z p j l else if l=N then ocD (te N) z p j (if j<a then D+1 else D)else none
theorem bJb {o0:Nat→Option Rat}{te:Nat→Nat→Option Nat}{z:Nat→List Int}{p:Nat→Int}{N j l:Nat}(hN:1≤N):cE o0 te z p N N 0 j l=cE o0 te z p (N+1) 0 0 j l:=by
 unfold cE
 by_cases h0:l=0
 ·rw[if_pos h0,if_pos h0]
 ·rw[if_neg h0,if_neg h0]
  by_cases h1:l<N
  ·rw[if_pos h1,if_pos (by omega)]
  ·rw[if_neg h1]
   by_cases h2:l=N
   ·subst h2
    rw[if_pos rfl,if_neg (show¬j<0 by omega),if_pos (show l<l+1 by omega)]
   ·rw[if_neg h2,if_neg (by omega)]
    split
    ·rw[if_neg (by omega)];rfl
    ·rfl
theorem bJc {o0:Nat→Option Rat}{te:Nat→Nat→Option Nat}{z:Nat→List Int}{p:Nat→Int}{N D j l:Nat}(h:te N D=none):cE o0 te z p N D 0 j l=cE o0 te z p N (D+1) 0 j l:=by
 unfold cE
 split
 ·rfl
 ·split
  ·rfl
  ·split
   ·rw[if_neg (by omega),if_neg (by omega),aFt h]
   ·rfl
theorem bJd {o0:Nat→Option Rat}{te:Nat→Nat→Option Nat}{z:Nat→List Int}{p:Nat→Int}{N D j l e:Nat}(h:te N D=some e):cE o0 te z p N D (z e).length j l=cE o0 te z p N (D+1) 0 j l:=by
 unfold cE
 split
 ·rfl
 ·split
  ·rfl
  ·split
   ·rw[if_neg (show¬j<0 by omega)]
    split
    ·rfl
    ·rename_i h4
     rw[qR h,if_neg h4]
   ·rfl
theorem bDt {o0:Nat→Option Rat}{te:Nat→Nat→Option Nat}{z:Nat→List Int}{p:Nat→Int}{N D a j l:Nat}(h:j≠a):cE o0 te z p N D (a+1) j l=cE o0 te z p N D a j l:=by
 unfold cE
 split
 ·rfl
 ·split
  ·rfl
  ·split
   ·by_cases c:j<a
    ·rw[if_pos c,if_pos (by omega)]
    ·rw[if_neg c,if_neg (by omega)]
   ·rfl
theorem bJe {o0:Nat→Option Rat}{te:Nat→Nat→Option Nat}{z:Nat→List Int}{p:Nat→Int}{N D a l:Nat}(h:l≠N):cE o0 te z p N D (a+1) a l=cE o0 te z p N D a a l:=by
 unfold cE
 split
 ·rfl
 ·split
  ·rfl
  ·simp only[if_neg h]
theorem bV7 {o0:Nat→Option Rat}{te:Nat→Nat→Option Nat}{z:Nat→List Int}{p:Nat→Int}{N D a:Nat}(hN:1≤N):cE o0 te z p N D a a N=ocD (te N) z p a D:=by
 unfold cE
 rw[if_neg (by omega),if_neg (by omega),if_pos rfl,if_neg (by omega)]
theorem bV8 {o0:Nat→Option Rat}{te:Nat→Nat→Option Nat}{z:Nat→List Int}{p:Nat→Int}{N D a e:Nat}(hN:1≤N) (h:te N D=some e) (ha:a<(z e).length):cE o0 te z p N D (a+1) a N=some ((ocD (te N) z p a D).getD 0+((p D:Int):Rat)*(((z e).getD a 0:Int):Rat)):=by
 unfold cE
 rw[if_neg (by omega),if_neg (by omega),if_pos rfl,if_pos (by omega),qR h,if_pos ha]
def cL (o0:Nat→Option Rat) (te:Nat→Nat→Option Nat) (z:Nat→List Int) (p:Nat→Int) (P N D a j:Nat):List (Option Rat):=(List.range P).map (cE o0 te z p N D a j)
theorem aRn (o0:Nat→Option Rat) (te:Nat→Nat→Option Nat) (z:Nat→List Int) (p:Nat→Int) (P N D a j:Nat):(cL o0 te z p P N D a j).length=P:=by simp[cL]
theorem bV9 {o0:Nat→Option Rat}{te:Nat→Nat→Option Nat}{z:Nat→List Int}{p:Nat→Int}{P N D a j l:Nat}(h:l<P):(cL o0 te z p P N D a j).getD l none=cE o0 te z p N D a j l:=by simp[cL,h]
theorem bWa {o0:Nat→Option Rat}{te:Nat→Nat→Option Nat}{z:Nat→List Int}{p:Nat→Int}{P N D a e:Nat}(hN:1≤N) (h:te N D=some e) (ha:a<(z e).length):(cL o0 te z p P N D a a).set N (some ((ocD (te N) z p a D).getD 0+((p D:Int):Rat)*(((z e).getD a 0:Int):Rat)))=cL o0 te z p P N D (a+1) a:=by
 refine List.ext_getElem (by simp[cL]) (fun i h1 h2=> ?_)
 rw[List.getElem_set]
 simp only[cL,List.getElem_map,List.getElem_range]
 by_cases c:N=i
 ·subst c
  rw[if_pos rfl,bV8 hN h ha]
 ·rw[if_neg c,bJe (fun x=>c x.symm)]
def o0I (f:Nat→Rat) (i j:Nat):Option Rat:=if j<i then some (f j)else none
theorem aOg {te:Nat→Nat→Option Nat}{z:Nat→List Int}{p:Nat→Int}{P j:Nat}(o0:Nat→Option Rat) (h:o0 j=none):cL o0 te z p P 1 0 0 j=List.replicate P none:=by
 refine List.ext_getElem (by simp[cL]) (fun i h1 h2=> ?_)
 simp only[cL,List.getElem_map,List.getElem_range,List.getElem_replicate]
 unfold cE
 split
 ·exact h
 ·rw[if_neg (by omega)]
  split
  ·rw[if_neg (by omega)];rfl
  ·rfl
theorem bOj {te:Nat→Nat→Option Nat}{z:Nat→List Int}{p:Nat→Int}{P N D a j:Nat}{o0 o1:Nat→Option Rat}(h:o0 j=o1 j):cL o0 te z p P N D a j=cL o1 te z p P N D a j:=by
 unfold cL cE
 rw[h]
theorem bDu {te:Nat→Nat→Option Nat}{z:Nat→List Int}{p:Nat→Int}{P i:Nat}(f:Nat→Rat):(cL (o0I f i) te z p P 1 0 0 i).set 0 (some (f i))=cL (o0I f (i+1)) te z p P 1 0 0 i:=by
 refine List.ext_getElem (by simp[cL]) (fun l h1 h2=> ?_)
 rw[List.getElem_set]
 simp only[cL,List.getElem_map,List.getElem_range]
 by_cases c:0=l
 ·subst c
  rw[if_pos rfl]
  unfold cE o0I
  rw[if_pos rfl,if_pos (by omega)]
 ·rw[if_neg c]
  unfold cE
  have c':¬l=0:=fun x=>c x.symm
  simp only[if_neg c']
end Go.Num
namespace Go.Proofs.YtaidcaemdkncgaaGreatDoor
section
open Go Go.Lg Go.Num
attribute [local irreducible] lrun lwp exThen exBlk keep goodPost sg mg oc mC bq
theorem aCb (p:Int) (hp: -9223372036854775808≤p∧p≤9223372036854775807):PureGood Tryz.prog 83 [i64 p] (bl (decide (0≤p∧p≤1000))):=by
 by_cases h1:0≤p
 ·by_cases h2:p≤1000
  ·rw[qA ⟨h1,h2⟩]
   simp only[i64,bl]
   refine aA bC Tryz.func83 rfl (by decide) (nt:=9) rfl (rs:=[.tmp 2]) rfl (aZ rfl) ?_
   refine dM ?_
   exact mJ
  ·rw[nJ (fun e=>h2 e.2)]
   simp only[i64,bl]
   refine aA bC Tryz.func83 rfl (by decide) (nt:=9) rfl (rs:=[.tmp 2]) rfl (aZ rfl) ?_
   refine dM ?_
   exact mJ
 ·rw[nJ (fun e=>h1 e.1)]
  simp only[i64,bl]
  refine aA bC Tryz.func83 rfl (by decide) (nt:=9) rfl (rs:=[.tmp 2]) rfl (aZ rfl) ?_
  refine dM ?_
  exact mJ
end
section
open Go Go.Lg Go.Num
attribute [local irreducible] lrun lwp exThen exBlk keep goodPost sg mg oc op
def aXt (o:Nat→Option Rat) (t n:Nat):Option Rat:=if n % t=0 then o (n / t)else none
def rxE (o:Nat→Option Rat) (t m n:Nat):List LV:=if n<m∧n % t=0 then oqp (o (n / t))else oqc none
def rxC (o:Nat→Option Rat) (t m N:Nat):List LV:=(List.range N).flatMap (rxE o t m)
theorem aUe (o:Nat→Option Rat) (t m n:Nat):(rxE o t m n).length=4:=by
 unfold rxE
 split
 ·exact yX _
 ·exact yW _
theorem zM {f g:Nat→List LV}:∀ {L:List Nat},(∀ n∈L,f n=g n)→L.flatMap f=L.flatMap g
 |[],_=>rfl
 |n::L,h=>by rw[List.flatMap_cons,List.flatMap_cons,h n (by simp),zM (fun m hm=>h m (by simp[hm]))]
theorem aRo {f:Nat→List LV}(hf:∀ n,(f n).length=4):∀ N,((List.range N).flatMap f).length=N*4
 |0=>rfl
 |N+1=>by rw[List.range_succ,List.flatMap_append,List.length_append,aRo hf N];simp[hf];omega
theorem aOh {f g:Nat→List LV}(hf:∀ n,(f n).length=4) {j:Nat}(hg:∀ n,n≠j→g n=f n):∀ N,j<N→((List.range N).flatMap f).take (j*4)++g j++((List.range N).flatMap f).drop (j*4+4)=(List.range N).flatMap g
 |0,h=>by omega
 |N+1,h=>by
  have hl:=aRo hf N
  have ef:(List.range (N+1)).flatMap f=(List.range N).flatMap f++f N:=by rw[List.range_succ,List.flatMap_append];simp
  have eg:(List.range (N+1)).flatMap g=(List.range N).flatMap g++g N:=by rw[List.range_succ,List.flatMap_append];simp
  rw[ef,eg]
  by_cases e:j=N
  · subst e
    have h1:(List.range j).flatMap g=(List.range j).flatMap f:=by
      refine zM (fun n hn=>hg n ?_)
      have:=List.mem_range.1 hn
      omega
    rw[h1,← hl,List.take_left,show((List.range j).flatMap f).length+4=((List.range j).flatMap f++f j).length by rw[List.length_append,hf],List.drop_length,List.append_nil]
  · have ih:=aOh hf hg N (by omega)
    rw[List.take_append_of_le_length (by omega),List.drop_append_of_le_length (by omega),← ih,hg N (fun x=>e x.symm)]
    simp
theorem aUf (o:Nat→Option Rat) (t m N:Nat):(rxC o t m N).length=N*4:=aRo (aUe o t m) N
theorem bDw (o:Nat→Option Rat) (t N:Nat):rxC o t 0 N=oc (List.replicate N none):=by
 unfold rxC oc
 induction N with
 |zero=>rfl
 |succ N ih=>
  rw[List.range_succ,List.flatMap_append,ih,List.replicate_succ',List.flatMap_append]
  rfl
theorem bDx {o:Nat→Option Rat}{t m:Nat}(h:¬m % t=0) (N:Nat):rxC o t (m+1) N=rxC o t m N:=by
 unfold rxC
 refine zM (fun n _=> ?_)
 unfold rxE
 by_cases c:n % t=0
 ·have:n≠m:=fun e=>h (e ▸ c)
  by_cases d:n<m
  ·rw[if_pos ⟨by omega,c⟩,if_pos ⟨d,c⟩]
  ·rw[if_neg (fun x=>d (by omega)),if_neg (fun x=>d x.1)]
 ·rw[if_neg (fun x=>c x.2),if_neg (fun x=>c x.2)]
theorem bJf {o:Nat→Option Rat}{t m N:Nat}(h:m % t=0) (hm:m<N):(rxC o t m N).take (m*4)++oqp (o (m / t))++(rxC o t m N).drop (m*4+4)=rxC o t (m+1) N:=by
 have e:oqp (o (m / t))=rxE o t (m+1) m:=by
  unfold rxE
  rw[if_pos ⟨by omega,h⟩]
 rw[e]
 refine aOh (aUe o t m) (fun n hn=> ?_) N hm
 unfold rxE
 by_cases c:n % t=0
 ·by_cases d:n<m
  ·rw[if_pos ⟨by omega,c⟩,if_pos ⟨d,c⟩]
  ·rw[if_neg (fun x=>d (by omega)),if_neg (fun x=>d x.1)]
 ·rw[if_neg (fun x=>c x.2),if_neg (fun x=>c x.2)]
theorem bJg {h:Nat→Option Blk}{ok:Nat→Bool}{k:Nat}(o:Option Rat) {b rb:List LV}(hb:fG h ok (k+1) b=some (rb,[])):fG h ok (k+1) (oqp o++b)=some (oqp o++rb,[]):=by
 cases o with
 |none=>
  rw[oqp_none]
  simp only[List.cons_append,List.nil_append,jN,hb,xZ,Option.bind_some,Option.map_some]
  rfl
 |some q=>
  rw[oqp_some]
  simp only[List.cons_append,List.nil_append,jN,hb,qY (rQ _),qY (rR _),Option.bind_some,Option.map_some]
theorem bJh {h:Nat→Option Blk}{ok:Nat→Bool}{k:Nat}{b rb:List LV}(hb:fG h ok (k+1) b=some (rb,[])):fG h ok (k+1) (oqc none++b)=some (oqp none++rb,[]):=by
 rw[aE0,oqp_none]
 simp only[List.cons_append,List.nil_append,jN,hb,xZ,aIv,Option.bind_some,Option.map_some]
theorem aUg {h:Nat→Option Blk}{ok:Nat→Bool}{k:Nat}(o:Nat→Option Rat) (t m:Nat):∀ L:List Nat,fG h ok (k+1) (L.flatMap (rxE o t m))=some (L.flatMap (fun n=>oqp (if n<m∧n % t=0 then o (n / t)else none)),[])
 |[]=>rfl
 |n::L=>by
  have ih:=aUg (h:=h) (ok:=ok) (k:=k) o t m L
  rw[List.flatMap_cons,List.flatMap_cons]
  by_cases c:n<m∧n % t=0
  · have e:rxE o t m n=oqp (o (n / t)):=if_pos c
    rw[e,if_pos c]
    exact bJg _ ih
  · have e:rxE o t m n=oqc none:=if_neg c
    rw[e,if_neg c]
    exact bJh ih
theorem bWb {h:Nat→Option Blk}{ok:Nat→Bool}{k:Nat}(o:Nat→Option Rat) (t N:Nat):fG h ok (k+1) (rxC o t N N)=some (op (oP (aXt o t) N),[]):=by
 unfold rxC
 rw[aUg]
 congr 2
 unfold op oP
 rw[List.flatMap_map]
 refine zM (fun n hn=> ?_)
 have:=List.mem_range.1 hn
 unfold aXt
 by_cases c:n % t=0
 ·rw[if_pos ⟨this,c⟩,if_pos c]
 ·rw[if_neg (fun x=>c x.2),if_neg c]
theorem aXu (o:Option Rat):∀ c∈oqp o,aB c=true:=by
 cases o with
 |none=>intro c hc;simp[oqp]at hc;rcases hc with rfl |rfl |rfl |rfl <;>rfl
 |some q=>
  rw[oqp_some]
  intro c hc
  simp only[List.mem_cons,List.not_mem_nil,or_false]at hc
  rcases hc with rfl |rfl |rfl |rfl
  · exact s9 _
  · exact s10 _
  · exact s9 _
  · exact s10 _
theorem aIe (o:Nat→Option Rat) (t m N:Nat):∀ c∈rxC o t m N,aB c=true:=by
 intro c hc
 simp only[rxC,List.mem_flatMap]at hc
 obtain⟨n,_,h⟩:=hc
 unfold rxE at h
 split at h
 ·exact aXu _ c h
 ·exact aHt none c h
theorem ren_rx {nb:Nat}{ρ:Nat→Nat}(o:Nat→Option Rat) (t m N:Nat):renLs nb ρ (rxC o t m N)=some (rxC o t m N):=cJ (aIe o t m N)
theorem rx_plainT (o:Nat→Option Rat) (t m N:Nat):(∀ c∈rxC o t m N,aB c=true)=True:=eq_true (aIe o t m N)
theorem rx_take {o:Nat→Option Rat}{t m N:Nat}:(rxC o t m N).take (N*4)=rxC o t m N:=List.take_of_length_le (by rw[aUf];exact Nat.le_refl _)
attribute [local irreducible] rxC
theorem aOi (o:Nat→Option Rat) (N t:Nat) (hN:N≤1000) (ht1:1≤t) (ht:t≤1000):PureGood Tryz.prog 90 [.sl N (op (oP o N)),i64 t,bl false] (.sl N (op (oP (aXt o t) N))):=by
 have hl:=op_len (oP o N)
 rw[mE]at hl
 have hl2:∀ m,(rxC o t m N).length=N*4:=fun m=>aUf _ _ _ _
 have hpv:=fun(h:Nat→Option Blk) (ok:Nat→Bool) (k:Nat)=>bWb (h:=h) (ok:=ok) (k:=k) o t N
 simp only[i64,bl]at*
 refine aA bC Tryz.func90 rfl (by decide) (nt:=48) rfl (rs:=[.tmp 6]) rfl (aZ rfl) ?_
 refine bFu (nd hl hl2) ?_
 refine aI (α:={n:Nat // n≤N}) (fun n=>st 48 (lk [(0,.sl N (op (oP o N))),(1,i64 t),(2,bl false),(7,.own 0 0 N 4),(13,i64 N),(14,i64 n.1)]) (cP [(0,⟨47,rxC o t n.1 N,false⟩)]) 1) (fun n=>N-n.1) ⟨0,by omega⟩ ?_ ?_
 ·simp only[bDw]
  (refine Sub.heap1 3 ?_ (by simp only[aG,dg,renL,renLs,simprocAttr,bl,i64,smT,smO,hl,hl2,@rx_take,rx_plainT,@ren_rx];exact rfl) ?_ ?_;all_goals(first |exact aE _ |with_reducible rfl |(simp only[aG,dg,renL,renLs,simprocAttr,bl,i64,smT,smO,hl,hl2,@rx_take,rx_plainT,@ren_rx])|skip))
  all_goals(first |done |(rw[qJ]) |trace_state)
 ·rintro⟨n,hn⟩
  simp only[st]
  by_cases hlt:n<N
  ·have hq:n / t≤n:=Nat.div_le_self _ _
   have e1:=op_td (l:=oP o N) (s:=n / t) (by rw[mE];omega)
   rw[aKq (show n / t<N by omega)]at e1
   by_cases hd:n % t=0
   ·have hos:=bJf (o:=o) hd hlt
    have hol:=yX (o (n / t))
    cases ho:o (n / t)with
    |none=>
     rw[ho,oqp_none]at e1 hos
     generalize hqv:n / t=q at*
     refine bFu (nd hl (nd hl2 (nd e1 hqv))) ?_
     refine⟨⟨n+1,by omega⟩,?_,by simp only;omega⟩
     (refine Sub.heap1 0 ?_ (by simp only[aG,dg,renL,renLs,simprocAttr,bl,i64,smT,smO,hl,hl2,@rx_take,rx_plainT,@ren_rx];exact rfl) ?_ ?_;all_goals(first |exact aE _ |with_reducible rfl |(simp only[aG,dg,renL,renLs,simprocAttr,bl,i64,smT,smO,hl,hl2,@rx_take,rx_plainT,@ren_rx])|skip))
     all_goals(first |done |exact hos |trace_state)
    |some av=>
     rw[ho,oqp_some]at e1 hos
     generalize hqv:n / t=q at*
     refine bFu (nd hl (nd hl2 (nd e1 hqv))) ?_
     refine⟨⟨n+1,by omega⟩,?_,by simp only;omega⟩
     (refine Sub.heap1 0 ?_ (by simp only[aG,dg,renL,renLs,simprocAttr,bl,i64,smT,smO,hl,hl2,@rx_take,rx_plainT,@ren_rx];exact rfl) ?_ ?_;all_goals(first |exact aE _ |with_reducible rfl |(simp only[aG,dg,renL,renLs,simprocAttr,bl,i64,smT,smO,hl,hl2,@rx_take,rx_plainT,@ren_rx])|skip))
     all_goals(first |done |exact hos |trace_state)
   ·have hs:=bDx (o:=o) hd N
    refine bFu (nd hl hl2) ?_
    refine⟨⟨n+1,by omega⟩,?_,by simp only;omega⟩
    simp only[hs]
    (refine Sub.heap1 0 ?_ (by simp only[aG,dg,renL,renLs,simprocAttr,bl,i64,smT,smO,hl,hl2,@rx_take,rx_plainT,@ren_rx];exact rfl) ?_ ?_;all_goals(first |exact aE _ |with_reducible rfl |(simp only[aG,dg,renL,renLs,simprocAttr,bl,i64,smT,smO,hl,hl2,@rx_take,rx_plainT,@ren_rx])|skip))
    all_goals(first |done |trace_state)
  ·obtain rfl:n=N:=by omega
   (repeat(first|apply zO (by decide+kernel)|apply zP (by decide+kernel)|(apply zS;(case h=>constructor<;>decide))|((first|apply cD rfl|apply aR|apply zT rfl (by decide) rfl);(case hs=>(simp(disch:=first|omega|exact kD rfl|exact kX rfl) only[smY,simprocAttr,bl,i64,smT,smO,hl,hl2,@rx_take,hpv];exact rfl));first|refine cB ?_|refine cC ?_|refine zq ?_|(case hg=>assumption))))
   ((first|apply dG|apply dI);case hres=>(simp only[iC];simp(disch:=first|omega|exact kD rfl|exact kX rfl) only[smY,simprocAttr,bl,i64,smT,smO,hl,hl2,@rx_take,hpv];exact rfl))
   simp(disch:=first|omega|exact kD rfl|exact kX rfl) only[smY,simprocAttr,bl,i64,smT,smO,hl,hl2,@rx_take,hpv]
end
section
open Go Go.Lg Go.Num
attribute [local irreducible] lrun lwp exThen exBlk keep goodPost mutPost
end
section
open Go Go.Lg Go.Num
attribute [local irreducible] lrun lwp exThen exBlk keep goodPost sg mg oc mC bq
theorem aXv (d k:Nat) (hd1:1≤d) (hd:d≤1000) (hk:k≤40):PureGood Tryz.prog 88 [i64 d,i64 k] (aO ((d:Int)^k)):=by
 have g1:=jP (d:Int) (by omega)
 have hb:=jF d
 have hdl:(aC d).length≤1:=bT (k:=1) (by omega)
 have g2:=tN (d:Int) k (Nat.le_trans (bG (e:=1) (by omega)) (by omega)) (by
  rw[Int.natAbs_natCast]
  by_cases h:aK d≤1
  ·exact .inl h
  ·refine .inr ((Nat.le_div_iff_mul_le (by omega)).2 ?_)
   have:k*aK d≤40*32:=Nat.mul_le_mul hk (by omega)
   omega) (by omega)
 generalize (d:Int)^k=p at*
 simp only[aW,i64]at*
 refine aA bC Tryz.func88 rfl (by decide) (nt:=15) rfl (rs:=[.cell 4 45]) rfl (aZ rfl) ?_
 refine zU ?_
 exact zQ5
end
section
open Go Go.Lg Go.Num
theorem aKw {te:Nat→Option Nat}{k m n j:Nat}(hj:j<n):∀ D,(ocD te (zI m) (lS k) j D).getD 0=(vP te k m n D).getD j 0
 |0=>by simp[ocD,vP,List.getD,hj]
 |D+1=>by
  have ih:=aKw (te:=te) (k:=k) (m:=m) hj D
  unfold vP
  cases h:te D with
  |none=>rw[aFt h];exact ih
  |some e=>
   simp only
   rw[qR h,fO (by rw[sB,iW]),qO hj,← ih]
   by_cases c:j<(zI m e).length
   · rw[if_pos c];rfl
   · rw[if_neg c]
     have:(zI m e).getD j 0=0:=by simp[List.getD,Nat.le_of_not_lt c]
     rw[this,Rat.intCast_zero,Rat.mul_zero,Rat.add_zero]
theorem aUh {ix1 ix2:Nat→Option Nat}{m o1 o2 l D x:Nat}(hdv:l % (D+1)=0) (hx:l / (D+1)=x+1):(ix1 x=none→sY ix1 ix2 m o1 o2 l D=none)∧(ix2 D=none→sY ix1 ix2 m o1 o2 l D=none)∧∀ i j,ix1 x=some i→ix2 D=some j→sY ix1 ix2 m o1 o2 l D=some ((i*(m / o1)+j*(m / o2)) % m):=by
 have e:sY ix1 ix2 m o1 o2 l D=(match ix1 x,ix2 D with
  |some i,some j=>some ((i*(m / o1)+j*(m / o2)) % m)
  |_,_=>none):=by
  unfold sY
  rw[if_pos hdv,hx,Nat.add_sub_cancel]
  cases ix1 x <;>cases ix2 D <;>rfl
 rw[e]
 refine⟨fun h=>by rw[h],fun h=> ?_,fun i j h h'=>by rw[h,h']⟩
 rw[h]
 cases ix1 x <;>rfl
def kI (n P i:Nat):List LV:=(List.range n).map fun j=>if j<i then .own (j+4) 0 P 4 else nilL
theorem aKx (n P i:Nat):(kI n P i).length=n:=by simp[kI]
theorem aRp {n P i a:Nat}(h:a<n) (hi:a<i):((kI n P i).drop a).head? =some (.own (a+4) 0 P 4):=by simp[kI,h,hi]
theorem bJi {n P i:Nat}(h:i<n):((kI n P i).drop i).head? =some nilL:=by simp[kI,h]
theorem bJj (n P:Nat):kI n P 0=List.replicate n nilL:=by
 unfold kI
 have:(fun j=>if j<0 then LV.own (j+4) 0 P 4 else nilL)=fun _=>nilL:=by
  funext j
  rw[if_neg (by omega)]
 rw[this,List.map_const',List.length_range]
theorem cGb (ρ:List Nat) (τ:Nat→Nat) (j:Nat):jZ ρ 4 τ (j+4)=τ j:=by
 rw[lF,if_pos (by omega),Nat.add_sub_cancel]
theorem oH (ρ:List Nat) (τ:Nat→Nat) {b:Nat}(h:b<4):jZ ρ 4 τ b=ρ.getD b 0:=by
 rw[lF,if_neg (by omega)]
theorem aXw {nb b off n sz:Nat}{ρ:Nat→Nat}(h:b<nb):renL nb ρ (.own b off n sz)=some (.own (ρ b) off n sz):=by
 rw[renL,if_pos h]
theorem bDy {n P i M:Nat}{ρ:List Nat}{τ:Nat→Nat}(hM:∀ j,j<i→j<n→j<M):renLs (M+4) (jZ ρ 4 τ) (kI n P i)=some ((List.range n).map fun j=>if j<i then .own (τ j) 0 P 4 else nilL):=by
 unfold kI
 refine qP (fun j hj=> ?_)
 have hj:=List.mem_range.1 hj
 by_cases c:j<i
 ·have:=hM j c hj
  rw[if_pos c,if_pos c,aXw (by omega),cGb]
 ·rw[if_neg c,if_neg c];rfl
theorem bWc {f:Nat→LV}{h:Nat→Option Blk}{nb nt M c y x:Nat}{L:List (Nat×LV)}{b0:Blk}{ty:TypeId}{C C':List LV}{g:Nat→Blk}{τ:Nat→Nat}{E:List (Nat×Blk)}(F0:h 0=some b0) (p0:∀ c∈b0.cells,aB c=true) (F1:h c=some ⟨ty,C',false⟩) (hC:renLs (M+4) (jZ [0,c,y,x] 4 τ) C=some C') (FI:∀ j,j<M→h (τ j)=some (g j)) (gp:∀ j,j<M→∀ c∈(g j).cells,aB c=true)
  (hE:∀ p∈E,(p.1=2∨p.1=3)∧h ([0,c,y,x].getD p.1 0)=some p.2∧∀ c∈p.2.cells,aB c=true) (hyx:0<c∧0<y∧0<x∧y≠x∧c≠y∧c≠x) (hτ:∀ i j,i<M→j<M→τ i=τ j→i=j) (hτ1:∀ j,j<M→0<τ j∧c≠τ j∧y≠τ j∧x≠τ j)
  (hf:∀ p∈L,renL (M+4) (jZ [0,c,y,x] 4 τ) p.2=some (f p.1)):Sub 0 ⟨nt,f,h,nb⟩ ⟨nt,lk L,dX ((0,b0)::(1,⟨ty,C,false⟩)::E) 4 M g,M+4⟩:=by
 refine Sub.fam [0,c,y,x] τ rfl rfl ?_ hf ?_ ?_ FI gp hτ (fun j hj b hb=> ?_)
 ·simp;omega
 ·intro p hp
  simp only[List.mem_cons]at hp
  rcases hp with rfl |rfl |hp
  ·simp
  ·simp
  ·rcases(hE p hp).1 with h |h <;>simp[h]
 ·intro p hp
  simp only[List.mem_cons]at hp
  rcases hp with rfl |rfl |hp
  ·exact⟨_,F0,cJ p0⟩
  ·exact⟨_,F1,hC⟩
  ·exact⟨_,(hE p hp).2.1,cJ (hE p hp).2.2⟩
 ·have:=hτ1 j hj
  simp only[List.mem_cons,List.not_mem_nil,or_false]at hb
  omega
theorem aOj {n P i new:Nat}{ρ:List Nat}{τ:Nat→Nat}(hi:i<n) (h1:∀ j,j<i→τ j=j+4) (h2:τ i=new):renLs (i+1+4) (jZ ρ 4 τ) (kI n P (i+1))=some ((kI n P i).set i (.own new 0 P 4)):=by
 rw[bDy (M:=i+1) (fun j h _=>h)]
 congr 1
 unfold kI
 rw[wH _ _ hi]
 refine List.map_congr_left (fun j _=> ?_)
 by_cases e:j=i
 ·subst e
  rw[if_pos (by omega),if_pos rfl,h2]
 ·rw[if_neg e]
  by_cases c:j<i
  ·rw[if_pos (by omega),if_pos c,h1 j c]
  ·rw[if_neg (by omega),if_neg c]
theorem aXx {n P:Nat}{ρ:List Nat}:renLs (n+4) (jZ ρ 4 fun j=>j+4) (kI n P n)=some (kI n P n):=by
 rw[bDy (M:=n) (fun j h _=>h)]
 rfl
theorem aUi {f:Nat→LV}{h:Nat→Option Blk}{nb nt n P y x:Nat}{L:List (Nat×LV)}{b0:Blk}{ty:TypeId}{g:Nat→Blk}{E:List (Nat×Blk)}(F0:h 0=some b0) (p0:∀ c∈b0.cells,aB c=true) (F1:h 1=some ⟨ty,kI n P n,false⟩) (FI:∀ j,j<n→h (j+4)=some (g j)) (gp:∀ j,j<n→∀ c∈(g j).cells,aB c=true)
  (hE:∀ p∈E,(p.1=2∨p.1=3)∧h ([0,1,y,x].getD p.1 0)=some p.2∧∀ c∈p.2.cells,aB c=true) (hyx:1<y∧1<x∧y≠x∧(y<4∨n+4≤y)∧(x<4∨n+4≤x))
  (hf:∀ p∈L,renL (n+4) (jZ [0,1,y,x] 4 fun j=>j+4) p.2=some (f p.1)):Sub 0 ⟨nt,f,h,nb⟩ ⟨nt,lk L,dX ((0,b0)::(1,⟨ty,kI n P n,false⟩)::E) 4 n g,n+4⟩:=
 bWc (c:=1) (τ:=fun j=>j+4) F0 p0 F1 aXx FI gp hE (by omega) (fun i j _ _ e=>by omega) (fun j hj=>by omega) hf
def zc (m i:Nat):List LV:=(List.range m).map fun e=>if e<i then .sl (zI m e).length (qc (rz (zI m e)))else nilL
theorem bDz (m i:Nat):(zc m i).length=m:=by simp[zc]
theorem aUj (m:Nat):zc m 0=List.replicate m nilL:=by
 unfold zc
 have:(fun e=>if e<0 then LV.sl (zI m e).length (qc (rz (zI m e)))else nilL)=fun _=>nilL:=by
  funext j
  rw[if_neg (by omega)]
 rw[this,List.map_const',List.length_range]
theorem bWd {m i:Nat}(h:i<m):(zc m i).set i (.sl (zI m i).length (qc (rz (zI m i))))=zc m (i+1):=by
 unfold zc
 refine List.ext_getElem (by simp) (fun j h1 h2=> ?_)
 rw[List.getElem_set]
 simp only[List.getElem_map,List.getElem_range]
 by_cases e:i=j
 ·subst e
  rw[if_pos rfl,if_pos (by omega)]
 ·rw[if_neg e]
  by_cases c:j<i
  ·rw[if_pos c,if_pos (by omega)]
  ·rw[if_neg c,if_neg (by omega)]
theorem bWe {m e:Nat}(h:e<m):((zc m m).drop e).head? =some (.sl (zI m e).length (qc (rz (zI m e)))):=by simp[zc,h]
theorem aFu (m i:Nat):∀ c∈zc m i,aB c=true:=by
 intro c hc
 simp only[zc,List.mem_map]at hc
 obtain⟨e,_,rfl⟩:=hc
 split <;>rfl
def gO (l:Nat→List (Option Rat)) (j:Nat):Blk:=⟨47,oc (l j),false⟩
theorem aFv (l:Nat→List (Option Rat)) (j:Nat):∀ c∈(gO l j).cells,aB c=true:=qK _
theorem aOk {o0:Nat→Option Rat}{te:Nat→Nat→Option Nat}{z:Nat→List Int}{p:Nat→Int}{P N D a j:Nat}(h:j≠a):cL o0 te z p P N D (a+1) j=cL o0 te z p P N D a j:=List.map_congr_left (fun l _=>bDt h)
theorem bJk {o0:Nat→Option Rat}{te:Nat→Nat→Option Nat}{z:Nat→List Int}{p:Nat→Int}{P N j:Nat}(hN:1≤N):cL o0 te z p P N N 0 j=cL o0 te z p P (N+1) 0 0 j:=List.map_congr_left (fun l _=>bJb hN)
theorem aC6 {o0:Nat→Option Rat}{te:Nat→Nat→Option Nat}{z:Nat→List Int}{p:Nat→Int}{P N D j:Nat}(h:te N D=none):cL o0 te z p P N D 0 j=cL o0 te z p P N (D+1) 0 j:=List.map_congr_left (fun l _=>bJc h)
theorem bJl {o0:Nat→Option Rat}{te:Nat→Nat→Option Nat}{z:Nat→List Int}{p:Nat→Int}{P N D j e:Nat}(h:te N D=some e):cL o0 te z p P N D (z e).length j=cL o0 te z p P N (D+1) 0 j:=List.map_congr_left (fun l _=>bJd h)
def gOz (l:Nat→List (Option Rat)) (i j:Nat):Blk:=⟨47,oc (l j),decide (j<i)⟩
theorem aIf (l:Nat→List (Option Rat)) (i j:Nat):∀ c∈(gOz l i j).cells,aB c=true:=qK _
theorem lU {ops:Array Oper}{base i k:Nat}(h:okD ops 0 i k=true):okD ops base i (base+k)=true:=by
 unfold okD at*
 rw[Nat.add_sub_cancel_left]
 simp only[Nat.not_lt_zero,decide_false,Bool.false_or,Nat.sub_zero]at h
 rw[h,Bool.or_true]
theorem bWf {P:Program}[Laid P] {na:Nat}{ops:Array Oper}{draw:Bool}{b c:Code}{Φ:Exit→LS→Prop}{s:LS}(h:lwp P na (.seq (.seq (.region 23 ops draw) c) b) Φ s):lwp P na (.seq (.seq (.region 23 ops draw) c) b) Φ s:=h
end
section
open Go Go.Lg Go.Num
theorem sF (ρ:List Nat) (τ:Nat→Nat) {b:Nat}(h:b<2):jZ ρ 2 τ b=ρ.getD b 0:=by
 rw[lF,if_neg (by omega)]
theorem bJm {n l i:Nat}(h:i≤n):renLs (eC n l i+2) (jZ [0,1] 2 (fun j=>j+2)) (cI n l i)=some (cI n l i):=by
 unfold cI
 refine qP (fun j hj=> ?_)
 have hj:=List.mem_range.1 hj
 by_cases c:j<i
 ·have:j<eC n l i:=by unfold eC;split <;>omega
  rw[aKt c,qQ (by omega),zL]
 ·rw[aRm c]
  by_cases hl:l=0
  ·subst hl
   rw[aFs]
   rfl
  ·have:j<eC n l i:=by rw[vQ hl];exact hj
   have e2:cvL l j= .own (j+2) 0 l 4:=if_neg hl
   rw[e2,qQ (by omega),zL]
theorem aUk (cf:Nat→Nat→Rat) (j:Nat):qc (pU cf 0 j)=[]:=rfl
theorem aOl (cf:Nat→Nat→Rat) (l i j:Nat):∀ c∈(gQ cf l i j).cells,aB c=true:=of_eq_true (aEt _)
theorem zN {f:Nat→LV}{h:Nat→Option Blk}{nb n l i:Nat}{L:List (Nat×LV)}{b0:Blk}{ty:TypeId}{cf:Nat→Nat→Rat}(hi:i≤n) (F0:h 0=some b0) (F1:h 1=some ⟨ty,cI n l i,false⟩) (FI:∀ j,j<eC n l i→h (j+2)=some (gQ cf l i j)) (p0:∀ c∈b0.cells,aB c=true)
  (hf:∀ p∈L,renL (eC n l i+2) (jZ [0,1] 2 fun j=>j+2) p.2=some (f p.1)):Sub 0 ⟨160,f,h,nb⟩ ⟨160,lk L,dX [(0,b0),(1,⟨ty,cI n l i,false⟩)] 2 (eC n l i) (gQ cf l i),eC n l i+2⟩:=by
 refine Sub.fam [0,1] (fun j=>j+2) rfl rfl (by decide) hf (by simp) ?_ FI (fun j _=>aOl cf l i j) (fun i j _ _ e=>by omega) (fun i _ b hb=>by simp at hb;omega)
 simp only[List.forall_mem_cons,List.not_mem_nil,false_imp_iff,implies_true,and_true,List.getD_cons_zero,List.getD_cons_succ]
 exact⟨⟨_,F0,cJ p0⟩,⟨_,F1,bJm hi⟩⟩
theorem aIg {f:Nat→LV}{h:Nat→Option Blk}{nb n l i new:Nat}{L:List (Nat×LV)}{b0:Blk}{ty:TypeId}{cf:Nat→Nat→Rat}(hi:i<n) (hnew:eC n l i+2≤new) (F0:h 0=some b0) (F1:h 1=some ⟨ty,(cI n l i).set i (.own new 0 (l+1) 4),false⟩) (FI:∀ j,j<eC n l i→j≠i→h (j+2)=some (gQ cf l i j)) (FN:h new=some ⟨47,qc (pU cf l i)++cZ (cf l i),false⟩) (p0:∀ c∈b0.cells,aB c=true)
  (hf:∀ p∈L,renL (eC n l (i+1)+2) (jZ [0,1] 2 fun j=>if j=i then new else j+2) p.2=some (f p.1)):Sub 0 ⟨160,f,h,nb⟩ ⟨160,lk L,dX [(0,b0),(1,⟨ty,cI n l (i+1),false⟩)] 2 (eC n l (i+1)) (gQ cf l (i+1)),eC n l (i+1)+2⟩:=by
 have hlt:∀ j,j<eC n l (i+1)→j≠i→j<eC n l i:=fun j h1 h2=>by
  unfold eC at*
  split at h1 <;>split <;>omega
 refine Sub.fam [0,1] (fun j=>if j=i then new else j+2) rfl rfl (by decide) hf (by simp) ?_ ?_ (fun j _=>aOl cf l (i+1) j) ?_ ?_
 ·simp only[List.forall_mem_cons,List.not_mem_nil,false_imp_iff,implies_true,and_true,List.getD_cons_zero,List.getD_cons_succ]
  exact⟨⟨_,F0,cJ p0⟩,⟨_,F1,bV6 hi (fun j _ hj=>if_neg hj) (if_pos rfl)⟩⟩
 ·intro j hj
  by_cases e:j=i
  ·subst e
   rw[if_pos rfl,FN]
   unfold gQ
   rw[if_pos (by omega),aXs]
   simp only[qc,List.flatMap_append,List.flatMap_cons,List.flatMap_nil,List.append_nil]
  ·rw[if_neg e,FI j (hlt j hj e) e]
   unfold gQ
   by_cases c:j<i
   ·rw[if_pos c,if_pos (by omega)]
   ·rw[if_neg c,if_neg (by omega)]
 ·intro j j' hj hj' e
  have a1:=hlt j hj
  have a2:=hlt j' hj'
  by_cases c:j=i <;>by_cases c':j'=i
  ·omega
  ·have:=a2 c'
   rw[if_pos c,if_neg c']at e
   omega
  ·have:=a1 c
   rw[if_neg c,if_pos c']at e
   omega
  ·rw[if_neg c,if_neg c']at e
   omega
 ·intro j hj b hb
  simp only[List.mem_cons,List.not_mem_nil,or_false]at hb
  split <;>omega
def cK (n prec:Nat):List LV:=(List.range n).map fun j=>if prec=0 then nilL else .own (j+3) 0 prec 4
def gK (cf:Nat→Nat→Rat) (prec i j:Nat):Blk:=⟨47,qc (pU cf prec j),decide (j<i)⟩
theorem bWg (n prec:Nat):(cK n prec).length=n:=by simp[cK]
theorem bWh {n prec i:Nat}(h:i<n):((cK n prec).drop i).head? =some (if prec=0 then nilL else .own (i+3) 0 prec 4):=by simp[cK,h]
theorem aUl (n prec:Nat):cK n prec=(List.range n).map fun j=>if prec=0 then nilL else .own (j+3) 0 prec 4:=rfl
theorem cGc (ρ:List Nat) (τ:Nat→Nat) (j:Nat):jZ ρ 3 τ (j+3)=τ j:=by
 rw[lF,if_pos (by omega),Nat.add_sub_cancel]
theorem uO (ρ:List Nat) (τ:Nat→Nat) {b:Nat}(h:b<3):jZ ρ 3 τ b=ρ.getD b 0:=by
 rw[lF,if_neg (by omega)]
theorem bWi {n prec:Nat}{ρ:List Nat}{τ:Nat→Nat}{f:Nat→LV}(hf:∀ j,j<n→f j=if prec=0 then nilL else .own (τ j) 0 prec 4):renLs (eC n prec 0+3) (jZ ρ 3 τ) (cK n prec)=some ((List.range n).map f):=by
 unfold cK
 refine qP (fun j hj=> ?_)
 have hj:=List.mem_range.1 hj
 rw[hf j hj]
 by_cases h:prec=0
 ·rw[if_pos h,if_pos h];rfl
 ·rw[if_neg h,if_neg h,qQ (by rw[vQ h];omega),cGc]
theorem bD0 (cf:Nat→Nat→Rat) (l i j:Nat):∀ c∈(gK cf l i j).cells,aB c=true:=of_eq_true (aEt _)
theorem zQ {f:Nat→LV}{h:Nat→Option Blk}{nb n prec i' x:Nat}{L:List (Nat×LV)}{b0:Blk}{ty:TypeId}{cf:Nat→Nat→Rat}{S:Nat→LV×LV}{τ:Nat→Nat}(hS:∀ j,∃ a nn cs,(S j).1=i64 a∧(S j).2= .sl nn cs) (F0:h 0=some b0) (F1:h 1=some ⟨ty,(List.range n).map fun j=>if prec=0 then nilL else .own (τ j) 0 prec 4,false⟩) (FI:∀ j,j<eC n prec 0→h (τ j)=some (gK cf prec i' j)) (F2:i'≠0→h x=some ⟨80,sC S i',false⟩) (p0:∀ c∈b0.cells,aB c=true)
  (hx:1<x) (hτ:∀ i j,τ i=τ j→i=j) (hτ1:∀ j,j<eC n prec 0→1<τ j∧x≠τ j)
  (hf:∀ p∈L,renL (eC n prec 0+3) (jZ [0,1,x] 3 τ) p.2=some (f p.1)):Sub 0 ⟨160,f,h,nb⟩ ⟨160,lk L,dX ((0,b0)::(1,⟨ty,cK n prec,false⟩)::nWB 2 i' (sC S i')) 3 (eC n prec 0) (gK cf prec i'),eC n prec 0+3⟩:=by
 refine Sub.fam [0,1,x] τ rfl rfl ?_ hf ?_ ?_ FI (fun j _=>bD0 cf prec i' j) (fun i j _ _ e=>hτ i j e) (fun j hj b hb=> ?_)
 ·simp;omega
 ·unfold nWB
  split <;>simp
 ·have h01:∀ p∈[((0:Nat),b0),(1,⟨ty,cK n prec,false⟩)],∃ cs,h ([0,1,x].getD p.1 0)=some ⟨p.2.ty,cs,p.2.fz⟩∧renLs (eC n prec 0+3) (jZ [0,1,x] 3 τ) p.2.cells=some cs:=by
   simp only[List.forall_mem_cons,List.not_mem_nil,false_imp_iff,implies_true,and_true,List.getD_cons_zero,List.getD_cons_succ]
   exact⟨⟨_,F0,cJ p0⟩,⟨_,F1,bWi (fun j _=>rfl)⟩⟩
  intro p hp
  unfold nWB at hp
  by_cases h0:i'=0
  ·rw[if_pos h0]at hp
   exact h01 p hp
  ·rw[if_neg h0]at hp
   simp only[List.mem_cons,List.not_mem_nil,or_false]at hp
   rcases hp with rfl |rfl |rfl
   ·exact h01 _ (by simp)
   ·exact h01 _ (by simp)
   ·exact⟨_,F2 h0,cJ (aOf hS i')⟩
 ·have:=hτ1 j hj
  simp only[List.mem_cons,List.not_mem_nil,or_false]at hb
  omega
theorem aC7 {ops:Array Oper}{base i k:Nat}(h:okD ops 0 i k=true):okD ops base i (base+k)=true:=by
 unfold okD at*
 rw[Nat.add_sub_cancel_left]
 simp only[Nat.not_lt_zero,decide_false,Bool.false_or,Nat.sub_zero]at h
 rw[h,Bool.or_true]
theorem bWj {P:Program}[Laid P] {na:Nat}{ops:Array Oper}{draw:Bool}{b c:Code}{Φ:Exit→LS→Prop}{s:LS}(h:lwp P na (.seq (.seq (.region 25 ops draw) c) b) Φ s):lwp P na (.seq (.seq (.region 25 ops draw) c) b) Φ s:=h
theorem bOl {P:Program}[Laid P] {na:Nat}{ops:Array Oper}{draw:Bool}{b:Code}{Φ:Exit→LS→Prop}{s:LS}(h:lwp P na (.seq (.region 8 ops draw) b) Φ s):lwp P na (.seq (.region 8 ops draw) b) Φ s:=h
attribute [local irreducible] lrun lwp exThen exBlk keep goodPost sg mg oc op ec pU cI fS sC cK
theorem aKy {k prec m n T:Nat}{n1 n2:Nat}{x1 x2 y1 y2:LV}{b1 b2 tr:Bool}(hx1:∃ a c,x1= .sl a c) (hx2:∃ a c,x2= .sl a c) (k1:2≤k) (k2:k≤40) (hn1:1≤n) (hn2:n≤12) (hp:prec≤20) (m1:1≤m) (m2:m≤1000) (T1:1≤T) (T2:T≤1000)
  (htr:tr=(decide ((n1:Int)=1) && decide ((n2:Int)=1))) (hpar:(b1==b2)=decide (k % 2=0)) (hk:¬(k=2∧tr=true∧T=1)) (cf:Nat→Nat→Rat)
  (gform:PureGood Tryz.prog 91 [.agg [i64 n1,x1,i64 n2,x2,i64 T]] (i64 0)) (gord:PureGood Tryz.prog 92 [.agg [i64 n1,x1],.agg [i64 n2,x2]] (i64 m))
  (ge1:PureGood Tryz.prog 93 [.agg [i64 n1,x1],i64 (-1),i64 (2*(m:Int))] (i64 (if b1 then 0 else(m:Int)))) (ge2:PureGood Tryz.prog 93 [.agg [i64 n2,x2],i64 (-1),i64 (2*(m:Int))] (i64 (if b2 then 0 else(m:Int))))
  (gphi:PureGood Tryz.prog 94 [i64 m] (i64 n))
  (hc0:∃ Z:List Rat,Z.length=n∧(∀ j,j<n→Z.getD j 0=cf 0 j)∧PureGood Tryz.prog 95 [i64 k,.agg [i64 n1,x1,i64 n2,x2,i64 T],i64 m,i64 n] (.sl n (qc Z)))
  (hc1:∀ l,1≤l→l<prec→∃ Z:List Rat,Z.length=n∧(∀ j,j<n→Z.getD j 0=cf l j)∧PureGood Tryz.prog 96 [i64 k,.agg [i64 n1,x1,i64 n2,x2,i64 T],i64 m,i64 n,i64 l] (.sl n (qc Z)))
  (R S:Nat→LV×LV) (hR:∀ j,gI (R j).1=true∧gI (R j).2=true∧∃ a nn cs,(R j).1=i64 a∧(R j).2= .sl nn cs) (hS:∀ j,gI (S j).1=true∧gI (S j).2=true∧∃ a nn cs,(S j).1=i64 a∧(S j).2= .sl nn cs)
  (gres:∀ j,j<n→PureGood Tryz.prog 97 [i64 0,.sl prec (qc (pU cf prec j))] (.tup [.agg [(R j).1,(R j).2],i64 0]))
  (gat:∀ j,j<n→PureGood Tryz.prog 98 [.agg [(R j).1,(R j).2],i64 k,i64 T,bl tr,i64 prec] (.agg [(S j).1,(S j).2])):
  PureGood Tryz.prog 27 [i64 k,.agg [i64 n1,x1,i64 n2,x2,i64 T],i64 prec] (.tup [.sl n (sC S n),i64 0]):=by
 obtain⟨a1,d1,rfl⟩:=hx1
 obtain⟨a2,d2,rfl⟩:=hx2
 have hkm:(k:Int) % 2=((k % 2:Nat):Int):=rfl
 obtain⟨sv,hsv,hsm⟩:∃ sv:Nat,((if b1 then 0 else(m:Int))+(if b2 then 0 else(m:Int))) % (2*(m:Int))=(sv:Int)∧((sv=0)=(k % 2=0)):=by
  refine⟨if b1=b2 then 0 else m,?_,?_⟩
  ·cases b1 <;>cases b2 <;>simp
   all_goals(first |done |(rw[show(m:Int)+m=2*m by omega,Int.emod_self]) |(rw[Int.emod_eq_of_lt (by omega) (by omega)]))
  ·cases b1 <;>cases b2 <;>simp_all <;>omega
 have gi1:PureGood Tryz.prog 93 [.agg [i64 n1,.sl a1 d1],i64 (-1),i64 (2*(m:Int))] (i64 (if b1 then 0 else(m:Int))):=ge1
 have gi2:PureGood Tryz.prog 93 [.agg [i64 n2,.sl a2 d2],i64 (-1),i64 (2*(m:Int))] (i64 (if b2 then 0 else(m:Int))):=ge2
 have he1:∃ e1:Int,(if b1 then 0 else(m:Int))=e1∧0≤e1∧e1≤1000:=⟨_,rfl,by split <;>omega,by split <;>omega⟩
 have he2:∃ e2:Int,(if b2 then 0 else(m:Int))=e2∧0≤e2∧e2≤1000:=⟨_,rfl,by split <;>omega,by split <;>omega⟩
 obtain⟨e1,q1,r1,s1⟩:=he1
 obtain⟨e2,q2,r2,s2⟩:=he2
 rw[q1,q2]at hsv
 rw[q1]at gi1
 rw[q2]at gi2
 clear ge1 ge2
 have htm:(e1+e2).tmod (2*(m:Int))=(sv:Int):=by rw[Int.tmod_eq_emod_of_nonneg (by omega)];exact hsv
 have hkt:(k:Int).tmod 2=((k % 2:Nat):Int):=by rw[Int.tmod_eq_emod_of_nonneg (by omega)];rfl
 have hpz:(((e1+e2) % (2*(m:Int)))==0)=((k:Int) % 2==0):=by
  rw[hsv,hkm]
  by_cases h:k % 2=0
  ·have h1:sv=0:=by rw[hsm];exact h
   rw[h,h1]
  ·have h1:sv≠0:=fun x=>h (by rw[← hsm];exact x)
   rw[beq_eq_false_iff_ne.2 (by omega),beq_eq_false_iff_ne.2 (by omega)]
 simp only[i64]at*
 refine aA bC Tryz.func27 rfl (by decide) (nt:=160) rfl (rs:=[.tmp 6,.tmp 7]) rfl (aZ rfl) ?_
 (repeat((fail_if_success (refine bOl ?_));first|apply zO (by decide+kernel)|apply zP (by decide+kernel)|(apply zS;(case h=>constructor<;>decide))|((first|apply cD rfl|apply aR|apply zT rfl (by decide) rfl);(case hs=>(simp(disch:=first|omega|exact kD rfl|exact kX rfl) only[smY,simprocAttr,bl,i64,smT,smO,smE,htm,hkt];exact rfl));first|refine cB ?_|refine cC ?_|refine zq ?_|(case hg=>assumption))))
 refine aDl (α:=Unit) (fun _=>st 160 (lk [(0,.lit (.int .i64 k)),(2,.lit (.int .i64 prec)),(4,.ptr 0 0),(9,.lit (.int .i64 m)),(10,.lit (.int .i64 (e1+e2))),(11,bl tr)]) (cP [(0,⟨58,[.lit (.int .i64 n1),.sl a1 d1,.lit (.int .i64 n2),.sl a2 d2,.lit (.int .i64 T)],false⟩)]) 1) ?_ ?_
 ·by_cases h1:(n1:Int)=1
  ·by_cases h2:(n2:Int)=1
   ·have ht:tr=true:=by rw[htr,decide_eq_true h1,decide_eq_true h2];rfl
    subst ht
    (repeat(first|apply zO (by decide+kernel)|apply zP (by decide+kernel)|(apply zS;(case h=>constructor<;>decide))|((first|apply cD rfl|apply aR|apply zT rfl (by decide) rfl);(case hs=>(simp(disch:=first|omega|exact kD rfl|exact kX rfl) only[smY,simprocAttr,bl,i64,smT,smO,smE,htm,hkt,h1,h2];exact rfl));first|refine cB ?_|refine cC ?_|refine zq ?_|(case hg=>assumption))))
    refine⟨(),?_⟩
    (refine Sub.heapL [0] rfl (by decide) ?_ (by simp only[fB];decide) ?_ ?_;all_goals(first|(simp only[aB,aG,dg,renL,renLs,simprocAttr,bl,i64,smT,smO,smE,htm,hkt,h1,h2];done) |(simp only[aG,dg,renL,renLs,simprocAttr,bl,i64,smT,smO,smE,htm,hkt,h1,h2];(repeat' apply And.intro);all_goals rfl) |(simp only[aG,dg,renL,renLs,simprocAttr,bl,i64,smT,smO,smE,htm,hkt,h1,h2]) |skip))
    all_goals(first |done |trace_state)
   ·have ht:tr=false:=by rw[htr,decide_eq_true h1,decide_eq_false h2];rfl
    subst ht
    (repeat(first|apply zO (by decide+kernel)|apply zP (by decide+kernel)|(apply zS;(case h=>constructor<;>decide))|((first|apply cD rfl|apply aR|apply zT rfl (by decide) rfl);(case hs=>(simp(disch:=first|omega|exact kD rfl|exact kX rfl) only[smY,simprocAttr,bl,i64,smT,smO,smE,htm,hkt,h1,h2];exact rfl));first|refine cB ?_|refine cC ?_|refine zq ?_|(case hg=>assumption))))
    refine⟨(),?_⟩
    (refine Sub.heapL [0] rfl (by decide) ?_ (by simp only[fB];decide) ?_ ?_;all_goals(first|(simp only[aB,aG,dg,renL,renLs,simprocAttr,bl,i64,smT,smO,smE,htm,hkt,h1,h2];done) |(simp only[aG,dg,renL,renLs,simprocAttr,bl,i64,smT,smO,smE,htm,hkt,h1,h2];(repeat' apply And.intro);all_goals rfl) |(simp only[aG,dg,renL,renLs,simprocAttr,bl,i64,smT,smO,smE,htm,hkt,h1,h2]) |skip))
    all_goals(first |done |trace_state)
  ·have ht:tr=false:=by rw[htr,decide_eq_false h1];rfl
   subst ht
   refine pK (nd htm (nd hkt h1)) ?_
   refine⟨(),?_⟩
   (refine Sub.heapL [0] rfl (by decide) ?_ (by simp only[fB];decide) ?_ ?_;all_goals(first|(simp only[aB,aG,dg,renL,renLs,simprocAttr,bl,i64,smT,smO,smE,htm,hkt,h1];done) |(simp only[aG,dg,renL,renLs,simprocAttr,bl,i64,smT,smO,smE,htm,hkt,h1];(repeat' apply And.intro);all_goals rfl) |(simp only[aG,dg,renL,renLs,simprocAttr,bl,i64,smT,smO,smE,htm,hkt,h1]) |skip))
   all_goals(first |done |trace_state)
 ·rintro -
  simp only[st]
  refine aDl (α:=Unit) (fun _=>st 160 (lk [(0,.lit (.int .i64 k)),(2,.lit (.int .i64 prec)),(4,.ptr 0 0),(9,.lit (.int .i64 m)),(11,bl tr)]) (cP [(0,⟨58,[.lit (.int .i64 n1),.sl a1 d1,.lit (.int .i64 n2),.sl a2 d2,.lit (.int .i64 T)],false⟩)]) 1) ?_ ?_
  ·refine qW ?_
   by_cases h1:(k:Int)=2
   ·cases htt:tr
    ·skip
     refine aY1 (nd hpz (nd h1 htt)) ?_
     refine⟨(),?_⟩
     (refine Sub.heapL [0] rfl (by decide) ?_ (by simp only[fB];decide) ?_ ?_;all_goals(first|(simp only[aB,aG,dg,renL,renLs,simprocAttr,bl,i64,smT,smO,smE,hpz,bne_self_eq_false,h1,htt];done) |(simp only[aG,dg,renL,renLs,simprocAttr,bl,i64,smT,smO,smE,hpz,bne_self_eq_false,h1,htt];(repeat' apply And.intro);all_goals rfl) |(simp only[aG,dg,renL,renLs,simprocAttr,bl,i64,smT,smO,smE,hpz,bne_self_eq_false,h1,htt]) |skip))
     all_goals(first |done |trace_state)
    ·by_cases h2:(T:Int)=1
     ·exact absurd ⟨by omega,htt,by omega⟩ hk
     ·skip
      (repeat(first|apply zO (by decide+kernel)|apply zP (by decide+kernel)|(apply zS;(case h=>constructor<;>decide))|((first|apply cD rfl|apply aR|apply zT rfl (by decide) rfl);(case hs=>(simp(disch:=first|omega|exact kD rfl|exact kX rfl) only[smY,simprocAttr,bl,i64,smT,smO,smE,hpz,bne_self_eq_false,h1,h2,htt];exact rfl));first|refine cB ?_|refine cC ?_|refine zq ?_|(case hg=>assumption))))
      refine⟨(),?_⟩
      (refine Sub.heapL [0] rfl (by decide) ?_ (by simp only[fB];decide) ?_ ?_;all_goals(first|(simp only[aB,aG,dg,renL,renLs,simprocAttr,bl,i64,smT,smO,smE,hpz,bne_self_eq_false,h1,h2,htt];done) |(simp only[aG,dg,renL,renLs,simprocAttr,bl,i64,smT,smO,smE,hpz,bne_self_eq_false,h1,h2,htt];(repeat' apply And.intro);all_goals rfl) |(simp only[aG,dg,renL,renLs,simprocAttr,bl,i64,smT,smO,smE,hpz,bne_self_eq_false,h1,h2,htt]) |skip))
      all_goals(first |done |trace_state)
   ·skip
    refine aY1 (nd hpz h1) ?_
    refine⟨(),?_⟩
    (refine Sub.heapL [0] rfl (by decide) ?_ (by simp only[fB];decide) ?_ ?_;all_goals(first|(simp only[aB,aG,dg,renL,renLs,simprocAttr,bl,i64,smT,smO,smE,hpz,bne_self_eq_false,h1];done) |(simp only[aG,dg,renL,renLs,simprocAttr,bl,i64,smT,smO,smE,hpz,bne_self_eq_false,h1];(repeat' apply And.intro);all_goals rfl) |(simp only[aG,dg,renL,renLs,simprocAttr,bl,i64,smT,smO,smE,hpz,bne_self_eq_false,h1]) |skip))
    all_goals(first |done |trace_state)
  ·rintro -
   simp only[st]
   refine zA7 ?_
   refine aI (α:={l:Nat // l≤prec}) (fun l=>st 160 (lk [(0,.lit (.int .i64 k)),(2,.lit (.int .i64 prec)),(4,.ptr 0 0),(9,.lit (.int .i64 m)),(11,bl tr),(12,.lit (.int .i64 n)),(13,.own 1 0 n 1),(14,.lit (.int .i64 l.1))]) (dX [(0,⟨58,[.lit (.int .i64 n1),.sl a1 d1,.lit (.int .i64 n2),.sl a2 d2,.lit (.int .i64 T)],false⟩),(1,⟨29,cI n l.1 0,false⟩)] 2 (eC n l.1 0) (gQ cf l.1 0)) (eC n l.1 0+2)) (fun l=>prec-l.1) ⟨0,by omega⟩ ?_ ?_
   ·simp only[st]
    have hN0:(0<eC n 0 0+2)=True:=by simp
    have hN1:(1<eC n 0 0+2)=True:=by simp
    have hz:eC n 0 0=0:=rfl
    refine Sub.fam [0,13] (fun j=>j+2) rfl rfl (by decide) ?_ ?_ ?_ ?_ ?_ ?_ ?_
    ·simp only[List.forall_mem_cons,List.not_mem_nil,false_imp_iff,implies_true,and_true,aG,dg,renL,renLs,simprocAttr,bl,i64,smT,smO,smE,hN0,hN1,sF,Nat.reduceLT,List.getD_cons_zero,List.getD_cons_succ,↓reduceIte]
    ·simp
    ·simp only[List.forall_mem_cons,List.not_mem_nil,false_imp_iff,implies_true,and_true,List.getD_cons_zero,List.getD_cons_succ,bI,Nat.reduceEqDiff,↓reduceIte]
     refine⟨⟨_,rfl,by simp only[aG,dg,renL,renLs,simprocAttr,bl,i64,smT,smO,smE]⟩,⟨_,rfl,?_⟩⟩
     rw[bDs]
     exact cJ (fun c hc=>by rw[List.eq_of_mem_replicate hc];rfl)
    ·rintro i hi;omega
    ·rintro i hi;omega
    ·rintro i j hi;omega
    ·rintro i hi;omega
   ·rintro⟨l,hl⟩
    simp only[st]
    have F0:dX [(0,⟨58,[.lit (.int .i64 n1),.sl a1 d1,.lit (.int .i64 n2),.sl a2 d2,.lit (.int .i64 T)],false⟩),(1,⟨29,cI n l 0,false⟩)] 2 (eC n l 0) (gQ cf l 0) 0=some ⟨58,[.lit (.int .i64 n1),.sl a1 d1,.lit (.int .i64 n2),.sl a2 d2,.lit (.int .i64 T)],false⟩:=rfl
    have F1:dX [(0,⟨58,[.lit (.int .i64 n1),.sl a1 d1,.lit (.int .i64 n2),.sl a2 d2,.lit (.int .i64 T)],false⟩),(1,⟨29,cI n l 0,false⟩)] 2 (eC n l 0) (gQ cf l 0) 1=some ⟨29,cI n l 0,false⟩:=rfl
    have FI:∀ j,j<eC n l 0→dX [(0,⟨58,[.lit (.int .i64 n1),.sl a1 d1,.lit (.int .i64 n2),.sl a2 d2,.lit (.int .i64 T)],false⟩),(1,⟨29,cI n l 0,false⟩)] 2 (eC n l 0) (gQ cf l 0) (j+2)=some (gQ cf l 0 j):=fun j hj=>pI hj
    by_cases hlt:l<prec
    ·generalize dX [(0,⟨58,[.lit (.int .i64 n1),.sl a1 d1,.lit (.int .i64 n2),.sl a2 d2,.lit (.int .i64 T)],false⟩),(1,⟨29,cI n l 0,false⟩)] 2 (eC n l 0) (gQ cf l 0)=HH at*
     obtain⟨Z0,z1,z2,gz⟩:=hc0
     (repeat((fail_if_success (refine bWj ?_));first|apply zO (by decide+kernel)|apply zP (by decide+kernel)|(apply zS;(case h=>constructor<;>decide))|((first|apply cD rfl|apply aR|apply zT rfl (by decide) rfl);(case hs=>(simp(disch:=first|omega|exact kD rfl|exact kX rfl) only[smY,simprocAttr,bl,i64,smT,smO,smE,F0,F1];exact rfl));first|refine cB ?_|refine cC ?_|refine zq ?_|(case hg=>assumption))))
     refine aDl (α:={Z:List Rat // Z.length=n∧∀ j,j<n→Z.getD j 0=cf l j}) (fun Z=>st 160 (lk [(0,.lit (.int .i64 k)),(2,.lit (.int .i64 prec)),(4,.ptr 0 0),(9,.lit (.int .i64 m)),(11,bl tr),(12,.lit (.int .i64 n)),(13,.own 1 0 n 1),(14,.lit (.int .i64 l)),(15,.sl n (qc Z.1))]) (dX [(0,⟨58,[.lit (.int .i64 n1),.sl a1 d1,.lit (.int .i64 n2),.sl a2 d2,.lit (.int .i64 T)],false⟩),(1,⟨29,cI n l 0,false⟩)] 2 (eC n l 0) (gQ cf l 0)) (eC n l 0+2)) ?_ ?_
     ·by_cases h0:l=0
      ·subst h0
       refine pK (nd F0 F1) ?_
       refine⟨⟨Z0,z1,z2⟩,?_⟩
       simp only[st]
       refine zN (Nat.zero_le _) F0 F1 FI (by simp[aB]) ?_
       have hN0:(0<eC n 0 0+2)=True:=by simp
       have hN1:(1<eC n 0 0+2)=True:=by simp
       simp only[List.forall_mem_cons,List.not_mem_nil,false_imp_iff,implies_true,and_true,aG,dg,renL,renLs,simprocAttr,bl,i64,smT,smO,smE,F0,F1,hN0,hN1,sF,Nat.reduceLT,List.getD_cons_zero,List.getD_cons_succ,↓reduceIte]
      ·obtain⟨Z1,y1,y2,gy⟩:=hc1 l (by omega) hlt
       refine pK (nd F0 F1) ?_
       refine⟨⟨Z1,y1,y2⟩,?_⟩
       simp only[st]
       refine zN (Nat.zero_le _) F0 F1 FI (by simp[aB]) ?_
       have hN0:(0<eC n l 0+2)=True:=by simp
       have hN1:(1<eC n l 0+2)=True:=by simp
       simp only[List.forall_mem_cons,List.not_mem_nil,false_imp_iff,implies_true,and_true,aG,dg,renL,renLs,simprocAttr,bl,i64,smT,smO,smE,F0,F1,hN0,hN1,sF,Nat.reduceLT,List.getD_cons_zero,List.getD_cons_succ,↓reduceIte]
     ·rintro⟨Z,hZ1,hZ2⟩
      simp only[st]
      have F0:dX [(0,⟨58,[.lit (.int .i64 n1),.sl a1 d1,.lit (.int .i64 n2),.sl a2 d2,.lit (.int .i64 T)],false⟩),(1,⟨29,cI n l 0,false⟩)] 2 (eC n l 0) (gQ cf l 0) 0=some ⟨58,[.lit (.int .i64 n1),.sl a1 d1,.lit (.int .i64 n2),.sl a2 d2,.lit (.int .i64 T)],false⟩:=rfl
      have F1:dX [(0,⟨58,[.lit (.int .i64 n1),.sl a1 d1,.lit (.int .i64 n2),.sl a2 d2,.lit (.int .i64 T)],false⟩),(1,⟨29,cI n l 0,false⟩)] 2 (eC n l 0) (gQ cf l 0) 1=some ⟨29,cI n l 0,false⟩:=rfl
      have FI:∀ j,j<eC n l 0→dX [(0,⟨58,[.lit (.int .i64 n1),.sl a1 d1,.lit (.int .i64 n2),.sl a2 d2,.lit (.int .i64 T)],false⟩),(1,⟨29,cI n l 0,false⟩)] 2 (eC n l 0) (gQ cf l 0) (j+2)=some (gQ cf l 0 j):=fun j hj=>pI hj
      generalize dX [(0,⟨58,[.lit (.int .i64 n1),.sl a1 d1,.lit (.int .i64 n2),.sl a2 d2,.lit (.int .i64 T)],false⟩),(1,⟨29,cI n l 0,false⟩)] 2 (eC n l 0) (gQ cf l 0)=HH at*
      refine pK (nd F0 F1) ?_
      refine aI (α:={i:Nat // i≤n}) (fun i=>st 160 (lk [(0,.lit (.int .i64 k)),(2,.lit (.int .i64 prec)),(4,.ptr 0 0),(9,.lit (.int .i64 m)),(11,bl tr),(12,.lit (.int .i64 n)),(13,.own 1 0 n 1),(14,.lit (.int .i64 l)),(15,.sl n (qc Z)),(16,.lit (.int .i64 i.1))]) (dX [(0,⟨58,[.lit (.int .i64 n1),.sl a1 d1,.lit (.int .i64 n2),.sl a2 d2,.lit (.int .i64 T)],false⟩),(1,⟨29,cI n l i.1,false⟩)] 2 (eC n l i.1) (gQ cf l i.1)) (eC n l i.1+2)) (fun i=>n-i.1) ⟨0,by omega⟩ ?_ ?_
      ·simp only[st]
       refine zN (Nat.zero_le _) F0 F1 FI (by simp[aB]) ?_
       have hN0:(0<eC n l 0+2)=True:=by simp
       have hN1:(1<eC n l 0+2)=True:=by simp
       simp only[List.forall_mem_cons,List.not_mem_nil,false_imp_iff,implies_true,and_true,aG,dg,renL,renLs,simprocAttr,bl,i64,smT,smO,smE,F0,F1,hN0,hN1,sF,Nat.reduceLT,List.getD_cons_zero,List.getD_cons_succ,↓reduceIte]
      ·rintro⟨i,hi⟩
       simp only[st]
       have F0:dX [(0,⟨58,[.lit (.int .i64 n1),.sl a1 d1,.lit (.int .i64 n2),.sl a2 d2,.lit (.int .i64 T)],false⟩),(1,⟨29,cI n l i,false⟩)] 2 (eC n l i) (gQ cf l i) 0=some ⟨58,[.lit (.int .i64 n1),.sl a1 d1,.lit (.int .i64 n2),.sl a2 d2,.lit (.int .i64 T)],false⟩:=rfl
       have F1:dX [(0,⟨58,[.lit (.int .i64 n1),.sl a1 d1,.lit (.int .i64 n2),.sl a2 d2,.lit (.int .i64 T)],false⟩),(1,⟨29,cI n l i,false⟩)] 2 (eC n l i) (gQ cf l i) 1=some ⟨29,cI n l i,false⟩:=rfl
       have FI:∀ j,j<eC n l i→dX [(0,⟨58,[.lit (.int .i64 n1),.sl a1 d1,.lit (.int .i64 n2),.sl a2 d2,.lit (.int .i64 T)],false⟩),(1,⟨29,cI n l i,false⟩)] 2 (eC n l i) (gQ cf l i) (j+2)=some (gQ cf l i j):=fun j hj=>pI hj
       have hcl:=bV4 n l i
       by_cases hin:i<n
       ·have hg:=bV5 (l:=l) hin
        have hz:=hZ2 i hin
        generalize dX [(0,⟨58,[.lit (.int .i64 n1),.sl a1 d1,.lit (.int .i64 n2),.sl a2 d2,.lit (.int .i64 T)],false⟩),(1,⟨29,cI n l i,false⟩)] 2 (eC n l i) (gQ cf l i)=HH at*
        by_cases h0:l=0
        ·subst h0
         rw[aFs]at hg
         (repeat(first|apply zO (by decide+kernel)|apply zP (by decide+kernel)|(apply zS;(case h=>constructor<;>decide))|((first|apply cD rfl|apply aR|apply zT rfl (by decide) rfl);(case hs=>(simp(disch:=first|omega|exact kD rfl|exact kX rfl) only[smY,simprocAttr,bl,i64,smT,smO,smE,F0,F1,hcl,hg,hz,hZ1,aC7];exact rfl));first|refine cB ?_|refine cC ?_|refine zq ?_|(case hg=>assumption))))
         refine⟨⟨i+1,by omega⟩,?_,by simp only;omega⟩
         have hN0:(0<eC n 0 (i+1)+2)=True:=by simp
         have hN1:(1<eC n 0 (i+1)+2)=True:=by simp
         refine aIg (new:=eC n 0 i+2+3+11) hin (by omega) ?_ ?_ ?_ ?_ (by simp[aB]) ?_
         ·simp(disch:=omega) only[bI,Nat.reduceEqDiff,↓reduceIte,if_neg,F0]
         ·simp(disch:=omega) only[bI,Nat.reduceEqDiff,↓reduceIte,if_neg]
         ·intro j hj hji
          simp(disch:=omega) only[bI,if_neg,FI j hj]
         ·simp(disch:=omega) only[bI,if_neg,↓reduceIte]
          rw[dK,aUk,List.nil_append]
         ·simp only[List.forall_mem_cons,List.not_mem_nil,false_imp_iff,implies_true,and_true,aG,dg,renL,renLs,simprocAttr,bl,i64,smT,smO,smE,F0,F1,hcl,hg,hz,hZ1,aC7,hN0,hN1,sF,Nat.reduceLT,List.getD_cons_zero,List.getD_cons_succ,↓reduceIte]
        ·have hcv:cvL l i= .own (i+2) 0 l 4:=if_neg h0
         rw[hcv]at hg
         have FIi:=FI i (by rw[vQ h0];exact hin)
         have hgq:gQ cf l i i=⟨47,qc (pU cf l i),false⟩:=by
          unfold gQ
          rw[if_neg (by omega)]
         rw[hgq]at FIi
         have hql:=aOe cf l i
         have hfi:i<eC n l i:=by rw[vQ h0];exact hin
         have hne:(i=eC n l i+13)=False:=eq_false (by omega)
         have hqn:(qc (pU cf l i)).length=l*4:=by rw[gH,hql]
         have htk:(qc (pU cf l i)).take (l*4)=qc (pU cf l i):=List.take_of_length_le (by omega)
         have hlb:(l+1)*64≤140737488355328:=by omega
         have hlb2:l≤9223372036854775806:=by omega
         (repeat(first|apply zO (by decide+kernel)|apply zP (by decide+kernel)|(apply zS;(case h=>constructor<;>decide))|((first|apply cD rfl|apply aR|apply zT rfl (by decide) rfl);(case hs=>(simp(disch:=first|omega|exact kD rfl|exact kX rfl) only[smY,simprocAttr,bl,i64,smT,smO,smE,F0,F1,hcl,hg,hz,hZ1,aC7,FIi,hne,hqn,htk,hlb,hlb2];exact rfl));first|refine cB ?_|refine cC ?_|refine zq ?_|(case hg=>assumption))))
         refine⟨⟨i+1,by omega⟩,?_,by simp only;omega⟩
         have hN0:(0<eC n l (i+1)+2)=True:=by simp
         have hN1:(1<eC n l (i+1)+2)=True:=by simp
         refine aIg (new:=eC n l i+2+3+11) hin (by omega) ?_ ?_ ?_ ?_ (by simp[aB]) ?_
         ·simp(disch:=omega) only[bI,Nat.reduceEqDiff,↓reduceIte,if_neg,F0]
         ·simp(disch:=omega) only[bI,Nat.reduceEqDiff,↓reduceIte,if_neg]
         ·intro j hj hji
          simp(disch:=omega) only[bI,if_neg,FI j hj]
         ·simp(disch:=omega) only[bI,if_neg,↓reduceIte]
          rw[dK]
         ·simp only[List.forall_mem_cons,List.not_mem_nil,false_imp_iff,implies_true,and_true,aG,dg,renL,renLs,simprocAttr,bl,i64,smT,smO,smE,F0,F1,hcl,hg,hz,hZ1,aC7,FIi,hne,hqn,htk,hlb,hlb2,hN0,hN1,sF,Nat.reduceLT,List.getD_cons_zero,List.getD_cons_succ,↓reduceIte]
       ·obtain rfl:i=n:=by omega
        have FI:∀ j,j<eC i (l+1) 0→dX [(0,⟨58,[.lit (.int .i64 n1),.sl a1 d1,.lit (.int .i64 n2),.sl a2 d2,.lit (.int .i64 T)],false⟩),(1,⟨29,cI i l i,false⟩)] 2 (eC i l i) (gQ cf l i) (j+2)=some (gQ cf (l+1) 0 j):=fun j hj=>by
         rw[vQ (by omega)]at hj
         rw[FI j (by unfold eC;split <;>exact hj)]
         unfold gQ
         rw[if_pos hj,if_neg (by omega)]
        generalize dX [(0,⟨58,[.lit (.int .i64 n1),.sl a1 d1,.lit (.int .i64 n2),.sl a2 d2,.lit (.int .i64 T)],false⟩),(1,⟨29,cI i l i,false⟩)] 2 (eC i l i) (gQ cf l i)=HH at*
        rw[bJa]at F1
        refine pK (nd F0 F1) ?_
        refine⟨⟨l+1,by omega⟩,?_,by simp only;omega⟩
        have hN0:(0<eC i (l+1) 0+2)=True:=by simp
        have hN1:(1<eC i (l+1) 0+2)=True:=by simp
        refine zN (Nat.zero_le _) F0 F1 FI (by simp[aB]) ?_
        simp only[List.forall_mem_cons,List.not_mem_nil,false_imp_iff,implies_true,and_true,aG,dg,renL,renLs,simprocAttr,bl,i64,smT,smO,smE,F0,F1,hN0,hN1,sF,Nat.reduceLT,List.getD_cons_zero,List.getD_cons_succ,↓reduceIte]
    ·obtain rfl:l=prec:=by omega
     have hS3:∀ j,∃ a nn cs,(S j).1=i64 a∧(S j).2= .sl nn cs:=fun j=>(hS j).2.2
     have hSp:=aUd (S:=S) (fun j=>⟨(hS j).1,(hS j).2.1⟩)
     generalize dX [(0,⟨58,[.lit (.int .i64 n1),.sl a1 d1,.lit (.int .i64 n2),.sl a2 d2,.lit (.int .i64 T)],false⟩),(1,⟨29,cI n l 0,false⟩)] 2 (eC n l 0) (gQ cf l 0)=HH at*
     refine pK (nd F0 F1) ?_
     refine aI (α:={i:Nat // i≤n}) (fun i=>st 160 (lk [(0,.lit (.int .i64 k)),(2,.lit (.int .i64 l)),(4,.ptr 0 0),(9,.lit (.int .i64 m)),(11,bl tr),(12,.lit (.int .i64 n)),(13,.own 1 0 n 1),(17,nW 2 i.1),(18,.lit (.int .i64 i.1))]) (dX ((0,⟨58,[.lit (.int .i64 n1),.sl a1 d1,.lit (.int .i64 n2),.sl a2 d2,.lit (.int .i64 T)],false⟩)::(1,⟨29,cK n l,false⟩)::nWB 2 i.1 (sC S i.1)) 3 (eC n l 0) (gK cf l i.1)) (eC n l 0+3)) (fun i=>n-i.1) ⟨0,by omega⟩ ?_ ?_
     ·simp only[st]
      have hN1:(1<eC n l 0+3)=True:=by simp
      have hN0:(0<eC n l 0+3)=True:=by simp
      refine zQ (i':=0) (x:=eC n l 0+2) (τ:=fun j=>j+2) hS3 F0 ?_ (fun j hj=> ?_) (fun h=>absurd rfl h) (by simp[aB]) (by omega) (fun i j e=>by omega) (fun j hj=>by omega) ?_
      ·rw[F1]
       congr 2
       unfold cI cvI
       refine List.map_congr_left (fun j _=> ?_)
       rw[if_neg (by omega)]
       unfold cvL
       rfl
      ·rw[FI j hj]
       unfold gQ gK
       rw[if_neg (by omega),decide_eq_false (by omega)]
      ·simp only[show nW 2 0=nilL from rfl,List.forall_mem_cons,List.not_mem_nil,false_imp_iff,implies_true,and_true,aG,dg,renL,renLs,simprocAttr,bl,i64,smT,smO,smE,F0,F1,hN0,hN1,uO,Nat.reduceLT,List.getD_cons_zero,List.getD_cons_succ,↓reduceIte]
       all_goals(first |done |rfl |trace_state)
     ·rintro⟨i,hi⟩
      simp only[st]
      have F0:dX ((0,⟨58,[.lit (.int .i64 n1),.sl a1 d1,.lit (.int .i64 n2),.sl a2 d2,.lit (.int .i64 T)],false⟩)::(1,⟨29,cK n l,false⟩)::nWB 2 i (sC S i)) 3 (eC n l 0) (gK cf l i) 0=some ⟨58,[.lit (.int .i64 n1),.sl a1 d1,.lit (.int .i64 n2),.sl a2 d2,.lit (.int .i64 T)],false⟩:=rfl
      have F1:dX ((0,⟨58,[.lit (.int .i64 n1),.sl a1 d1,.lit (.int .i64 n2),.sl a2 d2,.lit (.int .i64 T)],false⟩)::(1,⟨29,cK n l,false⟩)::nWB 2 i (sC S i)) 3 (eC n l 0) (gK cf l i) 1=some ⟨29,cK n l,false⟩:=rfl
      have F2:i≠0→dX ((0,⟨58,[.lit (.int .i64 n1),.sl a1 d1,.lit (.int .i64 n2),.sl a2 d2,.lit (.int .i64 T)],false⟩)::(1,⟨29,cK n l,false⟩)::nWB 2 i (sC S i)) 3 (eC n l 0) (gK cf l i) 2=some ⟨80,sC S i,false⟩:=fun h=>by
       unfold nWB
       rw[if_neg h]
       rfl
      have FI:∀ j,j<eC n l 0→dX ((0,⟨58,[.lit (.int .i64 n1),.sl a1 d1,.lit (.int .i64 n2),.sl a2 d2,.lit (.int .i64 T)],false⟩)::(1,⟨29,cK n l,false⟩)::nWB 2 i (sC S i)) 3 (eC n l 0) (gK cf l i) (j+3)=some (gK cf l i j):=fun j hj=>pI hj
      have hcl:=bWg n l
      generalize dX ((0,⟨58,[.lit (.int .i64 n1),.sl a1 d1,.lit (.int .i64 n2),.sl a2 d2,.lit (.int .i64 T)],false⟩)::(1,⟨29,cK n l,false⟩)::nWB 2 i (sC S i)) 3 (eC n l 0) (gK cf l i)=HH at*
      have hsl:=aKu S i
      have hst:(sC S i).take (i*2)=sC S i:=List.take_of_length_le (by omega)
      by_cases hin:i<n
      ·have hg:=bWh (prec:=l) hin
       obtain⟨_,_,ra,rn,rc,er1,er2⟩:=hR i
       obtain⟨_,_,sa,sn,scs,es1,es2⟩:=hS i
       have g1:=gres i hin
       have g2:=gat i hin
       rw[er1,er2]at g1 g2
       rw[es1,es2]at g2
       have hsc:=aKv S i
       rw[es1,es2]at hsc
       have hib:(i+1)*64≤140737488355328:=by omega
       by_cases hp0:l=0
       ·subst hp0
        rw[if_pos rfl]at hg
        rw[aUk]at g1
        by_cases h0:i=0
        ·subst h0
         rw[show sC S 0=[]by with_unfolding_all rfl,List.nil_append]at hsc
         rw[List.drop_zero]at hg
         simp only[nW,if_pos]
         refine bFv (nd F0 (nd F1 hcl)) ?_
         refine⟨⟨0+1,by omega⟩,?_,by simp only;omega⟩
         have hN1:(1<eC n 0 0+3)=True:=eq_true (by omega)
         have hN0:(0<eC n 0 0+3)=True:=eq_true (by omega)
         have hN2:(2<eC n 0 0+3)=True:=eq_true (by omega)
         refine zQ (i':=0+1) (x:=eC n 0 0+3+3+11+9) (τ:=fun j=>j+3) hS3 ?_ ?_ (fun j hj=> ?_) (fun _=> ?_) (by simp[aB]) (by omega) (fun i j e=>by omega) (fun j hj=>by omega) ?_
         ·simp(disch:=omega) only[bI,cM,Nat.reduceEqDiff,↓reduceIte,if_neg,F0]
          all_goals(first |done |trace_state)
         ·simp(disch:=omega) only[bI,cM,Nat.reduceEqDiff,↓reduceIte,if_neg,F1,aUl]
          all_goals(first |done |trace_state)
         ·exact absurd hj (Nat.not_lt_zero j)
         ·simp(disch:=omega) only[bI,cM,if_neg,↓reduceIte,hsc]
          all_goals(first |done |trace_state)
         ·simp only[List.forall_mem_cons,List.not_mem_nil,false_imp_iff,implies_true,and_true,aG,dg,renL,renLs,simprocAttr,bl,i64,smT,smO,smE,F0,F1,hcl,hg,hN0,hN1,hN2,uO,Nat.reduceLT,List.getD_cons_zero,List.getD_cons_succ,↓reduceIte]
          all_goals(first |done |trace_state)
        ·have F2':=F2 h0
         simp only[nW,if_neg h0]
         refine bFv (nd F0 (nd F1 (nd hcl (nd F2' (nd hsl (nd hst hib)))))) ?_
         refine⟨⟨i+1,by omega⟩,?_,by simp only;omega⟩
         have hN1:(1<eC n 0 0+3)=True:=eq_true (by omega)
         have hN0:(0<eC n 0 0+3)=True:=eq_true (by omega)
         have hN2:(2<eC n 0 0+3)=True:=eq_true (by omega)
         refine zQ (i':=i+1) (x:=eC n 0 0+3+3+11+9) (τ:=fun j=>j+3) hS3 ?_ ?_ (fun j hj=> ?_) (fun _=> ?_) (by simp[aB]) (by omega) (fun i j e=>by omega) (fun j hj=>by omega) ?_
         ·simp(disch:=omega) only[bI,cM,Nat.reduceEqDiff,↓reduceIte,if_neg,F0]
          all_goals(first |done |trace_state)
         ·simp(disch:=omega) only[bI,cM,Nat.reduceEqDiff,↓reduceIte,if_neg,F1,aUl]
          all_goals(first |done |trace_state)
         ·exact absurd hj (Nat.not_lt_zero j)
         ·simp(disch:=omega) only[bI,cM,if_neg,↓reduceIte,hsc]
          all_goals(first |done |trace_state)
         ·simp only[List.forall_mem_cons,List.not_mem_nil,false_imp_iff,implies_true,and_true,aG,dg,renL,renLs,simprocAttr,bl,i64,smT,smO,smE,F0,F1,hcl,hg,F2',hsl,hst,hib,hN0,hN1,hN2,uO,Nat.reduceLT,List.getD_cons_zero,List.getD_cons_succ,↓reduceIte]
          all_goals(first |done |trace_state)
       ·rw[if_neg hp0]at hg
        have hfi:i<eC n l 0:=by rw[vQ hp0];exact hin
        have FIi:HH (i+3)=some ⟨47,qc (pU cf l i),false⟩:=by
         rw[FI i hfi]
         unfold gK
         rw[decide_eq_false (by omega)]
        have hql:=aOe cf l i
        have hqn:(qc (pU cf l i)).length=l*4:=by rw[gH,hql]
        have htk:(qc (pU cf l i)).take (l*4)=qc (pU cf l i):=List.take_of_length_le (by omega)
        by_cases h0:i=0
        ·subst h0
         rw[show sC S 0=[]by with_unfolding_all rfl,List.nil_append]at hsc
         rw[List.drop_zero]at hg
         rw[Nat.zero_add]at FIi hg
         simp only[nW,if_pos]
         refine bFv (nd F0 (nd F1 (nd hcl (nd FIi (nd hqn htk))))) ?_
         refine⟨⟨0+1,by omega⟩,?_,by simp only;omega⟩
         have hN1:(1<eC n l 0+3)=True:=eq_true (by omega)
         have hN0:(0<eC n l 0+3)=True:=eq_true (by omega)
         have hN2:(2<eC n l 0+3)=True:=eq_true (by omega)
         have hm0:(0∈[3])=False:=by simp
         have hm1:(1∈[3])=False:=by simp
         have hmi:(0+3∈[3])=True:=by simp
         refine zQ (i':=0+1) (x:=eC n l 0+3+3+11+9) (τ:=fun j=>j+3) hS3 ?_ ?_ (fun j hj=> ?_) (fun _=> ?_) (by simp[aB]) (by omega) (fun i j e=>by omega) (fun j hj=>by omega) ?_
         ·simp(disch:=omega) only[bI,cM,Nat.reduceEqDiff,↓reduceIte,if_neg,F0,hm0,Option.map_some]
          all_goals(first |done |trace_state)
         ·simp(disch:=omega) only[bI,cM,Nat.reduceEqDiff,↓reduceIte,if_neg,F1,hm1,Option.map_some,aUl]
          all_goals(first |done |trace_state)
         ·by_cases e:j=0
          ·subst e
           simp(disch:=omega) only[bI,cM,if_neg,FIi,hmi,Option.map_some,↓reduceIte]
           unfold gK
           rw[decide_eq_true (by omega)]
          ·have hmj:(j+3∈[0+3])=False:=by simp;omega
           simp(disch:=omega) only[bI,cM,if_neg,FI j hj,hmj,Option.map_some,↓reduceIte]
           unfold gK
           rw[show decide (j<0)=decide (j<0+1)by by_cases c:j<0 <;>simp[c] <;>omega]
         ·simp(disch:=omega) only[bI,cM,if_neg,↓reduceIte,hsc]
          all_goals(first |done |trace_state)
         ·simp only[List.forall_mem_cons,List.not_mem_nil,false_imp_iff,implies_true,and_true,aG,dg,renL,renLs,simprocAttr,bl,i64,smT,smO,smE,F0,F1,hcl,hg,FIi,hqn,htk,hN0,hN1,hN2,uO,Nat.reduceLT,List.getD_cons_zero,List.getD_cons_succ,↓reduceIte]
          all_goals(first |done |trace_state)
        ·have F2':=F2 h0
         simp only[nW,if_neg h0]
         refine bFv (nd F0 (nd F1 (nd hcl (nd F2' (nd hsl (nd hst (nd hib (nd FIi (nd hqn htk))))))))) ?_
         refine⟨⟨i+1,by omega⟩,?_,by simp only;omega⟩
         have hN1:(1<eC n l 0+3)=True:=eq_true (by omega)
         have hN0:(0<eC n l 0+3)=True:=eq_true (by omega)
         have hN2:(2<eC n l 0+3)=True:=eq_true (by omega)
         have hm0:(0∈[i+3])=False:=by simp
         have hm1:(1∈[i+3])=False:=by simp
         have hmi:(i+3∈[i+3])=True:=by simp
         refine zQ (i':=i+1) (x:=eC n l 0+3+3+11+9) (τ:=fun j=>j+3) hS3 ?_ ?_ (fun j hj=> ?_) (fun _=> ?_) (by simp[aB]) (by omega) (fun i j e=>by omega) (fun j hj=>by omega) ?_
         ·simp(disch:=omega) only[bI,cM,Nat.reduceEqDiff,↓reduceIte,if_neg,F0,hm0,Option.map_some]
          all_goals(first |done |trace_state)
         ·simp(disch:=omega) only[bI,cM,Nat.reduceEqDiff,↓reduceIte,if_neg,F1,hm1,Option.map_some,aUl]
          all_goals(first |done |trace_state)
         ·by_cases e:j=i
          ·subst e
           simp(disch:=omega) only[bI,cM,if_neg,FIi,hmi,Option.map_some,↓reduceIte]
           unfold gK
           rw[decide_eq_true (by omega)]
          ·have hmj:(j+3∈[i+3])=False:=by simp;omega
           simp(disch:=omega) only[bI,cM,if_neg,FI j hj,hmj,Option.map_some,↓reduceIte]
           unfold gK
           rw[show decide (j<i)=decide (j<i+1)by by_cases c:j<i <;>simp[c] <;>omega]
         ·simp(disch:=omega) only[bI,cM,if_neg,↓reduceIte,hsc]
          all_goals(first |done |trace_state)
         ·simp only[List.forall_mem_cons,List.not_mem_nil,false_imp_iff,implies_true,and_true,aG,dg,renL,renLs,simprocAttr,bl,i64,smT,smO,smE,F0,F1,hcl,hg,F2',hsl,hst,hib,FIi,hqn,htk,hN0,hN1,hN2,uO,Nat.reduceLT,List.getD_cons_zero,List.getD_cons_succ,↓reduceIte]
          all_goals(first |done |trace_state)
      ·obtain rfl:i=n:=by omega
       have F2':=F2 (by omega)
       have h0:¬i=0:=by omega
       have hpv:=fun(h:Nat→Option Blk) (ok:Nat→Bool) (k:Nat)=>lK (h:=h) (ok:=ok) (k:=k) (hSp i)
       simp only[nW,if_neg h0]
       refine pK (nd F0 (nd F1 (nd F2' (nd hsl (nd hst hpv))))) ?_
       exact bPn (nd F0 (nd F1 (nd F2' (nd hsl (nd hst hpv)))))
end
section
open Go Go.Lg Go.Num
attribute [local irreducible] lrun lwp exThen exBlk keep goodPost sg mg oc op ec pU cI fS sC cK
def eS (e:Int):LV:= .tup [.sl 0 [],.lit (.int .i64 e)]
theorem bD1 {k m:Nat}{T prec e:Int}{n1 n2:Nat}{x1 x2:LV}{b1 b2 tr:Bool}(hx1:∃ a c,x1= .sl a c) (hx2:∃ a c,x2= .sl a c) (k1:2≤k) (k2:k≤40) (m1:1≤m) (m2:m≤4000) (htr:tr=(decide ((n1:Int)=1) && decide ((n2:Int)=1)))
  (gform:PureGood Tryz.prog 91 [.agg [i64 n1,x1,i64 n2,x2,i64 T]] (i64 0)) (gord:PureGood Tryz.prog 92 [.agg [i64 n1,x1],.agg [i64 n2,x2]] (i64 m))
  (ge1:PureGood Tryz.prog 93 [.agg [i64 n1,x1],i64 (-1),i64 (2*(m:Int))] (i64 (if b1 then 0 else(m:Int)))) (ge2:PureGood Tryz.prog 93 [.agg [i64 n2,x2],i64 (-1),i64 (2*(m:Int))] (i64 (if b2 then 0 else(m:Int))))
  (hcase:((b1==b2)= !decide (k % 2=0)∧e=16)∨((b1==b2)=decide (k % 2=0)∧(((T<1∨1000<T)∧e=2)∨((k:Int)=2∧tr=true∧T=1∧e=20)∨(1≤T∧T≤1000∧¬(k=2∧tr=true∧T=1)∧∃ c:Nat,PureGood Tryz.prog 94 [i64 m] (i64 c)∧c≤4000∧((13≤c∧e=7)∨(c≤12∧(prec<0∨1000<prec)∧e=2))))))
  :PureGood Tryz.prog 27 [i64 k,.agg [i64 n1,x1,i64 n2,x2,i64 T],i64 prec] (eS e):=by
 unfold eS
 obtain⟨a1,d1,rfl⟩:=hx1
 obtain⟨a2,d2,rfl⟩:=hx2
 have hkm:(k:Int) % 2=((k % 2:Nat):Int):=rfl
 obtain⟨sv,hsv,hsm⟩:∃ sv:Nat,((if b1 then 0 else(m:Int))+(if b2 then 0 else(m:Int))) % (2*(m:Int))=(sv:Int)∧(decide (sv=0)=(b1==b2)):=by
  refine⟨if b1=b2 then 0 else m,?_,?_⟩
  ·cases b1 <;>cases b2 <;>simp
   all_goals(first |done |(rw[show(m:Int)+m=2*m by omega,Int.emod_self]) |(rw[Int.emod_eq_of_lt (by omega) (by omega)]))
  ·cases b1 <;>cases b2 <;>simp <;>omega
 have gi1:PureGood Tryz.prog 93 [.agg [i64 n1,.sl a1 d1],i64 (-1),i64 (2*(m:Int))] (i64 (if b1 then 0 else(m:Int))):=ge1
 have gi2:PureGood Tryz.prog 93 [.agg [i64 n2,.sl a2 d2],i64 (-1),i64 (2*(m:Int))] (i64 (if b2 then 0 else(m:Int))):=ge2
 have he1:∃ e1:Int,(if b1 then 0 else(m:Int))=e1∧0≤e1∧e1≤4000:=⟨_,rfl,by split <;>omega,by split <;>omega⟩
 have he2:∃ e2:Int,(if b2 then 0 else(m:Int))=e2∧0≤e2∧e2≤4000:=⟨_,rfl,by split <;>omega,by split <;>omega⟩
 obtain⟨e1,q1,r1,s1⟩:=he1
 obtain⟨e2,q2,r2,s2⟩:=he2
 rw[q1,q2]at hsv
 rw[q1]at gi1
 rw[q2]at gi2
 clear ge1 ge2
 have htm:(e1+e2).tmod (2*(m:Int))=(sv:Int):=by rw[Int.tmod_eq_emod_of_nonneg (by omega)];exact hsv
 have hkt:(k:Int).tmod 2=((k % 2:Nat):Int):=by rw[Int.tmod_eq_emod_of_nonneg (by omega)];rfl
 have hsz:(((e1+e2) % (2*(m:Int)))==0)=(b1==b2):=by
  rw[hsv,← hsm]
  by_cases h:sv=0
  ·rw[beq_iff_eq.2 (by omega),decide_eq_true h]
  ·rw[beq_eq_false_iff_ne.2 (by omega),decide_eq_false h]
 have hkz:((k:Int) % 2==0)=decide (k % 2=0):=by
  by_cases h:k % 2=0
  ·rw[beq_iff_eq.2 (by omega),decide_eq_true h]
  ·rw[beq_eq_false_iff_ne.2 (by omega),decide_eq_false h]
 simp only[i64]at*
 refine aA bC Tryz.func27 rfl (by decide) (nt:=160) rfl (rs:=[.tmp 6,.tmp 7]) rfl (aZ rfl) ?_
 (repeat((fail_if_success (refine bOl ?_));first|apply zO (by decide+kernel)|apply zP (by decide+kernel)|(apply zS;(case h=>constructor<;>decide))|((first|apply cD rfl|apply aR|apply zT rfl (by decide) rfl);(case hs=>(simp(disch:=first|omega|exact kD rfl|exact kX rfl) only[smY,simprocAttr,bl,i64,smT,smO,smE,htm,hkt];exact rfl));first|refine cB ?_|refine cC ?_|refine zq ?_|(case hg=>assumption))))
 refine aDl (α:=Unit) (fun _=>st 160 (lk [(0,.lit (.int .i64 k)),(2,.lit (.int .i64 prec)),(4,.ptr 0 0),(9,.lit (.int .i64 m)),(10,.lit (.int .i64 (e1+e2))),(11,bl tr)]) (cP [(0,⟨58,[.lit (.int .i64 n1),.sl a1 d1,.lit (.int .i64 n2),.sl a2 d2,.lit (.int .i64 T)],false⟩)]) 1) ?_ ?_
 ·by_cases h1:(n1:Int)=1
  ·by_cases h2:(n2:Int)=1
   ·have ht:tr=true:=by rw[htr,decide_eq_true h1,decide_eq_true h2];rfl
    subst ht
    (repeat(first|apply zO (by decide+kernel)|apply zP (by decide+kernel)|(apply zS;(case h=>constructor<;>decide))|((first|apply cD rfl|apply aR|apply zT rfl (by decide) rfl);(case hs=>(simp(disch:=first|omega|exact kD rfl|exact kX rfl) only[smY,simprocAttr,bl,i64,smT,smO,smE,htm,hkt,h1,h2];exact rfl));first|refine cB ?_|refine cC ?_|refine zq ?_|(case hg=>assumption))))
    refine⟨(),?_⟩
    (refine Sub.heapL [0] rfl (by decide) ?_ (by simp only[fB];decide) ?_ ?_;all_goals(first|(simp only[aB,aG,dg,renL,renLs,simprocAttr,bl,i64,smT,smO,smE,htm,hkt,h1,h2];done) |(simp only[aG,dg,renL,renLs,simprocAttr,bl,i64,smT,smO,smE,htm,hkt,h1,h2];(repeat' apply And.intro);all_goals rfl) |(simp only[aG,dg,renL,renLs,simprocAttr,bl,i64,smT,smO,smE,htm,hkt,h1,h2]) |skip))
    all_goals(first |done |trace_state)
   ·have ht:tr=false:=by rw[htr,decide_eq_true h1,decide_eq_false h2];rfl
    subst ht
    (repeat(first|apply zO (by decide+kernel)|apply zP (by decide+kernel)|(apply zS;(case h=>constructor<;>decide))|((first|apply cD rfl|apply aR|apply zT rfl (by decide) rfl);(case hs=>(simp(disch:=first|omega|exact kD rfl|exact kX rfl) only[smY,simprocAttr,bl,i64,smT,smO,smE,htm,hkt,h1,h2];exact rfl));first|refine cB ?_|refine cC ?_|refine zq ?_|(case hg=>assumption))))
    refine⟨(),?_⟩
    (refine Sub.heapL [0] rfl (by decide) ?_ (by simp only[fB];decide) ?_ ?_;all_goals(first|(simp only[aB,aG,dg,renL,renLs,simprocAttr,bl,i64,smT,smO,smE,htm,hkt,h1,h2];done) |(simp only[aG,dg,renL,renLs,simprocAttr,bl,i64,smT,smO,smE,htm,hkt,h1,h2];(repeat' apply And.intro);all_goals rfl) |(simp only[aG,dg,renL,renLs,simprocAttr,bl,i64,smT,smO,smE,htm,hkt,h1,h2]) |skip))
    all_goals(first |done |trace_state)
  ·have ht:tr=false:=by rw[htr,decide_eq_false h1];rfl
   subst ht
   (repeat(first|apply zO (by decide+kernel)|apply zP (by decide+kernel)|(apply zS;(case h=>constructor<;>decide))|((first|apply cD rfl|apply aR|apply zT rfl (by decide) rfl);(case hs=>(simp(disch:=first|omega|exact kD rfl|exact kX rfl) only[smY,simprocAttr,bl,i64,smT,smO,smE,htm,hkt,h1];exact rfl));first|refine cB ?_|refine cC ?_|refine zq ?_|(case hg=>assumption))))
   refine⟨(),?_⟩
   (refine Sub.heapL [0] rfl (by decide) ?_ (by simp only[fB];decide) ?_ ?_;all_goals(first|(simp only[aB,aG,dg,renL,renLs,simprocAttr,bl,i64,smT,smO,smE,htm,hkt,h1];done) |(simp only[aG,dg,renL,renLs,simprocAttr,bl,i64,smT,smO,smE,htm,hkt,h1];(repeat' apply And.intro);all_goals rfl) |(simp only[aG,dg,renL,renLs,simprocAttr,bl,i64,smT,smO,smE,htm,hkt,h1]) |skip))
   all_goals(first |done |trace_state)
 ·rintro -
  simp only[st]
  have hpz:=fun h:(b1==b2)=decide (k % 2=0)=>(hsz.trans h).trans hkz.symm
  rcases hcase with⟨hp,rfl⟩ |⟨hp,⟨hT,rfl⟩ |⟨hk,ht,hT,rfl⟩ |⟨T1,T2,hk,c,gphi,c2,hc⟩⟩
  ·have hpz:(((e1+e2) % (2*(m:Int)))==0)= !((k:Int) % 2==0):=by rw[hsz,hp,hkz]
   have hq:∀ b:Bool,((!b) !=b)=true:=by decide
   refine pK (nd hpz hq) ?_
   exact bPn (nd hpz hq)
  ·have hpz:=hpz hp
   rcases hT with hT |hT
   ·skip
    refine aY1 hpz ?_
    exact bPo hpz
   ·skip
    refine aY1 hpz ?_
    exact bPo hpz
  ·have hpz:=hpz hp
   refine aY1 (nd hpz (nd hk (nd ht hT))) ?_
   exact bPo (nd hpz (nd hk (nd ht hT)))
  ·have hpz:=hpz hp
   refine aDl (α:=Unit) (fun _=>st 160 (lk [(0,.lit (.int .i64 k)),(2,.lit (.int .i64 prec)),(4,.ptr 0 0),(9,.lit (.int .i64 m)),(11,bl tr)]) (cP [(0,⟨58,[.lit (.int .i64 n1),.sl a1 d1,.lit (.int .i64 n2),.sl a2 d2,.lit (.int .i64 T)],false⟩)]) 1) ?_ ?_
   ·refine qW ?_
    by_cases h1:(k:Int)=2
    ·cases htt:tr
     ·skip
      (repeat(first|apply zO (by decide+kernel)|apply zP (by decide+kernel)|(apply zS;(case h=>constructor<;>decide))|((first|apply cD rfl|apply aR|apply zT rfl (by decide) rfl);(case hs=>(simp(disch:=first|omega|exact kD rfl|exact kX rfl) only[smY,simprocAttr,bl,i64,smT,smO,smE,hpz,bne_self_eq_false,h1,htt];exact rfl));first|refine cB ?_|refine cC ?_|refine zq ?_|(case hg=>assumption))))
      refine⟨(),?_⟩
      (refine Sub.heapL [0] rfl (by decide) ?_ (by simp only[fB];decide) ?_ ?_;all_goals(first|(simp only[aB,aG,dg,renL,renLs,simprocAttr,bl,i64,smT,smO,smE,hpz,bne_self_eq_false,h1,htt];done) |(simp only[aG,dg,renL,renLs,simprocAttr,bl,i64,smT,smO,smE,hpz,bne_self_eq_false,h1,htt];(repeat' apply And.intro);all_goals rfl) |(simp only[aG,dg,renL,renLs,simprocAttr,bl,i64,smT,smO,smE,hpz,bne_self_eq_false,h1,htt]) |skip))
      all_goals(first |done |trace_state)
     ·by_cases h2:T=1
      ·exact absurd ⟨by omega,htt,by omega⟩ hk
      ·skip
       (repeat(first|apply zO (by decide+kernel)|apply zP (by decide+kernel)|(apply zS;(case h=>constructor<;>decide))|((first|apply cD rfl|apply aR|apply zT rfl (by decide) rfl);(case hs=>(simp(disch:=first|omega|exact kD rfl|exact kX rfl) only[smY,simprocAttr,bl,i64,smT,smO,smE,hpz,bne_self_eq_false,h1,h2,htt];exact rfl));first|refine cB ?_|refine cC ?_|refine zq ?_|(case hg=>assumption))))
       refine⟨(),?_⟩
       (refine Sub.heapL [0] rfl (by decide) ?_ (by simp only[fB];decide) ?_ ?_;all_goals(first|(simp only[aB,aG,dg,renL,renLs,simprocAttr,bl,i64,smT,smO,smE,hpz,bne_self_eq_false,h1,h2,htt];done) |(simp only[aG,dg,renL,renLs,simprocAttr,bl,i64,smT,smO,smE,hpz,bne_self_eq_false,h1,h2,htt];(repeat' apply And.intro);all_goals rfl) |(simp only[aG,dg,renL,renLs,simprocAttr,bl,i64,smT,smO,smE,hpz,bne_self_eq_false,h1,h2,htt]) |skip))
       all_goals(first |done |trace_state)
    ·skip
     (repeat(first|apply zO (by decide+kernel)|apply zP (by decide+kernel)|(apply zS;(case h=>constructor<;>decide))|((first|apply cD rfl|apply aR|apply zT rfl (by decide) rfl);(case hs=>(simp(disch:=first|omega|exact kD rfl|exact kX rfl) only[smY,simprocAttr,bl,i64,smT,smO,smE,hpz,bne_self_eq_false,h1];exact rfl));first|refine cB ?_|refine cC ?_|refine zq ?_|(case hg=>assumption))))
     refine⟨(),?_⟩
     (refine Sub.heapL [0] rfl (by decide) ?_ (by simp only[fB];decide) ?_ ?_;all_goals(first|(simp only[aB,aG,dg,renL,renLs,simprocAttr,bl,i64,smT,smO,smE,hpz,bne_self_eq_false,h1];done) |(simp only[aG,dg,renL,renLs,simprocAttr,bl,i64,smT,smO,smE,hpz,bne_self_eq_false,h1];(repeat' apply And.intro);all_goals rfl) |(simp only[aG,dg,renL,renLs,simprocAttr,bl,i64,smT,smO,smE,hpz,bne_self_eq_false,h1]) |skip))
     all_goals(first |done |trace_state)
   ·rintro -
    simp only[st]
    rcases hc with⟨c1,rfl⟩ |⟨c1,hP,rfl⟩
    ·skip
     refine zA7 ?_
     exact zQ6
    ·rcases hP with hP |hP
     ·skip
      refine zA7 ?_
      exact zQ6
     ·skip
      refine zA7 ?_
      exact zQ6
theorem aBi {k T prec e n1 n2:Int}{x1 x2:LV}(hx1:∃ a c,x1= .sl a c) (hx2:∃ a c,x2= .sl a c) (hk:2≤k∧k≤40) (he:¬e=0) (g:PureGood Tryz.prog 91 [.agg [i64 n1,x1,i64 n2,x2,i64 T]] (i64 e)):PureGood Tryz.prog 27 [i64 k,.agg [i64 n1,x1,i64 n2,x2,i64 T],i64 prec] (eS e):=by
 unfold eS
 obtain⟨a1,d1,rfl⟩:=hx1
 obtain⟨a2,d2,rfl⟩:=hx2
 simp only[i64]at*
 refine aA bC Tryz.func27 rfl (by decide) (nt:=160) rfl (rs:=[.tmp 6,.tmp 7]) rfl (aZ rfl) ?_
 refine zA7 ?_
 exact zQ6
theorem aRq {k T prec n1 n2:Int}{x1 x2:LV}(hx1:∃ a c,x1= .sl a c) (hx2:∃ a c,x2= .sl a c) (hk:k<2∨40<k):PureGood Tryz.prog 27 [i64 k,.agg [i64 n1,x1,i64 n2,x2,i64 T],i64 prec] (eS 2):=by
 unfold eS
 obtain⟨a1,d1,rfl⟩:=hx1
 obtain⟨a2,d2,rfl⟩:=hx2
 simp only[i64]at*
 rcases hk with hk |hk
 ·refine aA bC Tryz.func27 rfl (by decide) (nt:=160) rfl (rs:=[.tmp 6,.tmp 7]) rfl (aZ rfl) ?_
  refine zA7 ?_
  exact zQ6
 ·refine aA bC Tryz.func27 rfl (by decide) (nt:=160) rfl (rs:=[.tmp 6,.tmp 7]) rfl (aZ rfl) ?_
  refine zA7 ?_
  exact zQ6
end
end Go.Proofs.YtaidcaemdkncgaaGreatDoor
