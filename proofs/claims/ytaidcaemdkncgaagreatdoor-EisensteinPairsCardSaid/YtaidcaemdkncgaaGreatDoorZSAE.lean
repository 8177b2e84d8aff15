/- Contracts of functions of the program, and what proves them (texts: B4 Lg19 B5 B6 Tryz_math_bits_Len32 Tryz_math_bits_LeadingZeros32 Tryz_math_bits_Len64 Tryz_math_bits_Len B7 Num2). -/
import Derived.Test.YtaidcaemdkncgaaGreatDoorProg
import Derived.Lib.Strings
import Derived.Lib.Slices
import Derived.Lib.Small
import Derived.Lib.Walk
import Derived.Lib.BitFns
import Derived.Test.YtaidcaemdkncgaaGreatDoorZSAC
import Derived.Test.YtaidcaemdkncgaaGreatDoorZSAD
set_option linter.all false
set_option maxRecDepth 100000
set_option maxHeartbeats 8000000
namespace Go.Proofs.YtaidcaemdkncgaaGreatDoor
open Go Go.Lg Go.Num
attribute [local irreducible] lrun lwp exThen exBlk keep goodPost
def xT (a b:List Nat):List Nat:=if a.length=0∨b.length=0 then[]else if a.length=1∧b.length=1 then aC (val a*val b)else jD (a.length+b.length) (val a*val b)
theorem aRo {a b:List Nat}(ha:OkD a) (hb:OkD b) (la:a.length≤549755813888) (lb:b.length≤549755813888):
  PGd 226 [dg a,dg b] (dg (xT a b)):=by
 refine aA aV Tryz.func226 rfl (by decide) (nt:=93) rfl (rs:=[.tmp 4]) rfl (aW rfl) ?_;unfold xT;by_cases h0:a.length=0
 ·rw[if_pos (.inl h0)];refine aM ?_;refine gZ ?_;refine iQ ?_;rfl
 by_cases h0':b.length=0
 ·rw[if_pos (.inr h0')];refine aM ?_;refine gZ ?_;refine iQ ?_;rfl
 rw[if_neg (by omega)];by_cases h1:a.length=1∧b.length=1
 ·rw[if_pos h1];have hx:=ha.getD 0;have hy:=hb.getD 0;have hxy:=nH hx hy;obtain⟨h1,h2⟩:=h1;refine aM ?_;refine cQ (g:=(kR (a.getD 0 0*b.getD 0 0) (by omega))) (k:= ?_);refine aM ?_;refine gZ ?_;refine iQ ?_
  have e1:val a=a.getD 0 0:=by
   have:=aD a 0;rw[List.take_of_length_le (by omega)]at this
   simpa[val]using this
  have e2:val b=b.getD 0 0:=by
   have:=aD b 0;rw[List.take_of_length_le (by omega)]at this
   simpa[val]using this
  rw[e1,e2]
 rw[if_neg h1];have hgo:¬(a.length=1∧b.length=1):=h1;by_cases h1:a.length=1
 ·have h2:¬b.length=1:=fun h=>hgo ⟨h1,h⟩
  refine aM ?_
  refine aG (α:={p:Nat×List Nat // p.1≤a.length∧p.2.length=a.length+b.length∧OkD p.2∧val (p.2.take (p.1+b.length))=val (a.take p.1)*val b})
   (fun p=>st 93 (lk [(0,dg a),(1,dg b),(5,.own 0 0 (a.length+b.length) 1),(44,dg a),(45,i64 a.length),(46,i64 p.1.1)]) (cG [(0,⟨185,dB p.1.2,false⟩)]) 1) (fun p=>a.length-p.1.1) ⟨(0,List.replicate (a.length+b.length) 0),by simp,by simp,OkD.replicate _,by simp[List.take_replicate,gM,val]⟩ ?_ ?_
  ·(refine Sub.heap1 22 ?_ (by simp only[aI,simprocAttr,bl,u32,u64,i64];exact rfl) ?_ ?_;all_goals(first |exact aE _ |with_reducible rfl |(simp only[aI,simprocAttr,bl,u32,u64,i64])|skip))
   exact iR _
  ·rintro⟨⟨i,r⟩,hi,hr,hor,he⟩;simp only at hi hr hor he;simp only[st];have hx:=ha.getD i;by_cases h3:i<a.length
   ·refine aM ?_
    refine aG (α:={p:Nat×List Nat×Nat // p.1≤b.length∧p.2.1.length=a.length+b.length∧OkD p.2.1∧p.2.2<4294967296∧p.2.1.drop (i+p.1)=r.drop (i+p.1)∧val (p.2.1.take (i+p.1))+4294967296^i*4294967296^p.1*p.2.2=val (r.take (i+p.1))+4294967296^i*a.getD i 0*val (b.take p.1)})
     (fun p=>st 93 (lk [(0,dg a),(1,dg b),(5,.own 0 0 (a.length+b.length) 1),(6,i64 i),(7,u32 (a.getD i 0)),(8,u64 p.1.2.2),(44,dg a),(45,i64 a.length),(46,i64 i),(51,dg b),(52,i64 b.length),(53,i64 p.1.1)]) (cG [(0,⟨185,dB p.1.2.1,false⟩)]) 1) (fun p=>b.length-p.1.1) ⟨(0,r,0),by simp,hr,hor,by simp,rfl,by simp[val]⟩ ?_ ?_
    ·exact zO0 0
    ·rintro⟨⟨j,q,c⟩,hj,hq,hoq,hc,hd,hv⟩;simp only at hj hq hoq hc hd hv;simp only[st];have hy:=hb.getD j;have hz:=hoq.getD (i+j);have hxy:=nH hx hy;by_cases h4:j<b.length
     ·refine aM ?_;refine⟨⟨(j+1,q.set (i+j) ((a.getD i 0*b.getD j 0+q.getD (i+j) 0+c) % 4294967296),(a.getD i 0*b.getD j 0+q.getD (i+j) 0+c) / 4294967296),by simp only;omega,by simp[hq],hoq.set (by omega),by simp only;omega,qI hd,?_⟩,?_,by simp only;omega⟩
      ·simp only;rw[← Nat.add_assoc i j 1,cC (by omega),aD,aD,Nat.pow_add,Nat.pow_succ,← sD hd,← Nat.mul_assoc (4294967296^i)];exact aE5 hv rfl
      ·(refine Sub.heap1 0 ?_ (by simp only[aI,simprocAttr,bl,u32,u64,i64];exact rfl) ?_ ?_;all_goals(first |exact aE _ |with_reducible rfl |(simp only[aI,simprocAttr,bl,u32,u64,i64])|skip))
       ·simp only[true_and]
        (simp only[LV.lit.injEq,Value.int.injEq,true_and,and_true,dg,LV.sl.injEq];omega)
       ·have e:((((a.getD i 0:Nat):Int)*(b.getD j 0:Nat)+(q.getD (i+j) 0:Nat)+c) % 4294967296).toNat=(a.getD i 0*b.getD j 0+q.getD (i+j) 0+c) % 4294967296:=by omega
        rw[e]
     ·have hj2:j=b.length:=by omega
      subst hj2;refine aM ?_;refine⟨⟨(i+1,q.set (i+b.length) c),by simp only;omega,by simp[hq],hoq.set hc,?_⟩,?_,by simp only;omega⟩
      ·simp only;rw[Nat.add_right_comm,cC (by omega),Nat.pow_add,hv,List.take_of_length_le (Nat.le_refl _),he,aD,Nat.add_mul]
      ·exact zO0 0
   ·have hi2:i=a.length:=by omega
    subst hi2;refine aM ?_;refine gZ ?_;refine iQ ?_;rw[List.take_of_length_le (Nat.le_of_eq hr)]at he
    rw[List.take_of_length_le (Nat.le_refl _)]at he
    rw[← gX hor hr he,List.take_of_length_le (Nat.le_of_eq hr),hr]
 ·skip
  refine aM ?_
  refine aG (α:={p:Nat×List Nat // p.1≤a.length∧p.2.length=a.length+b.length∧OkD p.2∧val (p.2.take (p.1+b.length))=val (a.take p.1)*val b})
   (fun p=>st 93 (lk [(0,dg a),(1,dg b),(5,.own 0 0 (a.length+b.length) 1),(44,dg a),(45,i64 a.length),(46,i64 p.1.1)]) (cG [(0,⟨185,dB p.1.2,false⟩)]) 1) (fun p=>a.length-p.1.1) ⟨(0,List.replicate (a.length+b.length) 0),by simp,by simp,OkD.replicate _,by simp[List.take_replicate,gM,val]⟩ ?_ ?_
  ·(refine Sub.heap1 22 ?_ (by simp only[aI,simprocAttr,bl,u32,u64,i64];exact rfl) ?_ ?_;all_goals(first |exact aE _ |with_reducible rfl |(simp only[aI,simprocAttr,bl,u32,u64,i64])|skip))
   exact iR _
  ·rintro⟨⟨i,r⟩,hi,hr,hor,he⟩;simp only at hi hr hor he;simp only[st];have hx:=ha.getD i;by_cases h3:i<a.length
   ·refine aM ?_
    refine aG (α:={p:Nat×List Nat×Nat // p.1≤b.length∧p.2.1.length=a.length+b.length∧OkD p.2.1∧p.2.2<4294967296∧p.2.1.drop (i+p.1)=r.drop (i+p.1)∧val (p.2.1.take (i+p.1))+4294967296^i*4294967296^p.1*p.2.2=val (r.take (i+p.1))+4294967296^i*a.getD i 0*val (b.take p.1)})
     (fun p=>st 93 (lk [(0,dg a),(1,dg b),(5,.own 0 0 (a.length+b.length) 1),(6,i64 i),(7,u32 (a.getD i 0)),(8,u64 p.1.2.2),(44,dg a),(45,i64 a.length),(46,i64 i),(51,dg b),(52,i64 b.length),(53,i64 p.1.1)]) (cG [(0,⟨185,dB p.1.2.1,false⟩)]) 1) (fun p=>b.length-p.1.1) ⟨(0,r,0),by simp,hr,hor,by simp,rfl,by simp[val]⟩ ?_ ?_
    ·exact zO0 0
    ·rintro⟨⟨j,q,c⟩,hj,hq,hoq,hc,hd,hv⟩;simp only at hj hq hoq hc hd hv;simp only[st];have hy:=hb.getD j;have hz:=hoq.getD (i+j);have hxy:=nH hx hy;by_cases h4:j<b.length
     ·refine aM ?_;refine⟨⟨(j+1,q.set (i+j) ((a.getD i 0*b.getD j 0+q.getD (i+j) 0+c) % 4294967296),(a.getD i 0*b.getD j 0+q.getD (i+j) 0+c) / 4294967296),by simp only;omega,by simp[hq],hoq.set (by omega),by simp only;omega,qI hd,?_⟩,?_,by simp only;omega⟩
      ·simp only;rw[← Nat.add_assoc i j 1,cC (by omega),aD,aD,Nat.pow_add,Nat.pow_succ,← sD hd,← Nat.mul_assoc (4294967296^i)];exact aE5 hv rfl
      ·(refine Sub.heap1 0 ?_ (by simp only[aI,simprocAttr,bl,u32,u64,i64];exact rfl) ?_ ?_;all_goals(first |exact aE _ |with_reducible rfl |(simp only[aI,simprocAttr,bl,u32,u64,i64])|skip))
       ·simp only[true_and]
        (simp only[LV.lit.injEq,Value.int.injEq,true_and,and_true,dg,LV.sl.injEq];omega)
       ·have e:((((a.getD i 0:Nat):Int)*(b.getD j 0:Nat)+(q.getD (i+j) 0:Nat)+c) % 4294967296).toNat=(a.getD i 0*b.getD j 0+q.getD (i+j) 0+c) % 4294967296:=by omega
        rw[e]
     ·have hj2:j=b.length:=by omega
      subst hj2;refine aM ?_;refine⟨⟨(i+1,q.set (i+b.length) c),by simp only;omega,by simp[hq],hoq.set hc,?_⟩,?_,by simp only;omega⟩
      ·simp only;rw[Nat.add_right_comm,cC (by omega),Nat.pow_add,hv,List.take_of_length_le (Nat.le_refl _),he,aD,Nat.add_mul]
      ·exact zO0 0
   ·have hi2:i=a.length:=by omega
    subst hi2;refine aM ?_;refine gZ ?_;refine iQ ?_;rw[List.take_of_length_le (Nat.le_of_eq hr)]at he
    rw[List.take_of_length_le (Nat.le_refl _)]at he
    rw[← gX hor hr he,List.take_of_length_le (Nat.le_of_eq hr),hr]
end Go.Proofs.YtaidcaemdkncgaaGreatDoor
namespace Go.Lg
open Go
def jX (P:Program) [Laid P] (f:FuncId) (args:List LV) (n sz:Nat) (ty:TypeId) (cells:List LV):Prop:=
 aCp P f∧(∀ c∈cells,aB c=true)∧∀ (w:World) (St:Nat→Prop) (vs:List Value),(∀ g,St g→g<w.heap.size)→fN P St w.heap→Reps St w.heap (fun _=>none) args vs→
  Calls P f vs.toArray w fun e w'=>∃ v St' g cs,e= .returned v∧Rep St' w'.heap (fun b=>if b=0 then some (g,cs.size)else none) (.own 0 0 n sz) v∧w.heap.size≤g∧g<w'.heap.size∧¬St' g∧w'.heap[g]? =some (.cells cs ty (0,0))∧cells.length≤cs.size∧
   Reps St' w'.heap (fun _=>none) cells (cs.toList.take cells.length)∧(∀ u∈cs.toList.take cells.length,u.oneCell'=true)∧(∀ g,St g→St' g)∧(∀ g,St' g→g<w'.heap.size∧(St g∨w.heap.size≤g))∧
   w'.os=w.os∧w'.tape=w.tape∧w'.output=w.output∧w.heap.size≤w'.heap.size∧∀ g,g<w.heap.size→w'.heap[g]? =w.heap[g]?
def aUk (P:Program) (rs:List ResultVar) (n sz:Nat) (ty:TypeId) (cells:List LV):Exit→LS→Prop
 | .ret,s=>∃ b,fF P rs s=some (.own b 0 n sz)∧s.h b=some ⟨ty,cells,false⟩
 | .normal,s=>∃ b,fF P rs s=some (.own b 0 n sz)∧s.h b=some ⟨ty,cells,false⟩
 |_,_=>False
theorem sF {P:Program}[Laid P] (hmix:P.follows .mixedOrders=true) {f:FuncId}{fn:Func}{c:Code}{args:List LV}{n sz:Nat}{ty:TypeId}{cells:List LV}(hf:P.funcs[f]? =some fn) (hb:fn.body=some c) (hname:fn.name≠ "runtime.NumGoroutine")
  {nt:Nat}(hnt:fn.ntmps=nt) {rs:List ResultVar}(hrs:fn.results.toList=rs) (hn:args.length≤nt) (hpl:∀ c∈cells,aB c=true)
  (h:lwp P 0 c (aUk P rs n sz ty cells) ⟨nt,fun i=>args.getD i .dead,fun _=>none,0⟩):jX P f args n sz ty cells:=by
 subst hnt hrs;refine⟨⟨fn,hf,hname,by rw[hb];rfl⟩,hpl,fun w St vs hSt hLd hr=> ?_⟩;refine calls_of_wp hf hb (fR hmix (A:=fun _=>none) (na:=0) (w0:=w) (M:=fun _=>False) (St0:=St) (fO.of hLd fun g hg=>⟨fun h=>h,hSt _ hg⟩) c h (Nat.zero_le _) ?_ ?_)
 ·refine⟨rfl,fun _=>none,St,⟨fun i=> ?_,?_,by simp,by simp,by simp,fun g hg=>⟨hSt g hg,.inl hg⟩,fun _ h=>h,rfl,rfl,rfl,Nat.le_refl _,fun _ _ _=>rfl⟩,fun _ _=>rfl,by simp⟩
  ·simp only[List.getD_eq_getElem?_getD,Array.getD_eq_getD_getElem?]
   cases hc:args[i]? with
   |none=>exact .dead _
   |some x=>
    have hlt:i<args.length:=(List.getElem?_eq_some_iff.1 hc).1;have hlt2:i<vs.length:=by have:=hr.1;omega
    have hu:vs[i]? =some vs[i]:=List.getElem?_eq_getElem hlt2
    have:(vs.toArray++Array.replicate (fn.ntmps-vs.toArray.size) undef)[i]? =some vs[i]:=by
      rw[Array.getElem?_append_left (by simpa using hlt2)];simpa using hu
    rw[this];exact hr.2 i x vs[i] hc hu
  ·have:=hr.1;simp;omega
 ·intro e s' a' w' he _ hs';obtain⟨hdf,μ,St',hI,_⟩:=hs'
  have fin:(∃ b,fF P fn.results.toList s'=some (.own b 0 n sz)∧s'.h b=some ⟨ty,cells,false⟩)→bodyPost P fn (fun e w'=>∃ v St' g cs,e= .returned v∧Rep St' w'.heap (fun b=>if b=0 then some (g,cs.size)else none) (.own 0 0 n sz) v∧w.heap.size≤g∧g<w'.heap.size∧¬St' g∧w'.heap[g]? =some (.cells cs ty (0,0))∧cells.length≤cs.size∧
   Reps St' w'.heap (fun _=>none) cells (cs.toList.take cells.length)∧(∀ u∈cs.toList.take cells.length,u.oneCell'=true)∧(∀ g,St g→St' g)∧(∀ g,St' g→g<w'.heap.size∧(St g∨w.heap.size≤g))∧
   w'.os=w.os∧w'.tape=w.tape∧w'.output=w.output∧w.heap.size≤w'.heap.size∧∀ g,g<w.heap.size→w'.heap[g]? =w.heap[g]?) .ret a' w':=by
   rintro⟨b,hx,hbk⟩;obtain⟨v,hv,hV⟩:=qU hI hx;obtain⟨g,R,cs,hm,hg,hsz,hle,hrc,h1,_,hnS⟩:=hI.blk b _ hbk;have hns:=hnS rfl;refine⟨hdf,v,hv,v,St',g,cs,rfl,?_,?_,(hI.lt b g R hm).1,hns,hg,hle,fE hpl hrc,h1,fun g hg=>hI.st0 g hg,fun g hg=> ?_,hI.os,hI.tape,hI.output,hI.size,fun g hg=>hI.kept g hg (fun h=>h)⟩
   ·cases hV with
    |own hb' hn hc hR=>
     rw[hm]at hb'
     cases hb'
     exact .own (by rw[if_pos rfl]) hn hc (by rw[hR,← hsz])
   ·rcases(hI.lt b g R hm).2 with hh |hh |hh
    ·exact hh.elim
    ·exact hh
    ·exact absurd hh hns
   ·obtain⟨h1,h2⟩:=hI.st_lt g hg;exact⟨h1,h2.imp id (fun h=>h.resolve_left (fun h=>h))⟩
  cases e with
  |ret=>exact fin he
  |normal=>exact fin he
  |_=>exact he.elim
theorem bCl {P:Program}[Laid P] {f:FuncId}{args:List LV}{n sz:Nat}{ty:TypeId}{cells:List LV}{h:Nat→Option Blk}{nb:Nat}(hg:jX P f args n sz ty cells) (ha:∀ c∈args,aB c=true) (hnb:h nb=none):
  mP P f args h nb (.own nb 0 n sz) (dE h nb (some ⟨ty,cells,false⟩)) (nb+1):=by
 obtain⟨hen,hpl,hgood⟩:=hg;refine⟨hen,fun w0 M St0 μ St w vs hL h0 hμ hvs=> ?_⟩;refine(hgood w St _ (fun g hg=>(h0.st_lt g hg).1) (h0.laid hL) (fE ha hvs)).mono ?_;rintro e w' ⟨v,St',g,cs,rfl,hv,hge,hlt,hns,hg,hle,hr,h1,hs1,hs2,hos,htp,hout,hsize,hkept⟩;have hS:∀ g,St g→w'.heap[g]? =w.heap[g]? :=fun g hg=>hkept g (h0.st_lt g hg).1
 have hup:∀ b r,μ b=some r→dE μ nb (some (g,cs.size)) b=some r:=fun b r hb=>by
  by_cases hbn:b=nb
  ·subst hbn;rw[hμ b (Nat.le_refl _)]at hb;cases hb
  ·rw[bW _ _ _ _ hbn];exact hb
 refine⟨v,dE μ nb (some (g,cs.size)),St',rfl,?_,?_,fun b hb=>bW _ _ _ _ (by omega),fun b hb=>by rw[bW _ _ _ _ (by omega)];exact hμ b (by omega),hs1,hS⟩
 ·refine⟨fun _=> .dead _,rfl,?_,?_,?_,fun g' hg'=>⟨(hs2 g' hg').1,?_⟩,fun g hg=>hs1 g (h0.st0 g hg),hos.trans h0.os,htp.trans h0.tape,hout.trans h0.output,Nat.le_trans h0.size hsize,fun g' hg' hM=>(hkept g' (Nat.lt_of_lt_of_le hg' h0.size)).trans (h0.kept g' hg' hM)⟩
  ·intro b k hb;by_cases hbn:b=nb
   ·subst hbn;simp only[cH]at hb⊢
    cases hb
    exact⟨g,cs.size,cs,rfl,hg,rfl,hle,fE hpl hr,h1,by simp,fun _=>hns⟩
   ·simp only[bW _ _ _ _ hbn]at hb⊢;obtain⟨g2,R2,cs2,hm2,hg2,hcs2,hle2,hr2,ho2,hfz2,hnfz2⟩:=h0.blk b k hb;have hlt2:=(h0.lt b g2 R2 hm2).1;refine⟨g2,R2,cs2,hm2,by rw[hkept g2 hlt2];exact hg2,hcs2,hle2,hr2.mono hs1 hS hup,ho2,fun hh=>hs1 g2 (hfz2 hh),fun hh hst=> ?_⟩;rcases(hs2 g2 hst).2 with h3 |h3
    ·exact hnfz2 hh h3
    ·omega
  ·intro b b' k k' g1 R1 R2 hb hb' hm hm';by_cases hbn:b=nb <;>by_cases hbn':b'=nb
   ·rw[hbn,hbn']
   ·subst hbn;simp only[cH,bW _ _ _ _ hbn']at*
    cases hm
    have:=(h0.lt _ _ _ hm').1;omega
   ·subst hbn';simp only[cH,bW _ _ _ _ hbn]at*
    cases hm'
    have:=(h0.lt _ _ _ hm).1;omega
   ·simp only[bW _ _ _ _ hbn,bW _ _ _ _ hbn']at*;exact h0.inj b b' k k' g1 R1 R2 hb hb' hm hm'
  ·intro b g1 R1 hm;by_cases hbn:b=nb
   ·subst hbn;rw[cH]at hm
    cases hm
    exact⟨hlt,.inr (.inl (Nat.le_trans h0.size hge))⟩
   ·rw[bW _ _ _ _ hbn]at hm
    exact⟨Nat.lt_of_lt_of_le (h0.lt _ _ _ hm).1 hsize,(h0.lt _ _ _ hm).2.imp id (Or.imp id (hs1 _))⟩
  ·rcases(hs2 g' hg').2 with hh |hh
   ·exact(h0.st_lt g' hh).2
   ·exact .inr (.inr (Nat.le_trans h0.size hh))
 ·cases hv with
  |own hb' hn hc hR=>
   simp only[if_true,Option.some.injEq,Prod.mk.injEq]at hb';obtain⟨rfl,rfl⟩:=hb';exact .own (cH _ _ _) hn hc hR
theorem aCw {P:Program}[Laid P] {f:FuncId}{args:List LV}{n sz:Nat}{ty:TypeId}{cells:List LV}(hg:jX P f args n sz ty cells) (ha:∀ c∈args,aB c=true) (hl:cells.length=n*sz) (hp:∀ c∈cells,fK c=true):cU P f args (.sl n cells):=by
 obtain⟨hen,hpl,hgood⟩:=hg;refine⟨hen,fun w St vs hSt hLd hvs=> ?_⟩;refine(hgood w St vs hSt hLd hvs).mono ?_;rintro e w' ⟨v,St',g,cs,rfl,hv,hge,hlt,hns,hg,hle,hr,h1,hs1,hs2,hos,htp,hout,hsize,hkept⟩;refine⟨v,fun g'=>St' g'∨g'=g,rfl,?_,fun g hg=> .inl (hs1 g hg),fun g' hg'=> ?_,hos,htp,hout,hsize,hkept⟩
 ·cases hv with
  |own hb' hn hc hR=>
   simp only[if_true,Option.some.injEq,Prod.mk.injEq]at hb';obtain⟨rfl,rfl⟩:=hb';refine .sl hn hc rfl hr.1 (fun j u hu=>⟨.inr rfl,?_⟩) h1 (fun j c u hc hu=>(hr.2 j c u hc hu).mono (fun _ h=> .inl h) (fun _ _=>rfl) (fun _ _ h=>h));simp only[cellAt,hg,Nat.zero_add];have hj:j<(cs.toList.take cells.length).length:=(List.getElem?_eq_some_iff.1 hu).1;rw[List.getElem?_take]at hu
   split at hu
   · simpa using hu
   · cases hu
 ·rcases hg' with hg' |rfl
  ·exact hs2 g' hg'
  ·exact⟨hlt,.inr hge⟩
theorem aUl {P:Program}[Laid P] {rs:List ResultVar}{n sz b:Nat}{ty:TypeId}{cells cells':List LV}{fz:Bool}{s:LS}(hres:fF P rs s=some (.own b 0 n sz)) (h0:s.h b=some ⟨ty,cells',fz⟩) (hc:cells'=cells) (hf:fz=false):aUk P rs n sz ty cells .ret s:=by
 subst hc hf;exact⟨b,hres,h0⟩
theorem wB {P:Program}[Laid P] {base i:Nat}{ok:Nat→Nat→Bool}{ops:Array Oper}{o:Oper}{rest:List Oper}{n nb d m:Nat}{F:Nat→LV}{H:Nat→Option Blk}{K:LS→Prop}{c:Call}{f:FuncId}{args:List LV}{k sz:Nat}{ty:TypeId}{cells:List LV}
  (hm:max nb (base+ops.size)=m) (hop:o.op= .call c) (hcal:c.callee= .value (.func f)) (hd:o.dst=some d) (hn:d<n) (hw:cS ops o ⟨n,F,H,nb⟩=some true) (hargs:c.args.toList.map (opnd ⟨n,F,H,nb⟩)=args) (hg:jX P f args k sz ty cells) (ha:∀ c∈args,aB c=true) (hnb:H m=none)
  (hk:lrun P true base ok ops (i+1) rest ⟨n,dE F d (.own m 0 k sz),dE H m (some ⟨ty,cells,false⟩),m+1⟩ K):lrun P true base ok ops i (o::rest) ⟨n,F,H,nb⟩ K:=by
 subst hm;exact .inr (.inl ⟨rfl,c,.func f,f,[],d,_,_,_,hop,hcal,rfl,hd,hn,hw,by rw[List.append_nil,hargs];exact bCl hg ha hnb,Nat.le_succ _,hk⟩)
theorem bCm {P:Program}[Laid P] {base i:Nat}{ok:Nat→Nat→Bool}{ops:Array Oper}{o:Oper}{rest:List Oper}{n nb d m:Nat}{F:Nat→LV}{H:Nat→Option Blk}{K:LS→Prop}{c:Call}{f:FuncId}{args args':List LV}{r:LV}{ty:TypeId}{cells cells':List LV}(b:Nat)
  (hm:max nb (base+ops.size)=m) (hop:o.op= .call c) (hcal:c.callee= .value (.func f)) (hd:o.dst=some d) (hn:d<n) (hw:cS ops o ⟨n,F,H,nb⟩=some true) (hargs:c.args.toList.map (opnd ⟨n,F,H,nb⟩)=args') (hb:H b=some ⟨ty,cells,false⟩) (hg:zC P f args ty cells r cells') (hren:renLs 1 (fun _=>b) args=some args')
  (hpl:∀ c∈cells,aB c=true) (hpl':∀ c∈cells',aB c=true)
  (hk:lrun P true base ok ops (i+1) rest ⟨n,dE F d r,dE H b (some ⟨ty,cells',false⟩),m⟩ K):lrun P true base ok ops i (o::rest) ⟨n,F,H,nb⟩ K:=by
 subst hm;exact bH2 b hop hcal hd hn hw hb hg (by rw[hren,hargs]) hpl hpl' hk
theorem Sub.heap2 {n:Nat}{f:Nat→LV}{h:Nat→Option Blk}{nb ty1 ty2:Nat}{cs1 cs1' cs2 cs2':List LV}{fz1 fz2:Bool}{l:List (Nat×LV)}(b0 b1:Nat) (hne:b0≠b1) (hf:∀ p∈l,renL 2 (fun b=>if b=0 then b0 else b1) p.2=some (f p.1))
  (hb0:h b0=some ⟨ty1,cs1',fz1⟩) (hb1:h b1=some ⟨ty2,cs2',fz2⟩) (hc0:cs1'=cs1) (hc1:cs2'=cs2) (hp0:∀ c∈cs1,aB c=true) (hp1:∀ c∈cs2,aB c=true):
  Sub 0 ⟨n,f,h,nb⟩ ⟨n,lk l,cG [(0,⟨ty1,cs1,fz1⟩),(1,⟨ty2,cs2,fz2⟩)],2⟩:=by
 subst hc0 hc1;refine Sub.heap (fun b=>if b=0 then b0 else b1) hf ?_ ?_ ⟨by omega,fun b hb=>by omega⟩
 ·intro p hp';simp only[List.mem_cons,List.not_mem_nil,or_false]at hp';rcases hp' with rfl |rfl
  ·exact⟨by simp,cs1',by simpa using hb0,cM hp0⟩
  ·exact⟨by simp,cs2',by simpa using hb1,cM hp1⟩
 ·intro p hp' q hq heq;simp only[List.mem_cons,List.not_mem_nil,or_false]at hp' hq;rcases hp' with rfl |rfl <;>rcases hq with rfl |rfl <;>simp_all
theorem Sub.heapL {n:Nat}{f:Nat→LV}{h:Nat→Option Blk}{nb nb':Nat}{l:List (Nat×LV)}{hl:List (Nat×Blk)}(ρ:List Nat) (hnb:nb'=ρ.length) (hd:ρ.Nodup) (hf:∀ p∈l,renL nb' (fun b=>ρ.getD b 0) p.2=some (f p.1))
  (hlt:∀ p∈hl,p.1<ρ.length) (hb:∀ p∈hl,h (ρ.getD p.1 0)=some p.2) (hp:∀ p∈hl,∀ c∈p.2.cells,aB c=true):Sub 0 ⟨n,f,h,nb⟩ ⟨n,lk l,cG hl,nb'⟩:=by
 subst hnb;refine Sub.heap (fun b=>ρ.getD b 0) hf (fun p hp'=>⟨hlt p hp',p.2.cells,?_,cM (hp p hp')⟩) ?_ ⟨by omega,fun b hb=>by omega⟩
 ·exact hb p hp'
 ·intro p hp' q hq heq;have h1:=hlt p hp';have h2:=hlt q hq;simp only[List.getD_eq_getElem?_getD,List.getElem?_eq_getElem h1,List.getElem?_eq_getElem h2,Option.getD_some]at heq;exact(List.getElem_inj hd).1 heq
theorem fX {P:Program}[Laid P] {base i:Nat}{mu:Bool}{ok:Nat→Nat→Bool}{ops:Array Oper}{o:Oper}{rest:List Oper}{n nb d:Nat}{F:Nat→LV}{H:Nat→Option Blk}{K:LS→Prop}
  (hd:o.dst=some d) (hn:d<n) (hw:cS ops o ⟨n,F,H,nb⟩=some false) (hk:lrun P mu base ok ops (i+1) rest ⟨n,dE F d bP,H,nb⟩ K):lrun P mu base ok ops i (o::rest) ⟨n,F,H,nb⟩ K:=by
 refine .inl ⟨by simp[nR,hd,hn],?_⟩;rw[hw];refine⟨fun _=> ?_,by simp⟩;rw[hd];exact hk
section
variable {P:Program}[Laid P] {na base i j d n nb nb' ty:Nat}{mu b fz0:Bool}{ok:Nat→Nat→Bool}{ops:Array Oper}{o:Oper}{F f:Nat→LV}{H h:Nat→Option Blk}{Φ:Exit→LS→Prop}{K:LS→Prop}{s s':LS}{l:List (Nat×LV)}{hl:List (Nat×Blk)}{cs cs':List LV}{fn:FuncId}{args:List LV}{fz:List Nat}{r v:LV}{rs:List ResultVar}{e:Exit}{A G G':Prop}{lo:List Oper}
theorem zL0 (ρ:List Nat) (q:(∀ p∈l,renL nb' (fun b=>ρ.getD b 0) p.2=some (f p.1))∧(∀ p∈hl,h (ρ.getD p.1 0)=some p.2)∧∀ p∈hl,∀ c∈p.2.cells,aB c=true:=by refine⟨?_,?_,?_⟩<;>(first|(simp only[aB,aI,simprocAttr,bl,i64,smT];done)|(simp only[aI,simprocAttr,bl,i64,smT];done)|(simp only[aI,simprocAttr,bl,i64,smT];(repeat' apply And.intro);all_goals(first|trivial|rfl|(simp;done)))|((repeat' apply And.intro);all_goals(first|trivial|rfl|(simp;done))))) (hnb:nb'=ρ.length:=by exact rfl) (hd:ρ.Nodup:=by decide) (hlt:∀ p∈hl,p.1<ρ.length:=by simp only[smL];decide):Sub 0 ⟨n,f,h,nb⟩ ⟨n,lk l,cG hl,nb'⟩:=Sub.heapL ρ hnb hd q.1 hlt q.2.1 q.2.2
theorem zL1 (ρ:List Nat) (q:(∀ p∈l,renL nb' (fun b=>ρ.getD b 0) p.2=some (f p.1))∧(∀ p∈hl,h (ρ.getD p.1 0)=some p.2)∧∀ p∈hl,∀ c∈p.2.cells,aB c=true:=by refine⟨?_,?_,?_⟩<;>(first|(simp only[aB,aI,simprocAttr,bl,i64,smT,smO];done)|(simp only[aI,simprocAttr,bl,i64,smT,smO];done)|(simp only[aI,simprocAttr,bl,i64,smT,smO];(repeat' apply And.intro);all_goals(first|trivial|rfl|(simp;done)))|((repeat' apply And.intro);all_goals(first|trivial|rfl|(simp;done))))) (hnb:nb'=ρ.length:=by exact rfl) (hd:ρ.Nodup:=by decide) (hlt:∀ p∈hl,p.1<ρ.length:=by simp only[smL];decide):Sub 0 ⟨n,f,h,nb⟩ ⟨n,lk l,cG hl,nb'⟩:=Sub.heapL ρ hnb hd q.1 hlt q.2.1 q.2.2
theorem zL2 (ρ:List Nat) (q:(∀ p∈l,renL nb' (fun b=>ρ.getD b 0) p.2=some (f p.1))∧(∀ p∈hl,h (ρ.getD p.1 0)=some p.2)∧∀ p∈hl,∀ c∈p.2.cells,aB c=true:=by refine⟨?_,?_,?_⟩<;>(first|(simp only[aB,aI,simprocAttr,bl,i64,smT,smO,smE];done)|(simp only[aI,simprocAttr,bl,i64,smT,smO,smE];done)|(simp only[aI,simprocAttr,bl,i64,smT,smO,smE];(repeat' apply And.intro);all_goals(first|trivial|rfl|(simp;done)))|((repeat' apply And.intro);all_goals(first|trivial|rfl|(simp;done))))) (hnb:nb'=ρ.length:=by exact rfl) (hd:ρ.Nodup:=by decide) (hlt:∀ p∈hl,p.1<ρ.length:=by simp only[smL];decide):Sub 0 ⟨n,f,h,nb⟩ ⟨n,lk l,cG hl,nb'⟩:=Sub.heapL ρ hnb hd q.1 hlt q.2.1 q.2.2
theorem zL3 (ρ:List Nat) (q:(∀ p∈l,renL nb' (fun b=>ρ.getD b 0) p.2=some (f p.1))∧(∀ p∈hl,h (ρ.getD p.1 0)=some p.2)∧∀ p∈hl,∀ c∈p.2.cells,aB c=true:=by refine⟨?_,?_,?_⟩<;>(first|(simp only[aB,aI,simprocAttr,bl,i64,smE];done)|(simp only[aI,simprocAttr,bl,i64,smE];done)|(simp only[aI,simprocAttr,bl,i64,smE];(repeat' apply And.intro);all_goals(first|trivial|rfl|(simp;done)))|((repeat' apply And.intro);all_goals(first|trivial|rfl|(simp;done))))) (hnb:nb'=ρ.length:=by exact rfl) (hd:ρ.Nodup:=by decide) (hlt:∀ p∈hl,p.1<ρ.length:=by simp only[smL];decide):Sub 0 ⟨n,f,h,nb⟩ ⟨n,lk l,cG hl,nb'⟩:=Sub.heapL ρ hnb hd q.1 hlt q.2.1 q.2.2
theorem aE7 (hX:A) (ρ:List Nat) (q:A→(∀ p∈l,renL nb' (fun b=>ρ.getD b 0) p.2=some (f p.1))∧(∀ p∈hl,h (ρ.getD p.1 0)=some p.2)∧∀ p∈hl,∀ c∈p.2.cells,aB c=true:=by intro hX;refine⟨?_,?_,?_⟩<;>(first|(simp only[aB,aI,simprocAttr,bl,i64,smE,hX];done)|(simp only[aI,simprocAttr,bl,i64,smE,hX];done)|(simp only[aI,simprocAttr,bl,i64,smE,hX];(repeat' apply And.intro);all_goals(first|trivial|rfl|(simp;done)))|((repeat' apply And.intro);all_goals(first|trivial|rfl|(simp;done))))) (hnb:nb'=ρ.length:=by exact rfl) (hd:ρ.Nodup:=by decide) (hlt:∀ p∈hl,p.1<ρ.length:=by simp only[smL];decide):Sub 0 ⟨n,f,h,nb⟩ ⟨n,lk l,cG hl,nb'⟩:=Sub.heapL ρ hnb hd (q hX).1 hlt (q hX).2.1 (q hX).2.2
theorem bT9 (hX:A) (ρ:List Nat) (q:A→(∀ p∈l,renL nb' (fun b=>ρ.getD b 0) p.2=some (f p.1))∧(∀ p∈hl,h (ρ.getD p.1 0)=some p.2)∧∀ p∈hl,∀ c∈p.2.cells,aB c=true:=by intro hX;refine⟨?_,?_,?_⟩<;>(first|(simp only[aB,aI,simprocAttr,bl,i64,smT,smO,smE,hX];done)|(simp only[aI,simprocAttr,bl,i64,smT,smO,smE,hX];done)|(simp only[aI,simprocAttr,bl,i64,smT,smO,smE,hX];(repeat' apply And.intro);all_goals(first|trivial|rfl|(simp;done)))|((repeat' apply And.intro);all_goals(first|trivial|rfl|(simp;done))))) (hnb:nb'=ρ.length:=by exact rfl) (hd:ρ.Nodup:=by decide) (hlt:∀ p∈hl,p.1<ρ.length:=by simp only[smL];decide):Sub 0 ⟨n,f,h,nb⟩ ⟨n,lk l,cG hl,nb'⟩:=Sub.heapL ρ hnb hd (q hX).1 hlt (q hX).2.1 (q hX).2.2
end
theorem fY {n:Nat}{f:Nat→LV}{h:Nat→Option Blk}{nb nb':Nat}{l:List (Nat×LV)}{hl:List (Nat×Blk)}(ρ:List Nat) (hf:∀ p∈l,renL nb' (fun b=>ρ.getD b 0) p.2=some (f p.1)) (hb:∀ p∈hl,h (ρ.getD p.1 0)=some p.2) (hp:∀ p∈hl,∀ c∈p.2.cells,aB c=true) (hnb:nb'=ρ.length:=by exact rfl) (hd:ρ.Nodup:=by decide) (hlt:∀ p∈hl,p.1<ρ.length:=by simp only[smL];decide):Sub 0 ⟨n,f,h,nb⟩ ⟨n,lk l,cG hl,nb'⟩:=Sub.heapL ρ hnb hd hf hlt hb hp
end Go.Lg
namespace Go.Proofs.YtaidcaemdkncgaaGreatDoor
section
open Go Go.Lg Go.Num
attribute [local irreducible] lrun lwp exThen exBlk keep goodPost
theorem aRp {hi lo y:Nat}(h1:hi<y) (h2:lo<4294967296) (h3:y<4294967296):
  PGd 340 [u32 hi,u32 lo,u32 y] (.tup [u32 ((hi*4294967296+lo) / y),u32 ((hi*4294967296+lo) % y)]):=by
 unfold u32;have hq:(hi*4294967296+lo) / y<4294967296:=Nat.div_lt_of_lt_mul (by omega);have hr:(hi*4294967296+lo) % y<y:=Nat.mod_lt _ (by omega);have hq0:=Int.natCast_nonneg ((hi*4294967296+lo) / y);refine aA aV Tryz.func340 rfl (by decide) (nt:=33) rfl (rs:=[.tmp 6,.tmp 7]) rfl (aW rfl) ?_;refine aM ?_;exact lV
theorem aRq {a:List Nat}{d:Nat}(ha:OkD a) (hd0:0<d) (hd:d<4294967296) (la:a.length≤1099511627776):
  PGd 324 [dg a,u32 d] (.tup [dg (jD a.length (val a / d)),u32 (val a % d)]):=by
 unfold u32;refine aA aV Tryz.func324 rfl (by decide) (nt:=34) rfl (rs:=[.tmp 4,.tmp 5]) rfl (aW rfl) ?_;refine aM ?_
 refine aG (α:={p:Nat×List Nat // p.1≤a.length∧p.2.length=a.length∧OkD p.2∧val (p.2.drop p.1)=val (a.drop p.1) / d})
  (fun p=>st 34 (lk [(0,dg a),(1,u32 d),(6,.own 0 0 a.length 1),(7,u32 (val (a.drop p.1.1) % d)),(8,i64 ((p.1.1:Int)-1))]) (cG [(0,⟨185,dB p.1.2,false⟩)]) 1) (fun p=>p.1.1) ⟨(a.length,List.replicate a.length 0),by simp,by simp,OkD.replicate _,by simp[val]⟩ ?_ ?_
 ·(refine Sub.heap1 4 ?_ (by simp only[aI,simprocAttr,bl,u32,u64,i64];exact rfl) ?_ ?_;all_goals(first |exact aE _ |with_reducible rfl |(simp only[aI,simprocAttr,bl,u32,u64,i64])|skip))
  ·simp[val]
  ·exact iR _
 ·rintro⟨⟨k,q⟩,hk,hq,hoq,hv⟩;simp only at hk hq hoq hv;simp only[st];rcases k with _ |k
  ·refine aM ?_;refine gZ ?_;refine iQ ?_;rw[List.drop_zero,List.drop_zero]at hv
   rw[← gX hoq hq hv,List.take_of_length_le (Nat.le_of_eq hq),hq]
  ·have hx:=ha.getD k;have hr:val (a.drop (k+1)) % d<d:=Nat.mod_lt _ hd0;have hn:=aRm (H:=val (a.drop (k+1))) (x:=a.getD k 0) hd0;have hq':(val (a.drop (k+1)) % d*4294967296+a.getD k 0) / d<4294967296:=Nat.div_lt_of_lt_mul (by omega);refine aM ?_;refine cQ (g:=(aRp hr hx hd)) (k:= ?_);simp only[u32];refine aM ?_;refine⟨⟨(k,q.set k ((val (a.drop (k+1)) % d*4294967296+a.getD k 0) / d)),by simp only;omega,by simp[hq],hoq.set hq',?_⟩,?_,by simp only;omega⟩
   ·simp only;rw[xG (q:=q) (k:=k) (by omega),fS (a:=a) (k:=k) (by omega),val,val,hv,hn.1]
   ·(refine Sub.heap1 0 ?_ (by simp only[aI,simprocAttr,bl,u32,u64,i64];exact rfl) ?_ ?_;all_goals(first |exact aE _ |with_reducible rfl |(simp only[aI,simprocAttr,bl,u32,u64,i64])|skip))
    simp only[true_and];rw[fS (a:=a) (k:=k) (by omega),val,hn.2];simp only[true_and]
    (simp only[LV.lit.injEq,Value.int.injEq,true_and,and_true,dg,LV.sl.injEq];omega)
theorem aCx {a:List Nat}{s:Nat}(ha:OkD a) (hs:s<32) (la:a.length≤1099511627776):
  jX Tryz.prog 326 [dg a,u64 s] (a.length+1) 1 185 (dB (jD (a.length+1) (val a*2^s))):=by
 have hp2:(2:Int)^s=((2^s:Nat):Int):=qV s;unfold u64;refine sF aV Tryz.func326 rfl (by decide) (nt:=41) rfl (rs:=[.tmp 4]) rfl (aW rfl) (aE _) ?_;refine aE1 hp2 ?_
 refine aG (α:={p:Nat×List Nat // p.1≤a.length∧p.2.length=a.length+1∧OkD p.2∧p.2.getD p.1 0<2^s∧val (p.2.take (p.1+1))=val (a.take p.1)*2^s})
  (fun p=>st 41 (lk [(0,dg a),(1,u64 s),(5,.own 0 0 (a.length+1) 1),(13,dg a),(14,i64 a.length),(15,i64 p.1.1)]) (cG [(0,⟨185,dB p.1.2,false⟩)]) 1) (fun p=>a.length-p.1.1) ⟨(0,List.replicate (a.length+1) 0),by simp,by simp,OkD.replicate _,by simp[List.getD,Nat.two_pow_pos],by simp[val]⟩ ?_ ?_
 ·(refine Sub.heap1 4 ?_ (by simp only[aI,simprocAttr,bl,u32,u64,i64,hp2,eF];exact rfl) ?_ ?_;all_goals(first |exact aE _ |with_reducible rfl |(simp only[aI,simprocAttr,bl,u32,u64,i64,hp2,eF])|skip))
  exact iR _
 ·rintro⟨⟨i,r⟩,hi,hr,hor,hri,hv⟩;simp only at hi hr hor hri hv;simp only[st];have hx:=ha.getD i;by_cases h1:i<a.length
  ·obtain⟨y,hy1,hy2,hy3,hy4⟩:=aKp hx hs;refine aE1 hp2 ?_;have hpos:=Nat.two_pow_pos s;refine⟨⟨(i+1,(r.set i (r.getD i 0+2^s*y)).set (i+1) (a.getD i 0*2^s / 4294967296)),by simp only;omega,by simp[hr],(hor.set (by omega)).set (by omega),?_,?_⟩,?_,by simp only;omega⟩
   ·have:((r.set i (r.getD i 0+2^s*y)).set (i+1) (a.getD i 0*2^s / 4294967296)).getD (i+1) 0=a.getD i 0*2^s / 4294967296:=by
     rw[List.getD_eq_getElem?_getD,List.getElem?_set_self (by simp;omega)];rfl
    simp only[this];exact hy3
   ·simp only;rw[cC (by simp;omega),cC (by omega),aD a i,Nat.pow_succ];rw[aD]at hv
    exact aRn hv rfl hy1 rfl
   ·(refine Sub.heap1 0 ?_ (by simp only[aI,simprocAttr,bl,u32,u64,i64,hp2,eF];exact rfl) ?_ ?_;all_goals(first |exact aE _ |with_reducible rfl |(simp only[aI,simprocAttr,bl,u32,u64,i64,hp2,eF])|skip))
    have e1:IntKind.u32.wrap (((a.getD i 0:Nat):Int)*((2^s:Nat):Int))=((2^s*y:Nat):Int):=by
     rw[aN,← hy1];simp
    have e2:((a.getD i 0:Nat):Int)*((2^s:Nat):Int) / 4294967296=((a.getD i 0*2^s / 4294967296:Nat):Int):=by simp
    rw[e1,e2,bIq hri (by omega),aDu,aDu]
  ·have hi2:i=a.length:=by omega
   subst hi2;refine aE1 hp2 ?_
   (apply aUl;(case hres=>(simp only[gW];simp(disch:=first|omega|exact kD rfl|exact kX rfl) only[smY,simprocAttr,bl,u32,u64,i64,hp2,eF];exact rfl));(case h0=>(simp only[aI,simprocAttr,bl,u32,u64,i64,hp2,eF];exact rfl));(case hf=>rfl))
   rw[List.take_of_length_le (Nat.le_of_eq hr),List.take_of_length_le (Nat.le_refl _)]at hv
   rw[← gX hor hr hv]
theorem aKt {a:List Nat}{s:Nat}(ha:OkD a) (hs:s<32) (la:a.length≤1099511627776):
  PGd 326 [dg a,u64 s] (dg (jD (a.length+1) (val a*2^s))):=by
 have:=aCw (aCx ha hs la) (by simp[aB,dg,u64]) (by simp[aE0,bO]) (aNq _);simpa[dg,bO]using this
end
section
open Go Go.Lg Go.Num
attribute [local irreducible] lrun lwp exThen exBlk keep goodPost
theorem bCo (n:Nat):((n:Int) % 4294967296).toNat=n % 4294967296:=by omega
theorem aE8 {a:List Nat}{s:Nat}(ha:OkD a) (hs:s<32) (la:a.length≤1099511627776):
  PGd 328 [dg a,u64 s] (dg (jD a.length (val a / 2^s))):=by
 have hp2:(2:Int)^s=((2^s:Nat):Int):=qV s;unfold u64;refine aA aV Tryz.func328 rfl (by decide) (nt:=44) rfl (rs:=[.tmp 4]) rfl (aW rfl) ?_;refine aE1 hp2 ?_
 refine aG (α:={p:Nat×List Nat // p.1≤a.length∧p.2.length=a.length∧OkD p.2∧val (p.2.take p.1)=(val a / 2^s) % 4294967296^p.1})
  (fun p=>st 44 (lk [(0,dg a),(1,u64 s),(5,.own 0 0 a.length 1),(11,dg a),(12,i64 a.length),(13,i64 p.1.1)]) (cG [(0,⟨185,dB p.1.2,false⟩)]) 1) (fun p=>a.length-p.1.1) ⟨(0,List.replicate a.length 0),by simp,by simp,OkD.replicate _,by simp[val,Nat.mod_one]⟩ ?_ ?_
 ·(refine Sub.heap1 3 ?_ (by simp only[aI,simprocAttr,bl,u32,u64,i64,hp2,eF];exact rfl) ?_ ?_;all_goals(first |exact aE _ |with_reducible rfl |(simp only[aI,simprocAttr,bl,u32,u64,i64,hp2,eF])|skip))
  exact iR _
 ·rintro⟨⟨i,r⟩,hi,hr,hor,hv⟩;simp only at hi hr hor hv;simp only[st];have hx:=ha.getD i;have hx2:=ha.getD (i+1);by_cases h1:i<a.length
  ·have hn:=aKr ha h1 hs;by_cases h2:i+1<a.length
   ·refine aE1 hp2 ?_;refine⟨⟨(i+1,r.set i ((a.getD (i+1) 0*4294967296+a.getD i 0) / 2^s % 4294967296)),by simp only;omega,by simp[hr],hor.set (Nat.mod_lt _ (by omega)),?_⟩,?_,by simp only;omega⟩
    ·simp only;rw[cC (by omega),hv,hn]
    ·(refine Sub.heap1 0 ?_ (by simp only[aI,simprocAttr,bl,u32,u64,i64,hp2,eF];exact rfl) ?_ ?_;all_goals(first |exact aE _ |with_reducible rfl |(simp only[aI,simprocAttr,bl,u32,u64,i64,hp2,eF])|skip))
     rw[bCo]
   ·have hz:a.getD (i+1) 0=0:=by simp[List.getD,Nat.le_of_not_lt h2]
    refine aE1 hp2 ?_;rw[hz,Nat.zero_mul,Nat.zero_add]at hn
    refine⟨⟨(i+1,r.set i (a.getD i 0 / 2^s % 4294967296)),by simp only;omega,by simp[hr],hor.set (Nat.mod_lt _ (by omega)),?_⟩,?_,by simp only;omega⟩
    ·simp only;rw[cC (by omega),hv,hn]
    ·(refine Sub.heap1 0 ?_ (by simp only[aI,simprocAttr,bl,u32,u64,i64,hp2,eF];exact rfl) ?_ ?_;all_goals(first |exact aE _ |with_reducible rfl |(simp only[aI,simprocAttr,bl,u32,u64,i64,hp2,eF])|skip))
     rw[bCo]
  ·have hi2:i=a.length:=by omega
   subst hi2;refine aE1 hp2 ?_
   ((first|apply dI|apply dK);case hres=>(simp only[gW];simp(disch:=first|omega|exact kD rfl|exact kX rfl) only[smY,simprocAttr,bl,u32,u64,i64,hp2,eF];exact rfl))
   simp(disch:=first|omega|exact kD rfl|exact kX rfl) only[smY,simprocAttr,bl,u32,u64,i64,hp2,eF];rw[List.take_of_length_le (Nat.le_of_eq hr)]at hv
   have hlt:val a / 2^s<4294967296^a.length:=Nat.lt_of_le_of_lt (Nat.div_le_self _ _) (jJ ha);rw[Nat.mod_eq_of_lt hlt]at hv
   rw[← gX hor hr hv,List.take_of_length_le (Nat.le_of_eq hr),hr]
end
end Go.Proofs.YtaidcaemdkncgaaGreatDoor
namespace Go.Proofs
section
set_option maxHeartbeats 4000000 in
set_option maxRecDepth 100000 in
theorem Tryz.bits_Len32 (x:Int) (w:World) (h0:0≤x) (h1:x≤4294967295):
  Calls Tryz.prog 293 #[.int .u32 x] w fun e w'=>e= .returned (.int .i64 (Lib.bitLen x.toNat))∧w'=w:=by
 go_enter Tryz.func293,Tryz.ntmps293
 go_wp2
 all_goals(go_ret;refine⟨congrArg Ending.returned (congrArg (Value.int IntKind.i64) ?_),rfl⟩)
 all_goals first
  |(rw[Lib.len8_of (x / 65536 / 256 % 256) (by omega) (by omega)]
    have e:(x / 65536 / 256 % 256).toNat=x.toNat / 16777216:=by omega
    have l:=Lib.bitLen_le8' (x / 65536 / 256 % 256) (by omega) (by omega);have s:=Lib.bitLen_shift24 x.toNat (by omega) (by omega);rw[e]at l⊢
    omega)
  |(rw[Lib.len8_of (x / 65536 % 256) (by omega) (by omega)]
    have e:(x / 65536 % 256).toNat=x.toNat / 65536:=by omega
    have l:=Lib.bitLen_le8' (x / 65536 % 256) (by omega) (by omega);have s:=Lib.bitLen_shift16 x.toNat (by omega) (by omega);rw[e]at l⊢
    omega)
  |(rw[Lib.len8_of (x / 256 % 256) (by omega) (by omega)]
    have e:(x / 256 % 256).toNat=x.toNat / 256:=by omega
    have l:=Lib.bitLen_le8' (x / 256 % 256) (by omega) (by omega);have s:=Lib.bitLen_shift8 x.toNat (by omega) (by omega);rw[e]at l⊢
    omega)
  |(rw[Lib.len8_of (x % 256) (by omega) (by omega)]
    have e:(x % 256).toNat=x.toNat:=by omega
    have l:=Lib.bitLen_le8' (x % 256) (by omega) (by omega);rw[e]at l⊢
    omega)
end
section
theorem Tryz.bitLen_le32 (x:Int) (h0:0≤x) (h1:x≤4294967295):Lib.bitLen x.toNat≤32:=Lib.bitLen_le x.toNat 32 (by omega) (by omega)
theorem Tryz.bits_LeadingZeros32 (x:Int) (w:World) (h0:0≤x) (h1:x≤4294967295):
  Calls Tryz.prog 325 #[.int .u32 x] w fun e w'=>e= .returned (.int .i64 (32-(Lib.bitLen x.toNat:Int)))∧w'=w:=by
 have l:=Tryz.bitLen_le32 x h0 h1;have e8:(32-(Lib.bitLen x.toNat:Int)+9223372036854775808) % 18446744073709551616-9223372036854775808=32-(Lib.bitLen x.toNat:Int):=by omega
 go_enter Tryz.func325,Tryz.ntmps325
 go_wp2_with (go_at_call 293;refine(Tryz.bits_Len32 x _ h0 h1).mono ?_;rintro e w' ⟨rfl,rfl⟩)
 go_ret
 refine⟨?_,rfl⟩;rw[← e8];rfl
end
section
set_option maxHeartbeats 4000000 in
set_option maxRecDepth 100000 in
theorem Tryz.bits_Len64 (x:Int) (w:World) (h0:0≤x) (h1:x≤18446744073709551615):
  Calls Tryz.prog 294 #[.int .u64 x] w fun e w'=>e= .returned (.int .i64 (Lib.bitLen x.toNat))∧w'=w:=by
 go_enter Tryz.func294,Tryz.ntmps294
 go_wp2
 all_goals(go_ret;refine⟨congrArg Ending.returned (congrArg (Value.int IntKind.i64) ?_),rfl⟩)
 all_goals first
  |(rw[Lib.len8_of (x / 4294967296 / 65536 / 256 % 256) (by omega) (by omega)]
    have e:(x / 4294967296 / 65536 / 256 % 256).toNat=x.toNat / 72057594037927936:=by omega
    have l:=Lib.bitLen_le8' (x / 4294967296 / 65536 / 256 % 256) (by omega) (by omega);have s:=Lib.bitLen_shift56 x.toNat (by omega) (by omega);rw[e]at l⊢
    omega)
  |(rw[Lib.len8_of (x / 4294967296 / 65536 % 256) (by omega) (by omega)]
    have e:(x / 4294967296 / 65536 % 256).toNat=x.toNat / 281474976710656:=by omega
    have l:=Lib.bitLen_le8' (x / 4294967296 / 65536 % 256) (by omega) (by omega);have s:=Lib.bitLen_shift48 x.toNat (by omega) (by omega);rw[e]at l⊢
    omega)
  |(rw[Lib.len8_of (x / 4294967296 / 256 % 256) (by omega) (by omega)]
    have e:(x / 4294967296 / 256 % 256).toNat=x.toNat / 1099511627776:=by omega
    have l:=Lib.bitLen_le8' (x / 4294967296 / 256 % 256) (by omega) (by omega);have s:=Lib.bitLen_shift40 x.toNat (by omega) (by omega);rw[e]at l⊢
    omega)
  |(rw[Lib.len8_of (x / 4294967296 % 256) (by omega) (by omega)]
    have e:(x / 4294967296 % 256).toNat=x.toNat / 4294967296:=by omega
    have l:=Lib.bitLen_le8' (x / 4294967296 % 256) (by omega) (by omega);have s:=Lib.bitLen_shift32 x.toNat (by omega) (by omega);rw[e]at l⊢
    omega)
  |(rw[Lib.len8_of (x / 65536 / 256 % 256) (by omega) (by omega)]
    have e:(x / 65536 / 256 % 256).toNat=x.toNat / 16777216:=by omega
    have l:=Lib.bitLen_le8' (x / 65536 / 256 % 256) (by omega) (by omega);have s:=Lib.bitLen_shift24 x.toNat (by omega) (by omega);rw[e]at l⊢
    omega)
  |(rw[Lib.len8_of (x / 65536 % 256) (by omega) (by omega)]
    have e:(x / 65536 % 256).toNat=x.toNat / 65536:=by omega
    have l:=Lib.bitLen_le8' (x / 65536 % 256) (by omega) (by omega);have s:=Lib.bitLen_shift16 x.toNat (by omega) (by omega);rw[e]at l⊢
    omega)
  |(rw[Lib.len8_of (x / 256 % 256) (by omega) (by omega)]
    have e:(x / 256 % 256).toNat=x.toNat / 256:=by omega
    have l:=Lib.bitLen_le8' (x / 256 % 256) (by omega) (by omega);have s:=Lib.bitLen_shift8 x.toNat (by omega) (by omega);rw[e]at l⊢
    omega)
  |(rw[Lib.len8_of (x % 256) (by omega) (by omega)]
    have e:(x % 256).toNat=x.toNat:=by omega
    have l:=Lib.bitLen_le8' (x % 256) (by omega) (by omega);rw[e]at l⊢
    omega)
end
section
theorem Tryz.bits_Len (x:Int) (w:World) (h0:0≤x) (h1:x≤18446744073709551615):
  Calls Tryz.prog 257 #[.int .u64 x] w fun e w'=>e= .returned (.int .i64 (Lib.bitLen x.toNat))∧w'=w:=by
 go_enter Tryz.func257,Tryz.ntmps257
 go_wp2_with (go_at_call 294;refine(Tryz.bits_Len64 x _ h0 h1).mono ?_;rintro e w' ⟨rfl,rfl⟩)
 go_ret
 exact⟨rfl,rfl⟩
end
end Go.Proofs
namespace Go.Proofs.YtaidcaemdkncgaaGreatDoor
open Go Go.Lg Go.Num
attribute [local irreducible] lrun lwp exThen exBlk keep goodPost
theorem aNy {St:Nat→Prop}{hp:Array Obj}{μ:Nat→Option (Nat×Nat)}:∀ {args:List Value}{vs:List Value},Reps St hp μ (args.map .lit) vs→vs=args
 |[],vs,h=>List.eq_nil_of_length_eq_zero h.1.symm
 |a::args,vs,h=>by
  obtain⟨u,us,rfl,hu,hs⟩:=Reps.head (cs:=args.map .lit) h
  cases hu
  rw[aNy hs]
theorem qJ {P:Program}[Laid P] {f:FuncId}{args:List Value}{r:Value}(he:aCp P f) (h:∀ w,Calls P f args.toArray w fun e w'=>e= .returned r∧w'=w):cU P f (args.map .lit) (.lit r):=by
 refine⟨he,fun w St vs hSt _ hr=> ?_⟩;rw[aNy hr];refine(h w).mono ?_;rintro e w' ⟨rfl,rfl⟩;exact⟨r,St,rfl,.lit r,fun _ h=>h,fun g hg=>⟨hSt g hg,.inl hg⟩,rfl,rfl,rfl,Nat.le_refl _,fun _ _=>rfl⟩
theorem aE9 {x:Nat}(h:x<4294967296):PGd 293 [u32 x] (i64 (Lib.bitLen x)):=by
 have:=qJ (P:=Tryz.prog) (f:=293) (args:=[.int .u32 (x:Int)]) ⟨Tryz.f293,Tryz.func293,by decide,rfl⟩ (fun w=>Tryz.bits_Len32 x w (by omega) (by omega));exact this
theorem aYa {x:Nat}(h:x<4294967296):PGd 325 [u32 x] (i64 (32-(Lib.bitLen x:Int))):=by
 have:=qJ (P:=Tryz.prog) (f:=325) (args:=[.int .u32 (x:Int)]) ⟨Tryz.f325,Tryz.func325,by decide,rfl⟩ (fun w=>Tryz.bits_LeadingZeros32 x w (by omega) (by omega));exact this
theorem aFa {x:Nat}(h:x<18446744073709551616):PGd 257 [u64 x] (i64 (Lib.bitLen x)):=by
 have:=qJ (P:=Tryz.prog) (f:=257) (args:=[.int .u64 (x:Int)]) ⟨Tryz.f257,Tryz.func257,by decide,rfl⟩ (fun w=>Tryz.bits_Len x w (by omega) (by omega));exact this
theorem uJ:∀ (f:Nat) {x:Nat},x≠0→x<2^f→1≤Lib.bitLenAux f x∧2^(Lib.bitLenAux f x-1)≤x∧x<2^Lib.bitLenAux f x∧Lib.bitLenAux f x≤f
 |0,x,h0,h=>by simp at h;omega
 |f+1,x,h0,h=>by
  rw[Lib.bitLenAux,if_neg h0];by_cases h1:x / 2=0
  · have hx:x=1:=by omega
    subst hx;have:Lib.bitLenAux f 0=0:=by cases f <;>rfl
    simp[this]
  · obtain⟨a,b,c,d⟩:=uJ f h1 (by rw[Nat.pow_succ]at h;omega);generalize Lib.bitLenAux f (x / 2)=k at*;obtain⟨m,rfl⟩:∃ m,k=m+1:=⟨k-1,by omega⟩;rw[show 1+(m+1)-1=m+1 by omega,show 1+(m+1)=m+1+1 by omega];simp only[Nat.add_sub_cancel,Nat.pow_succ]at*;refine⟨by omega,by omega,by omega,by omega⟩
theorem aCy:Lib.bitLen 0=0:=rfl
theorem pK {x:Nat}(h0:x≠0) (h:x<18446744073709551616):1≤Lib.bitLen x∧2^(Lib.bitLen x-1)≤x∧x<2^Lib.bitLen x∧Lib.bitLen x≤64:=uJ 64 h0 h
theorem bitLen_le {x k:Nat}(h:x<2^k) (hk:x<18446744073709551616):Lib.bitLen x≤k:=by
 rcases Nat.eq_zero_or_pos x with rfl |h0
 ·simp[aCy]
 ·obtain⟨h1,h2,_,_⟩:=pK (by omega) hk;have h3:=Nat.lt_of_le_of_lt h2 h;have:=(Nat.pow_lt_pow_iff_right (show 1<2 by omega)).1 h3;omega
theorem aYb {t:Nat}(h0:t≠0) (h:t<4294967296):Lib.bitLen t≤32∧1≤Lib.bitLen t∧2147483648≤t*2^(32-Lib.bitLen t)∧t*2^(32-Lib.bitLen t)<4294967296:=by
 have hle:Lib.bitLen t≤32:=bitLen_le (by omega) (by omega);obtain⟨h1,h2,h3,_⟩:=pK h0 (by omega);refine⟨hle,h1,?_,?_⟩
 ·have:=Nat.mul_le_mul_right (2^(32-Lib.bitLen t)) h2;rw[← Nat.pow_add,show Lib.bitLen t-1+(32-Lib.bitLen t)=31 by omega]at this
  exact this
 ·have:=Nat.mul_lt_mul_of_pos_right h3 (Nat.two_pow_pos (32-Lib.bitLen t));rw[← Nat.pow_add,show Lib.bitLen t+(32-Lib.bitLen t)=32 by omega]at this
  exact this
end Go.Proofs.YtaidcaemdkncgaaGreatDoor
namespace Go.Num
section
def sec (L:List Nat) (j k:Nat):Nat:=val ((L.drop j).take k)
theorem aBi (L:List Nat) (j i:Nat):(L.drop j).getD i 0=L.getD (j+i) 0:=by
 simp[List.getD,List.getElem?_drop]
theorem oA (L:List Nat) (j i:Nat):sec L j (i+1)=sec L j i+4294967296^i*L.getD (j+i) 0:=by
 unfold sec;rw[aD,aBi]
theorem aNz (L:List Nat) (j i d:Nat):(L.set (j+i) d).drop j=(L.drop j).set i d:=by
 rw[List.drop_set];rw[if_neg (by omega),show j+i-j=i by omega]
theorem mU {L:List Nat}{j i d:Nat}(h:j+i<L.length):sec (L.set (j+i) d) j (i+1)=sec L j i+4294967296^i*d:=by
 unfold sec;rw[aNz,cC (by simp;omega)]
theorem aKu {L:List Nat}(h:OkD L) (j k:Nat):sec L j k<4294967296^k:=by
 have h1:=jJ ((h.drop j).take k);refine Nat.lt_of_lt_of_le h1 (Nat.pow_le_pow_right (by omega) ?_);simp;omega
theorem pL (L:List Nat) (j i d:Nat):(L.set (j+i) d).take j=L.take j:=by
 rw[List.take_set_of_le (by omega)]
theorem iT (L:List Nat) (k d:Nat):(L.set k d).drop (k+1)=L.drop (k+1):=by
 rw[List.drop_set_of_lt (by omega)]
theorem mV {L M:List Nat}{k i:Nat}(h:L.drop k=M.drop k) (hi:k≤i):L.getD i 0=M.getD i 0:=by
 have h1:(L.drop k).getD (i-k) 0=(M.drop k).getD (i-k) 0:=by rw[h]
 rwa [aBi,aBi,show k+(i-k)=i by omega]at h1
theorem aN0 {L M:List Nat}{j k v:Nat}(hok:OkD M) (hl:M.length=L.length) (hj:j+k≤L.length) (h1:M.take j=L.take j) (h2:M.drop (j+k)=L.drop (j+k)) (hv:sec M j k=v):M=L.take j++jD k v++L.drop (j+k):=by
 have e:M=M.take j++((M.drop j).take k++(M.drop j).drop k):=by rw[List.take_append_drop,List.take_append_drop]
 rw[List.drop_drop]at e
 rw[e,h1,h2,← List.append_assoc];congr 2;exact gX ((hok.drop j).take k) (by simp;omega) hv
theorem bCp {q top v1 U V P X Y:Nat}(hU:U=top*P+X) (hX:X<P) (hV:V=v1*P+Y) (hv:0<v1) (hq:q*V≤U):q≤top / v1:=by
 rw[Nat.le_div_iff_mul_le hv];rcases Nat.lt_or_ge top (q*v1)with h |h
 ·exfalso;have h1:(top+1)*P≤q*v1*P:=Nat.mul_le_mul_right P h;have h2:q*V=q*v1*P+q*Y:=by rw[hV,Nat.mul_add,Nat.mul_assoc]
  rw[Nat.add_mul,Nat.one_mul]at h1
  omega
 ·exact h
theorem aRr {q g rest top v1 v2 u2 U V P X Y:Nat}(ht:top=g*v1+rest) (hU:U=(top*4294967296+u2)*P+X) (hX:X<P) (hV:V=(v1*4294967296+v2)*P+Y) (hc:g*v2>rest*4294967296+u2) (hq:q*V≤U):q<g:=by
 rcases Nat.lt_or_ge q g with h |h
 ·exact h
 ·exfalso;have h1:g*V≤U:=Nat.le_trans (Nat.mul_le_mul_right V h) hq;have h2:g*V=g*(v1*4294967296+v2)*P+g*Y:=by rw[hV,Nat.mul_add,Nat.mul_assoc]
  have h3:g*(v1*4294967296+v2)=g*v1*4294967296+g*v2:=by rw[Nat.mul_add,Nat.mul_assoc]
  have h4:top*4294967296+u2+1≤g*(v1*4294967296+v2):=by rw[h3,ht];omega
  have h5:=Nat.mul_le_mul_right P h4;rw[Nat.add_mul,Nat.one_mul]at h5
  omega
theorem aRs {g rest top v1 v2 u2 U V P X Y:Nat}(ht:top=g*v1+rest) (hU:U=(top*4294967296+u2)*P+X) (hV:V=(v1*4294967296+v2)*P+Y) (hY:Y<P) (hv:0<v1) (hg:g<4294967296) (hv2:v2<4294967296)
  (hc:4294967296≤rest∨g*v2≤rest*4294967296+u2):g*V<U+V:=by
 have h2:g*V=g*(v1*4294967296+v2)*P+g*Y:=by rw[hV,Nat.mul_add,Nat.mul_assoc]
 have h3:g*(v1*4294967296+v2)=g*v1*4294967296+g*v2:=by rw[Nat.mul_add,Nat.mul_assoc]
 have h4:g*(v1*4294967296+v2)≤top*4294967296+u2:=by
  rw[h3,ht];rcases hc with hc |hc
  ·have:g*v2≤4294967295*4294967295:=Nat.mul_le_mul (by omega) (by omega);omega
  ·omega
 have h5:=Nat.mul_le_mul_right P h4;have h6:g*Y≤4294967295*P:=Nat.mul_le_mul (by omega) (by omega);have h7:1*4294967296*P≤(v1*4294967296+v2)*P:=Nat.mul_le_mul_right P (by omega);have hP:0<P:=by omega
 omega
theorem aN1 {r A g W c b x u c' b' lo d p:Nat}(h:r+g*W=A+p*(c+b)) (h1:lo+4294967296*c'=g*x+c) (h2:d+lo+b=u+4294967296*b'):r+p*d+g*(W+p*x)=A+p*u+p*4294967296*(c'+b'):=by
 have e1:g*(W+p*x)=g*W+p*(g*x):=by rw[Nat.mul_add,Nat.mul_left_comm]
 have e2:p*(d+lo+b)=p*(u+4294967296*b'):=by rw[h2]
 have e3:p*(lo+4294967296*c')=p*(g*x+c):=by rw[h1]
 have e4:p*4294967296*(c'+b')=p*(4294967296*c')+p*(4294967296*b'):=by rw[Nat.mul_add,Nat.mul_assoc,Nat.mul_assoc]
 simp only[Nat.mul_add]at*;omega
theorem bCq {r g V U M:Nat}(h:r+g*V=U+M) (hr:r<M) (hg:g*V<U+V) (hq:U<(g+1)*V):(g-1)*V≤U∧r+V=(U-(g-1)*V)+M∧0<g:=by
 rcases Nat.eq_zero_or_pos g with h0 |h0
 ·subst h0;omega
 ·have e:g*V=(g-1)*V+V:=by
   conv=>lhs;rw[show g=g-1+1 by omega,Nat.add_mul,Nat.one_mul]
  omega
theorem aN2 {S p d k R:Nat}(h:S+p*(k+d)=R+p*4294967296) (h1:S<p) (h2:R<p) (h3:k+d≤4294967296):(d+k) % 4294967296=0∧S=R:=by
 have h4:k+d=4294967296:=by
  rcases Nat.lt_or_ge (k+d) 4294967296 with hh |hh
  ·exfalso;have:=Nat.mul_le_mul_left p (show k+d+1≤4294967296 by omega);rw[Nat.mul_add,Nat.mul_one]at this
   omega
  ·omega
 rw[h4]at h
 exact⟨by omega,by omega⟩
theorem aRt {g U V:Nat}(h1:g*V≤U) (h2:U<(g+1)*V):U / V=g∧U % V=U-g*V:=by
 have hV:0<V:=by
  rcases Nat.eq_zero_or_pos V with h |h
  ·subst h;simp at h2
  ·exact h
 have h3:U / V=g:=by
  apply Nat.div_eq_of_lt_le
  ·exact h1
  ·exact h2
 refine⟨h3,?_⟩;have:=Nat.div_add_mod U V;rw[h3,Nat.mul_comm]at this
 omega
end
section
theorem cJ4 (L:List Nat) (j m:Nat):sec L j (m+3)=((L.getD (j+(m+2)) 0*4294967296+L.getD (j+(m+1)) 0)*4294967296+L.getD (j+m) 0)*4294967296^m+sec L j m:=by
 rw[oA,oA,oA,show 4294967296^(m+2)=4294967296^m*4294967296*4294967296 by rw[Nat.pow_succ,Nat.pow_succ],Nat.pow_succ];generalize 4294967296^m=p;generalize L.getD (j+(m+2)) 0=x;generalize L.getD (j+(m+1)) 0=y;generalize L.getD (j+m) 0=z;generalize sec L j m=q;have e1:p*4294967296*4294967296*x=x*4294967296*4294967296*p:=by ac_rfl
 have e2:p*4294967296*y=y*4294967296*p:=by ac_rfl
 have e3:p*z=z*p:=Nat.mul_comm _ _;rw[e1,e2,e3];simp only[Nat.add_mul];omega
theorem bJv {v:List Nat}{m:Nat}(h:v.length=m+2):val v=(v.getD (m+1) 0*4294967296+v.getD m 0)*4294967296^m+val (v.take m):=by
 have e:val v=val (v.take (m+2)):=by rw[List.take_of_length_le (by omega)]
 rw[e,aD,aD,Nat.pow_succ];generalize 4294967296^m=p;generalize v.getD (m+1) 0=y;generalize v.getD m 0=z;have e2:p*4294967296*y=y*4294967296*p:=by ac_rfl
 have e3:p*z=z*p:=Nat.mul_comm _ _;rw[e2,e3,Nat.add_mul];omega
structure Guess (L v:List Nat) (j g rest:Nat):Prop where
 eq:g*v.getD (v.length-1) 0+rest=L.getD (j+v.length) 0*4294967296+L.getD (j+(v.length-1)) 0
 ge:sec L j (v.length+1) / val v≤g
section
variable {L v:List Nat}{j:Nat}(hL:OkD L) (hv:OkD v) (hn:2≤v.length) (hu:sec L j (v.length+1)<4294967296*val v) (h1:2147483648≤v.getD (v.length-1) 0)
include hL hv hn hu h1
theorem pM:∃ m P X Y v2 u2 top v1,v.length=m+2∧v1=v.getD (v.length-1) 0∧v2=v.getD (v.length-2) 0∧u2=L.getD (j+(v.length-2)) 0∧top=L.getD (j+v.length) 0*4294967296+L.getD (j+(v.length-1)) 0∧
  sec L j (v.length+1)=(top*4294967296+u2)*P+X∧X<P∧val v=(v1*4294967296+v2)*P+Y∧Y<P∧v2<4294967296∧v1<4294967296∧u2<4294967296:=by
 obtain⟨m,hm⟩:∃ m,v.length=m+2:=⟨v.length-2,by omega⟩;refine⟨m,4294967296^m,sec L j m,val (v.take m),v.getD m 0,L.getD (j+m) 0,L.getD (j+(m+2)) 0*4294967296+L.getD (j+(m+1)) 0,v.getD (m+1) 0,hm,?_,?_,?_,?_,?_,aKu hL _ _,?_,?_,hv.getD _,hv.getD _,hL.getD _⟩
 ·rw[hm];rfl
 ·rw[hm];rfl
 ·rw[hm];rfl
 ·rw[hm];rfl
 ·rw[hm];exact cJ4 L j m
 ·exact bJv hm
 ·have:=jJ (hv.take m)
  rwa [List.length_take,Nat.min_eq_left (by omega)]at this
theorem aN3:Guess L v j ((L.getD (j+v.length) 0*4294967296+L.getD (j+(v.length-1)) 0) / v.getD (v.length-1) 0) ((L.getD (j+v.length) 0*4294967296+L.getD (j+(v.length-1)) 0) % v.getD (v.length-1) 0):=by
 obtain⟨m,P,X,Y,v2,u2,top,v1,hm,e1,e2,e3,e4,hU,hX,hV,hY,hv2,hv1,hu2⟩:=pM hL hv hn hu h1;rw[← e4,← e1];rw[← e1]at h1
 have hP:0<P:=by omega
 refine⟨?_,?_⟩
 ·rw[← e4,← e1,Nat.mul_comm];exact Nat.div_add_mod _ _
 ·have hq:sec L j (v.length+1) / val v*val v≤sec L j (v.length+1):=Nat.div_mul_le_self _ _;refine bCp (P:=4294967296*P) (X:=u2*P+X) (Y:=v2*P+Y) (U:=sec L j (v.length+1)) (V:=val v) ?_ ?_ ?_ (by omega) hq
  ·rw[hU,Nat.add_mul,Nat.mul_assoc];omega
  ·have:u2*P≤4294967295*P:=Nat.mul_le_mul_right P (by omega);omega
  ·rw[hV,Nat.add_mul,Nat.mul_assoc];omega
theorem aFb {g rest:Nat}(hg:Guess L v j g rest):L.getD (j+v.length) 0≤v.getD (v.length-1) 0∧g≤8589934592∧(4294967296≤rest→g<4294967296):=by
 obtain⟨m,P,X,Y,v2,u2,top,v1,hm,e1,e2,e3,e4,hU,hX,hV,hY,hv2,hv1,hu2⟩:=pM hL hv hn hu h1;have hge:=hg.eq;rw[← e4,← e1]at hge
 rw[← e1]at h1⊢
 have hP:0<P:=by omega
 have hlt:top<v1*4294967296+4294967296:=by
  rcases Nat.lt_or_ge top (v1*4294967296+4294967296)with h |h
  ·exact h
  ·exfalso;have a1:(v1*4294967296+4294967296)*4294967296*P≤top*4294967296*P:=Nat.mul_le_mul_right P (Nat.mul_le_mul_right _ h);have a2:sec L j (v.length+1)=top*4294967296*P+u2*P+X:=by rw[hU,Nat.add_mul]
   have a3:val v=v1*4294967296*P+v2*P+Y:=by rw[hV,Nat.add_mul]
   have a4:v2*P≤4294967295*P:=Nat.mul_le_mul_right P (by omega)
   have a5:(v1*4294967296+4294967296)*4294967296*P=4294967296*(v1*4294967296*P)+4294967296*(4294967296*P):=by
    rw[Nat.add_mul,Nat.add_mul]
    ac_rfl
   omega
 have hx:=hL.getD (j+(v.length-1));have hx0:=hL.getD (j+v.length);have hlead:L.getD (j+v.length) 0≤v1:=by omega
 refine⟨hlead,?_,fun hr=> ?_⟩
 ·rcases Nat.lt_or_ge 8589934592 g with h |h
  ·exfalso;have:8589934593*v1≤g*v1:=Nat.mul_le_mul_right v1 h;omega
  ·exact h
 ·rcases Nat.lt_or_ge g 4294967296 with h |h
  ·exact h
  ·exfalso;have:4294967296*v1≤g*v1:=Nat.mul_le_mul_right v1 h;omega
theorem aFc {g rest:Nat}(hg:Guess L v j g rest) (hc:4294967296≤g∨g*v.getD (v.length-2) 0>rest*4294967296+L.getD (j+(v.length-2)) 0):0<g∧Guess L v j (g-1) (rest+v.getD (v.length-1) 0):=by
 obtain⟨m,P,X,Y,v2,u2,top,v1,hm,e1,e2,e3,e4,hU,hX,hV,hY,hv2,hv1,hu2⟩:=pM hL hv hn hu h1
 have hq:sec L j (v.length+1) / val v<g:=by
  rcases hc with hc |hc
  ·have:sec L j (v.length+1) / val v<4294967296:=Nat.div_lt_of_lt_mul (by rw[Nat.mul_comm];exact hu);omega
  ·rw[← e2,← e3]at hc
   have hge:=hg.eq;rw[← e4,← e1]at hge
   exact aRr hge.symm hU hX hV hc (Nat.div_mul_le_self _ _)
 generalize hqq:sec L j (v.length+1) / val v=q at hq;have h0:0<g:=by omega
 refine⟨h0,⟨?_,by rw[hqq];omega⟩⟩;rw[← hg.eq]
 have:g*v.getD (v.length-1) 0=(g-1)*v.getD (v.length-1) 0+v.getD (v.length-1) 0:=by
  conv=>lhs;rw[show g=g-1+1 by omega,Nat.add_mul,Nat.one_mul]
 omega
theorem aBj {g rest:Nat}(hg:Guess L v j g rest) (hlt:g<4294967296) (hc:4294967296≤rest∨g*v.getD (v.length-2) 0≤rest*4294967296+L.getD (j+(v.length-2)) 0):
  g*val v<sec L j (v.length+1)+val v∧sec L j (v.length+1)<(g+1)*val v:=by
 obtain⟨m,P,X,Y,v2,u2,top,v1,hm,e1,e2,e3,e4,hU,hX,hV,hY,hv2,hv1,hu2⟩:=pM hL hv hn hu h1;rw[← e1]at h1
 constructor
 ·have hge:=hg.eq;rw[← e4,← e1]at hge
  rw[← e2,← e3]at hc
  exact aRs hge.symm hU hV hY (by omega) hlt hv2 hc
 ·have hV0:0<val v:=by
   rcases Nat.eq_zero_or_pos (val v)with h |h
   ·rw[h]at hu;omega
   ·exact h
  have:=Nat.lt_mul_div_succ (sec L j (v.length+1)) hV0;have h2:val v*(sec L j (v.length+1) / val v+1)≤val v*(g+1):=Nat.mul_le_mul_left _ (by have:=hg.ge;omega);rw[Nat.mul_comm (g+1)];omega
end
end
section
theorem aBk {n:Nat}(h:n≠0):(aC n).getD ((aC n).length-1) 0=n / 4294967296^((aC n).length-1):=by
 have hl:(aC n).length≠0:=fun e=>h (bR.1 (List.eq_nil_of_length_eq_zero e))
 have h1:=aKq (aU n) (i:=(aC n).length-1) (by omega);rw[aJ]at h1
 rw[h1,gP,List.drop_of_length_le (by omega)];simp[val]
theorem aRu {y t s:Nat}(hy:y≠0) (ht:t=(aC y).getD ((aC y).length-1) 0) (h1:2147483648≤t*2^s) (h2:t*2^s<4294967296) (hs:s≤32):
  (aC (y*2^s)).length=(aC y).length∧2147483648≤(aC (y*2^s)).getD ((aC y).length-1) 0∧4294967296^((aC y).length-1)*2^s≤y*2^s:=by
 have hl:(aC y).length≠0:=fun e=>hy (bR.1 (List.eq_nil_of_length_eq_zero e))
 rw[aBk hy]at ht
 generalize hm:(aC y).length-1=m at*;have hlen:(aC y).length=m+1:=by omega
 have hp:0<4294967296^m:=Nat.pow_pos (by omega);have h2s:0<2^s:=Nat.two_pow_pos s;have hdm:=Nat.div_add_mod y (4294967296^m);have hmod:=Nat.mod_lt y hp;rw[← ht]at hdm
 have hy1:4294967296^m*t≤y:=by omega
 have hy2:y<4294967296^m*(t+1):=by rw[Nat.mul_add,Nat.mul_one];omega
 have hsplit:4294967296=2^s*2^(32-s):=by rw[← Nat.pow_add,show s+(32-s)=32 by omega]
 have ht1:(t+1)*2^s≤4294967296:=by
  have:t<2^(32-s):=by
   rcases Nat.lt_or_ge t (2^(32-s))with h |h
   ·exact h
   ·have:=Nat.mul_le_mul_right (2^s) h;rw[Nat.mul_comm (2^(32-s)),← hsplit]at this
    omega
  have:=Nat.mul_le_mul_right (2^s) this;rw[Nat.mul_comm (2^(32-s)),← hsplit]at this
  exact this
 have hV2:y*2^s<4294967296^(m+1):=by
  have a1:=Nat.mul_lt_mul_of_pos_right hy2 h2s;have a2:4294967296^m*(t+1)*2^s=4294967296^m*((t+1)*2^s):=Nat.mul_assoc _ _ _;have a3:=Nat.mul_le_mul_left (4294967296^m) ht1;rw[Nat.pow_succ];omega
 have hV1:4294967296^m*(t*2^s)≤y*2^s:=by
  have:=Nat.mul_le_mul_right (2^s) hy1
  rwa [Nat.mul_assoc]at this
 have hV0:y*2^s≠0:=Nat.mul_ne_zero hy (by omega)
 have hl2:(aC (y*2^s)).length=m+1:=by
  have a1:=bV hV2;rcases Nat.lt_or_ge (aC (y*2^s)).length (m+1)with h |h
  ·exfalso;have a2:=bN (y*2^s);have a3:4294967296^(aC (y*2^s)).length≤4294967296^m:=Nat.pow_le_pow_right (by omega) (by omega);have a4:=Nat.mul_le_mul_left (4294967296^m) (show 1≤t*2^s by omega);omega
  ·omega
 refine⟨by omega,?_,?_⟩
 ·have:=aBk hV0;rw[hl2]at this
  simp only[Nat.add_sub_cancel]at this;rw[this,Nat.le_div_iff_mul_le hp,Nat.mul_comm];exact Nat.le_trans (Nat.mul_le_mul_left _ h1) hV1
 ·have:=pI hy;rw[hm]at this
  exact Nat.mul_le_mul_right _ this
structure Div (A V n la lq k:Nat) (L q:List Nat):Prop where
 lL:L.length=la
 oL:OkD L
 lq:q.length=lq
 oq:OkD q
 eq:val L+V*4294967296^k*val (q.drop k)=A
 lt:val (L.drop k)<V
theorem aYc {A V n la lq:Nat}(h:A<4294967296^la) (hA:A<V*4294967296^lq) (hle:lq≤la):Div A V n la lq lq (jD la A) (List.replicate lq 0):=by
 refine⟨bO _ _,fL _ _,by simp,OkD.replicate _,?_,?_⟩
 ·simp[eG h,val]
 ·have h1:=aKq (fL la A) (i:=lq) (by rw[bO];exact hle);rw[eG h]at h1
  rw[← h1];exact Nat.div_lt_of_lt_mul (by rw[Nat.mul_comm];exact hA)
theorem aUm {A V n la lq k:Nat}{L q:List Nat}(h:Div A V n la lq (k+1) L q) (hV:V<4294967296^n) (hk:k+n+1≤la):sec L k (n+1)=val (L.drop k)∧sec L k (n+1)<4294967296*V∧val (L.drop (k+(n+1)))=0:=by
 have h1:=gP L k;have h2:=h.oL.getD k;have h3:=h.lt;have h5:val (L.drop k)<4294967296*V:=by omega
 have h4:=jL (L.drop k) (n+1) (by rw[List.length_drop,h.lL];omega);rw[List.drop_drop]at h4
 have hz:val (L.drop (k+(n+1)))=0:=by
  rcases Nat.eq_zero_or_pos (val (L.drop (k+(n+1))))with h0 |h0
  ·exact h0
  ·exfalso;have a1:=Nat.mul_le_mul_left (4294967296^(n+1)) h0;rw[Nat.mul_one,Nat.pow_succ]at a1
   rw[Nat.pow_succ]at h4
   have a2:=Nat.mul_le_mul_left 4294967296 (Nat.le_of_lt hV);rw[Nat.mul_comm 4294967296 (4294967296^n)]at a2
   omega
 rw[hz]at h4
 unfold sec;exact⟨by omega,by omega,hz⟩
theorem bCr {A V n la lq k U:Nat}{L q:List Nat}(h:Div A V n la lq (k+1) L q) (hV:V<4294967296^n) (hV0:0<V) (hk:k+n+1≤la) (hkq:k<lq) (hU:U=sec L k (n+1)) (hq:U / V<4294967296):
  Div A V n la lq k (L.take k++jD (n+1) (U % V)++L.drop (k+(n+1))) (q.set k (U / V)):=by
 obtain⟨h1,h2,h3⟩:=aUm h hV hk;rw[← hU]at h1
 have hm:=Nat.mod_lt U hV0
 have hmlt:U % V<4294967296^(n+1):=by
  rw[Nat.pow_succ];have:=Nat.mul_le_mul_left (4294967296^n) (show 1≤4294967296 by omega);omega
 have hlt:(L.take k).length=k:=by rw[List.length_take,h.lL];omega
 have hd:(L.take k++jD (n+1) (U % V)++L.drop (k+(n+1))).drop k=jD (n+1) (U % V)++L.drop (k+(n+1)):=by
  rw[List.append_assoc,List.drop_append_of_le_length (by omega),List.drop_of_length_le (by omega),List.nil_append]
 have hvd:val (jD (n+1) (U % V)++L.drop (k+(n+1)))=U % V:=by
  rw[sB,eG hmlt,h3];omega
 refine⟨?_,?_,by simp[h.lq],h.oq.set hq,?_,?_⟩
 ·simp[bO,h.lL];omega
 ·exact((h.oL.take _).append (fL _ _)).append (h.oL.drop _)
 ·have e1:=jL L k (by rw[h.lL];omega);have e2:=h.eq;rw[e1,← h1]at e2
  rw[List.append_assoc,sB,hlt,hvd,xG (by rw[h.lq];exact hkq),val];have e3:=Nat.div_add_mod U V;rw[Nat.pow_succ]at e2
  generalize val (q.drop (k+1))=z at*;generalize val (L.take k)=a at*;generalize 4294967296^k=p at*;have e4:p*U=p*(V*(U / V)+U % V):=by rw[e3]
  have e5:V*p*(U / V+4294967296*z)=p*(V*(U / V))+V*(p*4294967296)*z:=by
   rw[Nat.mul_add];congr 1
   ·ac_rfl
   ·ac_rfl
  rw[e5,Nat.mul_add]at*
  omega
 ·rw[hd,hvd];exact hm
theorem bJw {x y s n la lq:Nat}{L q:List Nat}(h:Div (x*2^s) (y*2^s) n la lq 0 L q) (hy:y≠0) (hV:y*2^s<4294967296^n) (hn:n≤la):val q=x / y∧val (L.take n) / 2^s=x % y:=by
 have h1:=h.eq;have h2:=h.lt;simp only[List.drop_zero,Nat.pow_zero,Nat.mul_one]at h1 h2;have h2s:0<2^s:=Nat.two_pow_pos s;obtain⟨a1,a2⟩:=aRt (g:=val q) (U:=x*2^s) (V:=y*2^s) (by rw[Nat.mul_comm];omega) (by rw[Nat.add_mul,Nat.one_mul,Nat.mul_comm (val q)];omega);rw[Nat.mul_div_mul_right _ _ h2s]at a1
 refine⟨a1.symm,?_⟩;have h3:=jL L n (by rw[h.lL];exact hn)
 have hz:val (L.drop n)=0:=by
  rcases Nat.eq_zero_or_pos (val (L.drop n))with h0 |h0
  ·exact h0
  ·have:=Nat.mul_le_mul_left (4294967296^n) h0;omega
 rw[hz,Nat.mul_zero,Nat.add_zero]at h3
 have h4:val L=x % y*2^s:=by
  rw[← Nat.mul_mod_mul_right];rw[a2,Nat.mul_comm (val q)];omega
 rw[← h3,h4,Nat.mul_div_cancel _ h2s]
end
end Go.Num
