/- Contracts of functions of the program, and what proves them (texts: C1 C2 C3 C4). -/
import Derived.Test.YtaidcaemdkncgaaGreatDoorZSAI
set_option linter.all false
set_option maxRecDepth 100000
set_option maxHeartbeats 8000000
namespace Go.Proofs.YtaidcaemdkncgaaGreatDoor
section
open Go Go.Lg Go.Num
attribute [local irreducible] lrun lwp exThen exBlk keep goodPost
theorem aYm (ds:List Nat) (hlen:ds.length≤1099511627776):PGd 248 [dg ds] (dg (lW ds)):=by
 refine aA aV Tryz.func248 rfl (by decide) (nt:=23) rfl (rs:=[.tmp 2]) rfl (aW rfl) ?_;refine aM ?_;refine aG (α:={k:Nat // k≤ds.length∧lW ds=lW (ds.take k)}) (fun k=>st 23 (lk [(0,dg ds),(2,nilL),(3,i64 k.1)]) (cG []) 0) (fun k=>k.1) ⟨ds.length,Nat.le_refl _,by simp⟩ ?_ ?_
 ·exact zP0
 ·rintro⟨k,hk,ht⟩;simp only[st];rcases k with _ |k
  ·refine aM ?_;refine gZ ?_;refine iQ ?_;rw[ht];rfl
  ·have hg:(ds.take (k+1)).getD k 0=ds.getD k 0:=by simp[List.getD,List.getElem?_take]
   have hlen2:(ds.take (k+1)).length=k+1:=by rw[List.length_take];omega
   by_cases h0:ds.getD k 0=0
   ·refine aM ?_;refine⟨⟨k,by omega,by rw[ht,tO (by omega) h0]⟩,?_,Nat.lt_succ_self k⟩
    (refine Sub.plain ?_;simp only[aI,simprocAttr,bl,u32,u64,i64])
    simp only[Int.add_sub_cancel,and_self]
   ·refine aM ?_;refine gZ ?_;refine iQ ?_;rw[ht,xF (by omega) h0];simp[dg,Nat.min_eq_left hk]
theorem lB {ds:List Nat}(hok:OkD ds) (hlen:ds.length≤1099511627776):PGd 248 [dg ds] (dg (aC (val ds))):=by
 rw[← aE4 hok];exact aYm ds hlen
theorem yD {n:Nat}(hlen:(aC n).length≤1099511627776):PGd 248 [dg (aC n)] (dg (aC n)):=by
 have:=lB (aU n) hlen
 rwa [aJ]at this
theorem aC2 {neg:Bool}{ds:List Nat}(hok:OkD ds) (hlen:ds.length≤1099511627776):
  PGd 236 [.agg [bl neg,dg ds]] (aO (if neg then -(val ds:Int)else(val ds:Int))):=by
 unfold bl;refine aA aV Tryz.func236 rfl (by decide) (nt:=16) rfl (rs:=[.cell 2 45]) rfl (aW rfl) ?_;refine aM ?_;refine cQ (g:=(lB hok hlen)) (k:= ?_);refine aM ?_;have hl2:=uI hok
 have e:(0<(aC (val ds)).length)↔0<val ds:=by
  rw[List.length_pos_iff,Ne,bR];omega
 cases neg with
 |false=>
  refine aM ?_;refine gZ ?_;refine iQ ?_
  simp[aO,bl,dg]
 |true=>
  refine aM ?_;refine gZ ?_;refine iQ ?_;simp[aO,bl,dg,e]
theorem eJ {neg:Bool}{ds:List Nat}(hok:OkD ds) (hlen:ds.length≤1099511627776):
  PGd 244 [bl neg,dg ds] (aO (if neg then -(val ds:Int)else(val ds:Int))):=by
 have h1:=aC2 (neg:=neg) hok hlen;generalize (if neg then -(val ds:Int)else(val ds:Int))=z at*;simp only[aO,bl]at h1⊢;refine aA aV Tryz.func244 rfl (by decide) (nt:=9) rfl (rs:=[.cell 4 45]) rfl (aW rfl) ?_;refine vZ ?_;exact lV
theorem bKj (z:Int):(if decide (z<0)=true then -(val (aC z.natAbs):Int)else(val (aC z.natAbs):Int))=z:=by
 rw[aJ];by_cases h:z<0
 ·simp[h];omega
 ·simp[h];omega
theorem fG (z:Int) (hlen:len z≤1099511627776):PGd 236 [aO z] (aO z):=by
 have:=aC2 (neg:=decide (z<0)) (aU z.natAbs) hlen
 rwa [bKj]at this
theorem aBq (z:Int) (hlen:len z≤1099511627776):PGd 241 [aO z] (aO (-z)):=by
 have h1:=eJ (neg:= !decide (z<0)) (aU z.natAbs) hlen
 have e:(if(!decide (z<0))=true then -(val (aC z.natAbs):Int)else(val (aC z.natAbs):Int))= -z:=by
  rw[aJ];by_cases h:z<0
  ·simp[h];omega
  ·simp[h];omega
 rw[e]at h1
 generalize hz: -z=y at*;simp only[aO,bl]at h1⊢;refine aA aV Tryz.func241 rfl (by decide) (nt:=9) rfl (rs:=[.cell 2 45]) rfl (aW rfl) ?_;refine vZ ?_;exact lV
theorem aBr (z:Int) (hlen:len z≤1099511627776):PGd 287 [aO z] (aO (z.natAbs:Int)):=by
 have h1:=eJ (neg:=false) (aU z.natAbs) hlen;rw[aJ,if_neg (by decide)]at h1
 generalize (z.natAbs:Int)=y at*;simp only[aO,bl]at h1⊢;refine aA aV Tryz.func287 rfl (by decide) (nt:=6) rfl (rs:=[.cell 2 45]) rfl (aW rfl) ?_;refine vZ ?_;exact lV
theorem sM (z:Int) (hlen:len z≤1099511627776):PGd 239 [aO z] (i64 z.sign):=by
 have h1:=fG z hlen
 have hd:(aC z.natAbs).length=0↔z=0:=by
  rw[List.length_eq_zero_iff,bR];omega
 unfold len at hlen;simp only[aO,bl,i64]at h1⊢;refine aA aV Tryz.func239 rfl (by decide) (nt:=12) rfl (rs:=[.tmp 2]) rfl (aW rfl) ?_;refine vZ ?_;by_cases h0:z=0
 ·have h00:=hd.2 h0;refine aM ?_;refine gZ ?_;refine iQ ?_;subst h0;rfl
 have h00:¬(aC z.natAbs).length=0:=fun h=>h0 (hd.1 h)
 by_cases hn:z<0
 ·refine aM ?_;refine gZ ?_;refine iQ ?_;rw[Int.sign_eq_neg_one_of_neg hn]
 ·refine aM ?_;refine gZ ?_;refine iQ ?_;rw[Int.sign_eq_one_of_pos (by omega)]
theorem bJv {m:Nat}(h:m<18446744073709551616):val [m % 4294967296,m / 4294967296]=m:=by
 simp only[val];omega
theorem qW (n:Int) (h: -9223372036854775808≤n∧n≤9223372036854775807):PGd 237 [i64 n] (aO n):=by
 have hm:n.natAbs<18446744073709551616:=by omega
 have h1:=eJ (neg:=decide (n<0)) (ds:=[n.natAbs % 4294967296,n.natAbs / 4294967296]) (OkD.cons (by omega) (OkD.cons (by omega) OkD.nil)) (by simp);rw[bJv hm]at h1
 have e:(if decide (n<0)=true then -(n.natAbs:Int)else(n.natAbs:Int))=n:=by
  by_cases h:n<0
  ·simp[h];omega
  ·simp[h];omega
 rw[e]at h1
 have hdg:dg [n.natAbs % 4294967296,n.natAbs / 4294967296]= .sl 2 [.lit (.int .u32 ((n.natAbs % 4294967296:Nat):Int)),.lit (.int .u32 ((n.natAbs / 4294967296:Nat):Int))]:=rfl;rw[hdg]at h1
 simp only[aO,bl,i64]at h1⊢;refine aA aV Tryz.func237 rfl (by decide) (nt:=19) rfl (rs:=[.cell 2 45]) rfl (aW rfl) ?_;by_cases hn:n<0
 ·have e2:(0-n % 18446744073709551616) % 18446744073709551616=(n.natAbs:Int):=by omega
  have f1:(n.natAbs:Int) % 4294967296=((n.natAbs % 4294967296:Nat):Int):=by omega
  have f2:(n.natAbs:Int) / 4294967296 % 4294967296=((n.natAbs / 4294967296:Nat):Int):=by omega
  rw[decide_eq_true hn]at h1⊢
  refine aM ?_;simp only[dT,aN,e2,f1,f2];refine cQ (g:=h1) (k:= ?_);refine aM ?_;exact lV
 ·have f1:n % 4294967296=((n.natAbs % 4294967296:Nat):Int):=by omega
  have f2:n / 4294967296=((n.natAbs / 4294967296:Nat):Int):=by omega
  rw[decide_eq_false hn]at h1⊢
  refine aM ?_;simp only[aN,f1,f2];refine cQ (g:=h1) (k:= ?_);refine aM ?_;exact lV
theorem uU {a b:List Nat}(ha:OkD a) (hb:OkD b) (na:aC (val a)=a) (nb:aC (val b)=b) (la:a.length≤1099511627776) (lb:b.length≤1099511627776):
  PGd 246 [dg a,dg b] (bl (decide (val a<val b))):=by
 unfold bl;refine aA aV Tryz.func246 rfl (by decide) (nt:=41) rfl (rs:=[.tmp 4]) rfl (aW rfl) ?_;by_cases hl:a.length=b.length
 ·refine aM ?_;refine aG (α:={k:Nat // k≤a.length∧a.drop k=b.drop k}) (fun k=>st 41 (lk [(0,dg a),(1,dg b),(4,bl false),(5,i64 ((k.1:Int)-1))]) (cG []) 0) (fun k=>k.1) ⟨a.length,Nat.le_refl _,by rw[List.drop_of_length_le (Nat.le_refl _),List.drop_of_length_le (by omega)]⟩ ?_ ?_
  ·exact zP0
  ·rintro⟨k,hk,hd⟩;simp only[st,bl];rcases k with _ |k
   ·refine aM ?_;refine gZ ?_;refine iQ ?_;simp only[List.drop_zero]at hd;simp[hd]
   ·have hx:=ha.getD k;have hy:=hb.getD k;by_cases he:a.getD k 0=b.getD k 0
    ·refine aM ?_;refine⟨⟨k,by omega,?_⟩,?_,Nat.lt_succ_self k⟩
     ·rw[fS (by omega),fS (by omega:k<b.length),he,hd]
     ·(refine Sub.plain ?_;simp only[aI,simprocAttr,bl,u32,u64,i64])
      simp only[Int.add_sub_cancel,and_self]
    ·by_cases hlt:a.getD k 0<b.getD k 0
     ·refine aM ?_;refine gZ ?_;refine iQ ?_;have:=aKo ha hl (by omega) hd hlt;simp[this]
     ·refine aM ?_;refine gZ ?_;refine iQ ?_;have:=aKo hb hl.symm (by omega) hd.symm (by omega);simp;omega
 ·by_cases hlt:a.length<b.length
  ·refine aM ?_;refine gZ ?_;refine iQ ?_;have:val a<val b:=gB (by rw[na,nb];exact hlt);simp[this]
  ·refine aM ?_;refine gZ ?_;refine iQ ?_;have:val b<val a:=gB (by rw[na,nb];omega);simp;omega
set_option maxHeartbeats 1000000 in
theorem aOi (n1 n2:Bool) {a b:List Nat}(ha:OkD a) (hb:OkD b) (la:a.length≤1099511627776) (lb:b.length≤1099511627776):PGd 242 [.agg [bl n1,dg a],.agg [bl n2,dg b]] (bl (decide (n1=n2∧a=b))):=by
 unfold bl;refine aA aV Tryz.func242 rfl (by decide) (nt:=38) rfl (rs:=[.tmp 4]) rfl (aW rfl) ?_;by_cases hne:n1=n2
 case neg=>
  have hneq:(n1 !=n2)=true:=by simp[hne]
  refine tX hneq ?_
  ((first|apply dI|apply dK);case hres=>(simp only[gW];simp(disch:=first|omega|exact kD rfl|exact kX rfl) only[smY,simprocAttr,bl,u32,u64,i64,hneq];exact rfl))
  simp(disch:=first|omega|exact kD rfl|exact kX rfl) only[smY,simprocAttr,bl,u32,u64,i64,hneq];all_goals simp[hne]
 subst hne;by_cases h2:a.length=b.length
 case neg=>
  have:¬(a=b):=fun e=>h2 (by rw[e])
  refine zG2 ?_;refine zR3 ?_;simp(disch:=first|omega|exact kD rfl|exact kX rfl) only[smY,simprocAttr,bl,u32,u64,i64,bne_self_eq_false];all_goals simp[this]
 refine zG2 ?_;refine aG (α:={k:Nat // k≤a.length∧a.take k=b.take k}) (fun k=>st 38 (lk [(2,.ptr 0 0),(3,.ptr 1 0),(4,bl false),(5,i64 (k.1:Int))]) (cG [(0,⟨45,[bl n1,dg a],false⟩),(1,⟨45,[bl n1,dg b],false⟩)]) 2) (fun k=>a.length-k.1) ⟨0,Nat.zero_le _,rfl⟩ ?_ ?_
 ·(refine Sub.heap2 0 1 (by decide) ?_ (by simp only[aI,simprocAttr,bl,u32,u64,i64,bne_self_eq_false];exact rfl) (by simp only[aI,simprocAttr,bl,u32,u64,i64,bne_self_eq_false];exact rfl) ?_ ?_ ?_ ?_;all_goals(first |exact aE _ |with_reducible rfl |(simp only[aI,simprocAttr,bl,u32,u64,i64,bne_self_eq_false])|skip))
  ·simp[aB]
  ·simp[aB]
 ·rintro⟨k,hk,hd⟩;simp only[st,bl];by_cases hk2:k<a.length
  ·have hx:=ha.getD k;have hy:=hb.getD k;by_cases he:a.getD k 0=b.getD k 0
   ·refine zG2 ?_;refine⟨⟨k+1,by omega,?_⟩,?_,by simp only;omega⟩
    ·rw[eP hk2,eP (by omega:k<b.length),he,hd]
    ·(refine Sub.heap2 0 1 (by decide) ?_ (by simp only[aI,simprocAttr,bl,u32,u64,i64,bne_self_eq_false];exact rfl) (by simp only[aI,simprocAttr,bl,u32,u64,i64,bne_self_eq_false];exact rfl) ?_ ?_ ?_ ?_;all_goals(first |exact aE _ |with_reducible rfl |(simp only[aI,simprocAttr,bl,u32,u64,i64,bne_self_eq_false])|skip))
     ·simp[aB]
     ·simp[aB]
   ·have hab:a≠b:=fun e=>he (by rw[e])
    refine zG2 ?_;refine zR3 ?_;simp(disch:=first|omega|exact kD rfl|exact kX rfl) only[smY,simprocAttr,bl,u32,u64,i64,bne_self_eq_false];all_goals simp[hab]
  ·have hab:a=b:=by
    rwa [List.take_of_length_le (by omega),List.take_of_length_le (by omega)]at hd
   refine zG2 ?_;refine zR3 ?_;simp(disch:=first|omega|exact kD rfl|exact kX rfl) only[smY,simprocAttr,bl,u32,u64,i64,bne_self_eq_false];all_goals simp[hab]
set_option maxHeartbeats 1000000 in
theorem aHu (n1 n2:Bool) {a b:List Nat}(ha:OkD a) (hb:OkD b) (la:a.length≤1099511627776) (lb:b.length≤1099511627776):PGd 54 [.agg [bl n1,dg a],.agg [bl n2,dg b]] (bl (decide (n1=n2∧a=b))):=by
 unfold bl;refine aA aV Tryz.func54 rfl (by decide) (nt:=38) rfl (rs:=[.tmp 4]) rfl (aW rfl) ?_;by_cases hne:n1=n2
 case neg=>
  have hneq:(n1 !=n2)=true:=by simp[hne]
  refine tX hneq ?_
  ((first|apply dI|apply dK);case hres=>(simp only[gW];simp(disch:=first|omega|exact kD rfl|exact kX rfl) only[smY,simprocAttr,bl,u32,u64,i64,hneq];exact rfl))
  simp(disch:=first|omega|exact kD rfl|exact kX rfl) only[smY,simprocAttr,bl,u32,u64,i64,hneq];all_goals simp[hne]
 subst hne;by_cases h2:a.length=b.length
 case neg=>
  have:¬(a=b):=fun e=>h2 (by rw[e])
  refine zG2 ?_;refine zR3 ?_;simp(disch:=first|omega|exact kD rfl|exact kX rfl) only[smY,simprocAttr,bl,u32,u64,i64,bne_self_eq_false];all_goals simp[this]
 refine zG2 ?_;refine aG (α:={k:Nat // k≤a.length∧a.take k=b.take k}) (fun k=>st 38 (lk [(2,.ptr 0 0),(3,.ptr 1 0),(4,bl false),(5,i64 (k.1:Int))]) (cG [(0,⟨45,[bl n1,dg a],false⟩),(1,⟨45,[bl n1,dg b],false⟩)]) 2) (fun k=>a.length-k.1) ⟨0,Nat.zero_le _,rfl⟩ ?_ ?_
 ·(refine Sub.heap2 0 1 (by decide) ?_ (by simp only[aI,simprocAttr,bl,u32,u64,i64,bne_self_eq_false];exact rfl) (by simp only[aI,simprocAttr,bl,u32,u64,i64,bne_self_eq_false];exact rfl) ?_ ?_ ?_ ?_;all_goals(first |exact aE _ |with_reducible rfl |(simp only[aI,simprocAttr,bl,u32,u64,i64,bne_self_eq_false])|skip))
  ·simp[aB]
  ·simp[aB]
 ·rintro⟨k,hk,hd⟩;simp only[st,bl];by_cases hk2:k<a.length
  ·have hx:=ha.getD k;have hy:=hb.getD k;by_cases he:a.getD k 0=b.getD k 0
   ·refine zG2 ?_;refine⟨⟨k+1,by omega,?_⟩,?_,by simp only;omega⟩
    ·rw[eP hk2,eP (by omega:k<b.length),he,hd]
    ·(refine Sub.heap2 0 1 (by decide) ?_ (by simp only[aI,simprocAttr,bl,u32,u64,i64,bne_self_eq_false];exact rfl) (by simp only[aI,simprocAttr,bl,u32,u64,i64,bne_self_eq_false];exact rfl) ?_ ?_ ?_ ?_;all_goals(first |exact aE _ |with_reducible rfl |(simp only[aI,simprocAttr,bl,u32,u64,i64,bne_self_eq_false])|skip))
     ·simp[aB]
     ·simp[aB]
   ·have hab:a≠b:=fun e=>he (by rw[e])
    refine zG2 ?_;refine zR3 ?_;simp(disch:=first|omega|exact kD rfl|exact kX rfl) only[smY,simprocAttr,bl,u32,u64,i64,bne_self_eq_false];all_goals simp[hab]
  ·have hab:a=b:=by
    rwa [List.take_of_length_le (by omega),List.take_of_length_le (by omega)]at hd
   refine zG2 ?_;refine zR3 ?_;simp(disch:=first|omega|exact kD rfl|exact kX rfl) only[smY,simprocAttr,bl,u32,u64,i64,bne_self_eq_false];all_goals simp[hab]
theorem aSb {x y:Int}(h1:decide (x<0)=decide (y<0)) (h2:aC x.natAbs=aC y.natAbs):x=y:=by
 have h3:x.natAbs=y.natAbs:=by rw[← aJ x.natAbs,← aJ y.natAbs,h2]
 have h4:(x<0)↔(y<0):=decide_eq_decide.1 h1;omega
theorem aOj (x y:Int):decide (decide (x<0)=decide (y<0)∧aC x.natAbs=aC y.natAbs)=decide (x=y):=by
 by_cases h:x=y
 ·subst h;simp
 ·rw[decide_eq_false h,decide_eq_false];exact fun⟨h1,h2⟩=>h (aSb h1 h2)
theorem aFt (x y:Int) (lx:len x≤1099511627776) (ly:len y≤1099511627776):PGd 242 [aO x,aO y] (bl (decide (x=y))):=by
 rw[← aOj];exact aOi _ _ (aU _) (aU _) lx ly
theorem zU (x y:Int) (lx:len x≤1099511627776) (ly:len y≤1099511627776):PGd 54 [aO x,aO y] (bl (decide (x=y))):=by
 rw[← aOj];exact aHu _ _ (aU _) (aU _) lx ly
end
section
open Go Go.Lg Go.Num
attribute [local irreducible] lrun lwp exThen exBlk keep goodPost
def aYn (l:List Nat):LV:=if l=[]then nilL else .own 0 0 l.length 1
def aYo (l:List Nat):List (Nat×Blk):=if l=[]then[]else[(0,⟨185,dB l,false⟩)]
theorem zV:aYn []=nilL:=rfl
theorem zW:aYo []=[]:=rfl
theorem aU2 {l:List Nat}(h:l≠[]):aYn l= .own 0 0 l.length 1:=if_neg h
theorem aU3 {l:List Nat}(h:l≠[]):aYo l=[(0,⟨185,dB l,false⟩)]:=if_neg h
theorem dU (l:List Nat) (d:Nat):aYn (l++[d])= .own 0 0 (l.length+1) 1:=by simp[aYn]
theorem dV (l:List Nat) (d:Nat):aYo (l++[d])=[(0,⟨185,dB (l++[d]),false⟩)]:=by simp[aYo]
theorem jG (l:List Nat) (d:Nat):dB (l++[d])=dB l++[.lit (.int .u32 d)]:=by simp[dB]
theorem qX {a:List Nat}{k:Nat}(h:a.length≤k):a.getD k 0=0:=by simp[List.getD,h]
set_option maxHeartbeats 4000000 in
theorem aFu {a b:List Nat}(ha:OkD a) (hb:OkD b) (la:a.length≤1099511627776) (lb:b.length≤1099511627776):
  PGd 245 [dg a,dg b] (dg (jD (max a.length b.length+1) (val a+val b))):=by
 refine aA aV Tryz.func245 rfl (by decide) (nt:=56) rfl (rs:=[.tmp 4]) rfl (aW rfl) ?_;refine aM ?_
 refine aG (α:={p:Nat×List Nat×Nat // p.1≤max a.length b.length∧p.2.1.length=p.1∧OkD p.2.1∧p.2.2≤1∧val p.2.1+4294967296^p.1*p.2.2=val (a.take p.1)+val (b.take p.1)})
  (fun p=>st 56 (lk [(0,dg a),(1,dg b),(4,nilL),(5,aYn p.1.2.1),(6,u64 p.1.2.2),(7,i64 p.1.1)]) (cG (aYo p.1.2.1)) 1) (fun p=>max a.length b.length-p.1.1) ⟨(0,[],0),by simp,by simp,OkD.nil,by simp,by simp[val]⟩ ?_ ?_
 ·simp only[zV,zW];exact zP0
 ·rintro⟨⟨k,l,c⟩,hk,hlen,hok,hc,he⟩;simp only at hk hlen hok hc he;simp only[st];have hx:=ha.getD k;have hy:=hb.getD k;by_cases hl:l=[]
  ·subst hl;simp only[List.length_nil]at hlen;subst hlen;simp only[zV,zW];by_cases h1:0<a.length
   ·by_cases h2:0<b.length
    ·skip
     refine aM ?_;refine⟨⟨(0+1,[]++[(c+a.getD 0 0+b.getD 0 0) % 4294967296],(c+a.getD 0 0+b.getD 0 0) / 4294967296),by simp only;omega,by simp,OkD.cons (by omega) OkD.nil,by simp only;omega,?_⟩,?_,by simp only;omega⟩
     ·simp only;rw[dM,List.length_nil,aD,aD,Nat.pow_succ];exact iC he (by omega)
     ·simp only[dU,dV];simp only[List.nil_append,List.length_nil]
      (refine Sub.heap1 41 ?_ (by simp only[aI,simprocAttr,bl,u32,u64,i64];exact rfl) ?_ ?_;all_goals(first |exact aE _ |with_reducible rfl |(simp only[aI,simprocAttr,bl,u32,u64,i64])|skip))
      ·simp only[true_and,LV.lit.injEq,Value.int.injEq];omega
      ·simp only[dB,List.map_cons,List.map_nil,aN,List.cons.injEq,and_true,LV.lit.injEq,Value.int.injEq,true_and];omega
    ·have h0:=qX (Nat.le_of_not_lt h2);refine aM ?_;refine⟨⟨(0+1,[]++[(c+a.getD 0 0) % 4294967296],(c+a.getD 0 0) / 4294967296),by simp only;omega,by simp,OkD.cons (by omega) OkD.nil,by simp only;omega,?_⟩,?_,by simp only;omega⟩
     ·simp only;rw[dM,List.length_nil,aD,aD,Nat.pow_succ];exact iC he (by omega)
     ·simp only[dU,dV];simp only[List.nil_append,List.length_nil]
      (refine Sub.heap1 33 ?_ (by simp only[aI,simprocAttr,bl,u32,u64,i64];exact rfl) ?_ ?_;all_goals(first |exact aE _ |with_reducible rfl |(simp only[aI,simprocAttr,bl,u32,u64,i64])|skip))
      ·simp only[true_and,LV.lit.injEq,Value.int.injEq];omega
      ·simp only[dB,List.map_cons,List.map_nil,aN,List.cons.injEq,and_true,LV.lit.injEq,Value.int.injEq,true_and];omega
   ·have h00:=qX (Nat.le_of_not_lt h1);by_cases h2:0<b.length
    ·skip
     refine aM ?_;refine⟨⟨(0+1,[]++[(c+b.getD 0 0) % 4294967296],(c+b.getD 0 0) / 4294967296),by simp only;omega,by simp,OkD.cons (by omega) OkD.nil,by simp only;omega,?_⟩,?_,by simp only;omega⟩
     ·simp only;rw[dM,List.length_nil,aD,aD,Nat.pow_succ];exact iC he (by omega)
     ·simp only[dU,dV];simp only[List.nil_append,List.length_nil]
      (refine Sub.heap1 33 ?_ (by simp only[aI,simprocAttr,bl,u32,u64,i64];exact rfl) ?_ ?_;all_goals(first |exact aE _ |with_reducible rfl |(simp only[aI,simprocAttr,bl,u32,u64,i64])|skip))
      ·simp only[true_and,LV.lit.injEq,Value.int.injEq];omega
      ·simp only[dB,List.map_cons,List.map_nil,aN,List.cons.injEq,and_true,LV.lit.injEq,Value.int.injEq,true_and];omega
    ·have ha0:a=[]:=List.length_eq_zero_iff.1 (by omega);have hb0:b=[]:=List.length_eq_zero_iff.1 (by omega);subst ha0;subst hb0;simp only[List.take_nil,val,Nat.pow_zero,Nat.one_mul,Nat.zero_add,Nat.add_zero]at he;subst he;refine aM ?_;refine gZ ?_;refine iQ ?_;rfl
  ·have hk0:0<k:=by rw[← hlen];exact List.length_pos_iff.2 hl
   simp only[aU2 hl,aU3 hl];by_cases h1:k<a.length
   ·by_cases h2:k<b.length
    ·skip
     refine aM ?_;refine⟨⟨(k+1,l++[(c+a.getD k 0+b.getD k 0) % 4294967296],(c+a.getD k 0+b.getD k 0) / 4294967296),by simp only;omega,by simp[hlen],hok.append (OkD.cons (by omega) OkD.nil),by simp only;omega,?_⟩,?_,by simp only;omega⟩
     ·simp only;rw[dM,hlen,aD,aD,Nat.pow_succ];exact iC he (by omega)
     ·simp only[dU,dV]
      (refine Sub.heap1 41 ?_ (by simp only[aI,simprocAttr,bl,u32,u64,i64];exact rfl) ?_ ?_;all_goals(first |exact aE _ |with_reducible rfl |(simp only[aI,simprocAttr,bl,u32,u64,i64])|skip))
      ·simp only[true_and,LV.lit.injEq,Value.int.injEq];omega
      ·simp only[jG,aN,List.append_cancel_left_eq,List.cons.injEq,and_true,LV.lit.injEq,Value.int.injEq,true_and];omega
    ·have h0:=qX (Nat.le_of_not_lt h2);refine aM ?_;refine⟨⟨(k+1,l++[(c+a.getD k 0) % 4294967296],(c+a.getD k 0) / 4294967296),by simp only;omega,by simp[hlen],hok.append (OkD.cons (by omega) OkD.nil),by simp only;omega,?_⟩,?_,by simp only;omega⟩
     ·simp only;rw[dM,hlen,aD,aD,Nat.pow_succ];exact iC he (by omega)
     ·simp only[dU,dV]
      (refine Sub.heap1 33 ?_ (by simp only[aI,simprocAttr,bl,u32,u64,i64];exact rfl) ?_ ?_;all_goals(first |exact aE _ |with_reducible rfl |(simp only[aI,simprocAttr,bl,u32,u64,i64])|skip))
      ·simp only[true_and,LV.lit.injEq,Value.int.injEq];omega
      ·simp only[jG,aN,List.append_cancel_left_eq,List.cons.injEq,and_true,LV.lit.injEq,Value.int.injEq,true_and];omega
   ·have h00:=qX (Nat.le_of_not_lt h1);by_cases h2:k<b.length
    ·skip
     refine aM ?_;refine⟨⟨(k+1,l++[(c+b.getD k 0) % 4294967296],(c+b.getD k 0) / 4294967296),by simp only;omega,by simp[hlen],hok.append (OkD.cons (by omega) OkD.nil),by simp only;omega,?_⟩,?_,by simp only;omega⟩
     ·simp only;rw[dM,hlen,aD,aD,Nat.pow_succ];exact iC he (by omega)
     ·simp only[dU,dV]
      (refine Sub.heap1 33 ?_ (by simp only[aI,simprocAttr,bl,u32,u64,i64];exact rfl) ?_ ?_;all_goals(first |exact aE _ |with_reducible rfl |(simp only[aI,simprocAttr,bl,u32,u64,i64])|skip))
      ·simp only[true_and,LV.lit.injEq,Value.int.injEq];omega
      ·simp only[jG,aN,List.append_cancel_left_eq,List.cons.injEq,and_true,LV.lit.injEq,Value.int.injEq,true_and];omega
    ·have hkm:k=max a.length b.length:=by omega
     refine aM ?_;refine gZ ?_;refine iQ ?_;rw[List.take_length,← jG,List.take_of_length_le (by simp[dB])];refine iQ ?_;rw[List.take_of_length_le (by omega),List.take_of_length_le (by omega)]at he
     have hfin:val (l++[c])=val a+val b:=by rw[dM,hlen];exact he
     rw[← hkm,← gX (hok.append (OkD.cons (by omega) OkD.nil)) (by simp[hlen]) hfin];simp[dg]
set_option maxHeartbeats 4000000 in
theorem pT {a b:List Nat}(ha:OkD a) (hb:OkD b) (la:a.length≤1099511627776) (lb:b.length≤a.length) (hv:val b≤val a):
  PGd 247 [dg a,dg b] (dg (jD a.length (val a-val b))):=by
 refine aA aV Tryz.func247 rfl (by decide) (nt:=46) rfl (rs:=[.tmp 4]) rfl (aW rfl) ?_;refine aM ?_
 refine aG (α:={p:Nat×List Nat×Nat // p.1≤a.length∧p.2.1.length=p.1∧OkD p.2.1∧p.2.2≤1∧val p.2.1+val (b.take p.1)=val (a.take p.1)+4294967296^p.1*p.2.2})
  (fun p=>st 46 (lk [(0,dg a),(1,dg b),(4,nilL),(5,aYn p.1.2.1),(6,u64 p.1.2.2),(7,i64 p.1.1)]) (cG (aYo p.1.2.1)) 1) (fun p=>a.length-p.1.1) ⟨(0,[],0),by simp,by simp,OkD.nil,by simp,by simp[val]⟩ ?_ ?_
 ·simp only[zV,zW];exact zP0
 ·rintro⟨⟨k,l,c⟩,hk,hlen,hok,hc,he⟩;simp only at hk hlen hok hc he;simp only[st];have hx:=ha.getD k;have hy:=hb.getD k;by_cases hl:l=[]
  ·subst hl;simp only[List.length_nil]at hlen;subst hlen;simp only[zV,zW];by_cases h1:0<a.length
   ·by_cases h2:0<b.length
    ·by_cases h3:a.getD 0 0<c+b.getD 0 0
     ·skip
      refine aM ?_;refine⟨⟨(0+1,[]++[a.getD 0 0+4294967296-(c+b.getD 0 0)],1),by simp only;omega,by simp,OkD.cons (by omega) OkD.nil,by simp only;omega,?_⟩,?_,by simp only;omega⟩
      ·simp only;rw[dM,List.length_nil,aD,aD,Nat.pow_succ];exact jE he (by omega)
      ·simp only[dU,dV];simp only[List.nil_append,List.length_nil]
       (refine Sub.heap1 39 ?_ (by simp only[aI,simprocAttr,bl,u32,u64,i64];exact rfl) ?_ ?_;all_goals(first |exact aE _ |with_reducible rfl |(simp only[aI,simprocAttr,bl,u32,u64,i64])|skip))
       all_goals(simp only[dB,List.map_cons,List.map_nil,aN,List.cons.injEq,and_true,LV.lit.injEq,Value.int.injEq,true_and,Int.natCast_zero,Int.natCast_one])
       all_goals omega
     ·skip
      refine aM ?_;refine⟨⟨(0+1,[]++[a.getD 0 0-(c+b.getD 0 0)],0),by simp only;omega,by simp,OkD.cons (by omega) OkD.nil,by simp only;omega,?_⟩,?_,by simp only;omega⟩
      ·simp only;rw[dM,List.length_nil,aD,aD,Nat.pow_succ];exact jE he (by omega)
      ·simp only[dU,dV];simp only[List.nil_append,List.length_nil]
       (refine Sub.heap1 35 ?_ (by simp only[aI,simprocAttr,bl,u32,u64,i64];exact rfl) ?_ ?_;all_goals(first |exact aE _ |with_reducible rfl |(simp only[aI,simprocAttr,bl,u32,u64,i64])|skip))
       all_goals(simp only[dB,List.map_cons,List.map_nil,aN,List.cons.injEq,and_true,LV.lit.injEq,Value.int.injEq,true_and,Int.natCast_zero,Int.natCast_one])
       all_goals omega
    ·have h0:=qX (Nat.le_of_not_lt h2);by_cases h3:a.getD 0 0<c
     ·skip
      refine aM ?_;refine⟨⟨(0+1,[]++[a.getD 0 0+4294967296-c],1),by simp only;omega,by simp,OkD.cons (by omega) OkD.nil,by simp only;omega,?_⟩,?_,by simp only;omega⟩
      ·simp only;rw[dM,List.length_nil,aD,aD,Nat.pow_succ];exact jE he (by omega)
      ·simp only[dU,dV];simp only[List.nil_append,List.length_nil]
       (refine Sub.heap1 31 ?_ (by simp only[aI,simprocAttr,bl,u32,u64,i64];exact rfl) ?_ ?_;all_goals(first |exact aE _ |with_reducible rfl |(simp only[aI,simprocAttr,bl,u32,u64,i64])|skip))
       all_goals(simp only[dB,List.map_cons,List.map_nil,aN,List.cons.injEq,and_true,LV.lit.injEq,Value.int.injEq,true_and,Int.natCast_zero,Int.natCast_one])
       all_goals omega
     ·skip
      refine aM ?_;refine⟨⟨(0+1,[]++[a.getD 0 0-c],0),by simp only;omega,by simp,OkD.cons (by omega) OkD.nil,by simp only;omega,?_⟩,?_,by simp only;omega⟩
      ·simp only;rw[dM,List.length_nil,aD,aD,Nat.pow_succ];exact jE he (by omega)
      ·simp only[dU,dV];simp only[List.nil_append,List.length_nil]
       (refine Sub.heap1 27 ?_ (by simp only[aI,simprocAttr,bl,u32,u64,i64];exact rfl) ?_ ?_;all_goals(first |exact aE _ |with_reducible rfl |(simp only[aI,simprocAttr,bl,u32,u64,i64])|skip))
       all_goals(simp only[dB,List.map_cons,List.map_nil,aN,List.cons.injEq,and_true,LV.lit.injEq,Value.int.injEq,true_and,Int.natCast_zero,Int.natCast_one])
       all_goals omega
   ·have ha0:a=[]:=List.length_eq_zero_iff.1 (by omega);have hb0:b=[]:=List.length_eq_zero_iff.1 (by omega);subst ha0;subst hb0;refine aM ?_;refine gZ ?_;refine iQ ?_;rfl
  ·have hk0:0<k:=by rw[← hlen];exact List.length_pos_iff.2 hl
   simp only[aU2 hl,aU3 hl];by_cases h1:k<a.length
   ·by_cases h2:k<b.length
    ·by_cases h3:a.getD k 0<c+b.getD k 0
     ·skip
      refine aM ?_;refine⟨⟨(k+1,l++[a.getD k 0+4294967296-(c+b.getD k 0)],1),by simp only;omega,by simp[hlen],hok.append (OkD.cons (by omega) OkD.nil),by simp only;omega,?_⟩,?_,by simp only;omega⟩
      ·simp only;rw[dM,hlen,aD,aD,Nat.pow_succ];exact jE he (by omega)
      ·simp only[dU,dV]
       (refine Sub.heap1 39 ?_ (by simp only[aI,simprocAttr,bl,u32,u64,i64];exact rfl) ?_ ?_;all_goals(first |exact aE _ |with_reducible rfl |(simp only[aI,simprocAttr,bl,u32,u64,i64])|skip))
       all_goals(simp only[jG,aN,List.append_cancel_left_eq,List.cons.injEq,and_true,LV.lit.injEq,Value.int.injEq,true_and,Int.natCast_zero,Int.natCast_one])
       all_goals omega
     ·skip
      refine aM ?_;refine⟨⟨(k+1,l++[a.getD k 0-(c+b.getD k 0)],0),by simp only;omega,by simp[hlen],hok.append (OkD.cons (by omega) OkD.nil),by simp only;omega,?_⟩,?_,by simp only;omega⟩
      ·simp only;rw[dM,hlen,aD,aD,Nat.pow_succ];exact jE he (by omega)
      ·simp only[dU,dV]
       (refine Sub.heap1 35 ?_ (by simp only[aI,simprocAttr,bl,u32,u64,i64];exact rfl) ?_ ?_;all_goals(first |exact aE _ |with_reducible rfl |(simp only[aI,simprocAttr,bl,u32,u64,i64])|skip))
       all_goals(simp only[jG,aN,List.append_cancel_left_eq,List.cons.injEq,and_true,LV.lit.injEq,Value.int.injEq,true_and,Int.natCast_zero,Int.natCast_one])
       all_goals omega
    ·have h0:=qX (Nat.le_of_not_lt h2);by_cases h3:a.getD k 0<c
     ·skip
      refine aM ?_;refine⟨⟨(k+1,l++[a.getD k 0+4294967296-c],1),by simp only;omega,by simp[hlen],hok.append (OkD.cons (by omega) OkD.nil),by simp only;omega,?_⟩,?_,by simp only;omega⟩
      ·simp only;rw[dM,hlen,aD,aD,Nat.pow_succ];exact jE he (by omega)
      ·simp only[dU,dV]
       (refine Sub.heap1 31 ?_ (by simp only[aI,simprocAttr,bl,u32,u64,i64];exact rfl) ?_ ?_;all_goals(first |exact aE _ |with_reducible rfl |(simp only[aI,simprocAttr,bl,u32,u64,i64])|skip))
       all_goals(simp only[jG,aN,List.append_cancel_left_eq,List.cons.injEq,and_true,LV.lit.injEq,Value.int.injEq,true_and,Int.natCast_zero,Int.natCast_one])
       all_goals omega
     ·skip
      refine aM ?_;refine⟨⟨(k+1,l++[a.getD k 0-c],0),by simp only;omega,by simp[hlen],hok.append (OkD.cons (by omega) OkD.nil),by simp only;omega,?_⟩,?_,by simp only;omega⟩
      ·simp only;rw[dM,hlen,aD,aD,Nat.pow_succ];exact jE he (by omega)
      ·simp only[dU,dV]
       (refine Sub.heap1 27 ?_ (by simp only[aI,simprocAttr,bl,u32,u64,i64];exact rfl) ?_ ?_;all_goals(first |exact aE _ |with_reducible rfl |(simp only[aI,simprocAttr,bl,u32,u64,i64])|skip))
       all_goals(simp only[jG,aN,List.append_cancel_left_eq,List.cons.injEq,and_true,LV.lit.injEq,Value.int.injEq,true_and,Int.natCast_zero,Int.natCast_one])
       all_goals omega
   ·have hkm:k=a.length:=by omega
    refine aM ?_;refine gZ ?_;refine iQ ?_;rw[List.take_of_length_le (by omega),List.take_of_length_le (by omega)]at he
    have hvr:=jJ hok
    have hc0:c=0:=by
     rcases Nat.eq_zero_or_pos c with h |h
     ·exact h
     ·have:c=1:=by omega
      subst this;rw[hlen]at hvr
      omega
    subst hc0;rw[← gX hok (by omega) (show val l=val a-val b by omega)];simp[dg]
end
section
open Go Go.Lg Go.Num
attribute [local irreducible] lrun lwp exThen exBlk keep goodPost
theorem bKk {a b:Nat}:a+b<4294967296^(max (aC a).length (aC b).length+1):=by
 have h1:=bN a;have h2:=bN b;have h3:4294967296^(aC a).length≤4294967296^(max (aC a).length (aC b).length):=Nat.pow_le_pow_right (by omega) (by omega);have h4:4294967296^(aC b).length≤4294967296^(max (aC a).length (aC b).length):=Nat.pow_le_pow_right (by omega) (by omega);rw[Nat.pow_succ];omega
theorem aD0 {a b:Nat}:a-b<4294967296^(aC a).length:=by
 have h1:=bN a;omega
set_option maxHeartbeats 2000000 in
theorem qY (x y:Int) (lx:len x≤549755813888) (ly:len y≤549755813888):PGd 158 [aO x,aO y] (aO (x+y)):=by
 have hn1:=fG x (by omega);have hn2:=fG y (by omega);unfold len at lx ly;have hp:=aFu (aU x.natAbs) (aU y.natAbs) (by omega) (by omega);have hb:=uU (aU x.natAbs) (aU y.natAbs) (by rw[aJ]) (by rw[aJ]) (by omega) (by omega);rw[aJ,aJ]at hp hb
 have hs:∀ (n:Bool) (k v:Nat),k≤1099511627776→v<4294967296^k→PGd 244 [bl n,dg (jD k v)] (aO (if n then -(v:Int)else(v:Int))):=fun n k v hk hv=>by
  have:=eJ (neg:=n) (fL k v) (by rw[bO];exact hk)
  rwa [eG hv]at this
 by_cases hne:decide (x<0)=decide (y<0)
 ·have h1:=hs (decide (x<0)) _ _ (by omega) (bKk (a:=x.natAbs) (b:=y.natAbs))
  have e:(if decide (x<0)=true then -((x.natAbs+y.natAbs:Nat):Int)else((x.natAbs+y.natAbs:Nat):Int))=x+y:=by
   have h4:(x<0)↔(y<0):=decide_eq_decide.1 hne;by_cases h:x<0
   ·have:=h4.1 h;simp[h];omega
   ·have:=fun h'=>h (h4.2 h');simp[h];omega
  rw[e]at h1
  have heq:(decide (x<0)==decide (y<0))=true:=by simp[hne]
  simp only[aO,bl]at hn1 hn2 h1⊢;refine aA aV Tryz.func158 rfl (by decide) (nt:=45) rfl (rs:=[.cell 4 45]) rfl (aW rfl) ?_;refine bBp heq ?_;exact bIw heq
 have heq:(decide (x<0)==decide (y<0))=false:=by simp[hne]
 have hxy:¬((x<0)↔(y<0)):=fun h=>hne (decide_eq_decide.2 h)
 by_cases hlt:x.natAbs<y.natAbs
 ·rw[decide_eq_true hlt]at hb
  have hm:=pT (aU y.natAbs) (aU x.natAbs) (by omega) (bM (by omega)) (by rw[aJ,aJ];omega);rw[aJ,aJ]at hm
  have h1:=hs (decide (y<0)) _ _ (by omega) (aD0 (a:=y.natAbs) (b:=x.natAbs))
  have e:(if decide (y<0)=true then -((y.natAbs-x.natAbs:Nat):Int)else((y.natAbs-x.natAbs:Nat):Int))=x+y:=by
   by_cases h:y<0
   ·simp[h];omega
   ·simp[h];omega
  rw[e]at h1
  simp only[aO,bl]at hn1 hn2 h1 hb⊢;refine aA aV Tryz.func158 rfl (by decide) (nt:=45) rfl (rs:=[.cell 4 45]) rfl (aW rfl) ?_;refine bBp heq ?_;exact bIw heq
 ·rw[decide_eq_false hlt]at hb
  have hm:=pT (aU x.natAbs) (aU y.natAbs) (by omega) (bM (by omega)) (by rw[aJ,aJ];omega);rw[aJ,aJ]at hm
  have h1:=hs (decide (x<0)) _ _ (by omega) (aD0 (a:=x.natAbs) (b:=y.natAbs))
  have e:(if decide (x<0)=true then -((x.natAbs-y.natAbs:Nat):Int)else((x.natAbs-y.natAbs:Nat):Int))=x+y:=by
   by_cases h:x<0
   ·simp[h];omega
   ·simp[h];omega
  rw[e]at h1
  simp only[aO,bl]at hn1 hn2 h1 hb⊢;refine aA aV Tryz.func158 rfl (by decide) (nt:=45) rfl (rs:=[.cell 4 45]) rfl (aW rfl) ?_;refine bBp heq ?_;exact bIw heq
theorem aYp (x y:Int) (lx:len x≤549755813888) (ly:len y≤549755813888):PGd 310 [aO x,aO y] (aO (x-y)):=by
 have h1:=aBq y (by omega);have h2:=qY x (-y) lx (by rw[mW];exact ly);rw[← Int.sub_eq_add_neg]at h2
 simp only[aO,bl]at h1 h2⊢;refine aA aV Tryz.func310 rfl (by decide) (nt:=9) rfl (rs:=[.cell 4 45]) rfl (aW rfl) ?_;refine vZ ?_;exact lV
end
section
open Go Go.Lg Go.Num
attribute [local irreducible] lrun lwp exThen exBlk keep goodPost
theorem qZ (k v:Nat):(jD k v).take k=jD k v:=List.take_of_length_le (by rw[bO];exact Nat.le_refl _)
set_option maxHeartbeats 4000000 in
theorem aSc (n1 n2:Bool) {a b:List Nat}(ha:OkD a) (hb:OkD b) (la:a.length≤549755813888) (lb:b.length≤549755813888)
  (ta:PGd 248 [dg a] (dg a)) (tb:PGd 248 [dg b] (dg b))
  {N:Bool}{D:List Nat}(hsg:PGd 244 [bl (n1 !=n2),dg (jD (a.length+b.length) (val a*val b))] (.agg [bl N,dg D])):
  PGd 159 [.agg [bl n1,dg a],.agg [bl n2,dg b]] (.agg [bl N,dg D]):=by
 simp only[bl]at hsg⊢;refine aA aV Tryz.func159 rfl (by decide) (nt:=81) rfl (rs:=[.cell 4 45]) rfl (aW rfl) ?_;refine aM ?_;refine cQ (g:=ta) (k:= ?_);refine aM ?_;refine cQ (g:=tb) (k:= ?_);refine aM ?_
 refine aG (α:={p:Nat×List Nat // p.1≤a.length∧p.2.length=a.length+b.length∧OkD p.2∧val (p.2.take (p.1+b.length))=val (a.take p.1)*val b})
  (fun p=>st 81 (lk [(2,.ptr 0 0),(3,.ptr 1 0),(4,.ptr 2 0),(5,dg a),(6,dg b),(7,.own 3 0 (a.length+b.length) 1),(8,i64 p.1.1)]) (cG [(0,⟨45,[bl n1,dg a],false⟩),(1,⟨45,[bl n2,dg b],false⟩),(2,⟨45,[bl false,.lit (.slice none 0 0)],false⟩),(3,⟨185,dB p.1.2,false⟩)]) 4) (fun p=>a.length-p.1.1) ⟨(0,List.replicate (a.length+b.length) 0),by simp,by simp,OkD.replicate _,by simp[List.take_replicate,gM,val]⟩ ?_ ?_
 ·(refine fY [0,1,2,16] ?_ ?_ ?_;all_goals(first|(simp only[aB,aI,simprocAttr,bl,u32,u64,i64];done) |(simp only[aI,simprocAttr,bl,u32,u64,i64];try((repeat' apply And.intro);all_goals rfl)) |skip))
  ·exact⟨trivial,trivial,trivial,by simp[dB]⟩
  ·exact⟨by simp[aB],by simp[aB],by simp[aB],aE _⟩
 ·rintro⟨⟨i,r⟩,hi,hr,hor,he⟩;simp only at hi hr hor he;simp only[st];have hx:=ha.getD i;by_cases h3:i<a.length
  ·refine aM ?_
   refine aG (α:={p:Nat×List Nat×Nat // p.1≤b.length∧p.2.1.length=a.length+b.length∧OkD p.2.1∧p.2.2<4294967296∧p.2.1.drop (i+p.1)=r.drop (i+p.1)∧val (p.2.1.take (i+p.1))+4294967296^i*4294967296^p.1*p.2.2=val (r.take (i+p.1))+4294967296^i*a.getD i 0*val (b.take p.1)})
    (fun p=>st 81 (lk [(2,.ptr 0 0),(3,.ptr 1 0),(4,.ptr 2 0),(5,dg a),(6,dg b),(7,.own 3 0 (a.length+b.length) 1),(8,i64 i),(9,u64 p.1.2.2),(10,i64 p.1.1)]) (cG [(0,⟨45,[bl n1,dg a],false⟩),(1,⟨45,[bl n2,dg b],false⟩),(2,⟨45,[bl false,.lit (.slice none 0 0)],false⟩),(3,⟨185,dB p.1.2.1,false⟩)]) 4) (fun p=>b.length-p.1.1) ⟨(0,r,0),by simp,hr,hor,by simp,rfl,by simp[val]⟩ ?_ ?_
   ·(refine fY [0,1,2,3] ?_ ?_ ?_;all_goals(first|(simp only[aB,aI,simprocAttr,bl,u32,u64,i64];done) |(simp only[aI,simprocAttr,bl,u32,u64,i64];try((repeat' apply And.intro);all_goals rfl)) |skip))
    ·exact⟨by simp[aB],by simp[aB],by simp[aB],aE _⟩
   ·rintro⟨⟨j,q,c⟩,hj,hq,hoq,hc,hd,hv⟩;simp only at hj hq hoq hc hd hv;simp only[st];have hy:=hb.getD j;have hz:=hoq.getD (i+j);have hxy:=nH hx hy;by_cases h4:j<b.length
    ·refine aM ?_;refine⟨⟨(j+1,q.set (i+j) ((a.getD i 0*b.getD j 0+q.getD (i+j) 0+c) % 4294967296),(a.getD i 0*b.getD j 0+q.getD (i+j) 0+c) / 4294967296),by simp only;omega,by simp[hq],hoq.set (by omega),by simp only;omega,qI hd,?_⟩,?_,by simp only;omega⟩
     ·simp only;rw[← Nat.add_assoc i j 1,cC (by omega),aD,aD,Nat.pow_add,Nat.pow_succ,← sD hd,← Nat.mul_assoc (4294967296^i)];exact aE5 hv rfl
     ·(refine fY [0,1,2,3] ?_ ?_ ?_;all_goals(first|(simp only[aB,aI,simprocAttr,bl,u32,u64,i64];done) |(simp only[aI,simprocAttr,bl,u32,u64,i64];try((repeat' apply And.intro);all_goals rfl)) |skip))
      ·simp only[true_and]
       (simp only[LV.lit.injEq,Value.int.injEq,true_and,and_true,dg,LV.sl.injEq];omega)
      ·have e:((((a.getD i 0:Nat):Int)*(b.getD j 0:Nat)+(q.getD (i+j) 0:Nat)+c) % 4294967296).toNat=(a.getD i 0*b.getD j 0+q.getD (i+j) 0+c) % 4294967296:=by omega
       rw[e];exact⟨trivial,trivial,trivial,rfl⟩
      ·exact⟨by simp[aB],by simp[aB],by simp[aB],aE _⟩
    ·have hj2:j=b.length:=by omega
     subst hj2;refine aM ?_;refine⟨⟨(i+1,q.set (i+b.length) c),by simp only;omega,by simp[hq],hoq.set hc,?_⟩,?_,by simp only;omega⟩
     ·simp only;rw[Nat.add_right_comm,cC (by omega),Nat.pow_add,hv,List.take_of_length_le (Nat.le_refl _),he,aD,Nat.add_mul]
     ·(refine fY [0,1,2,3] ?_ ?_ ?_;all_goals(first|(simp only[aB,aI,simprocAttr,bl,u32,u64,i64];done) |(simp only[aI,simprocAttr,bl,u32,u64,i64];try((repeat' apply And.intro);all_goals rfl)) |skip))
      ·exact⟨by simp[aB],by simp[aB],by simp[aB],aE _⟩
  ·have hi2:i=a.length:=by omega
   subst hi2;rw[List.take_of_length_le (Nat.le_of_eq hr)]at he
   rw[List.take_of_length_le (Nat.le_refl _)]at he
   have hpad:=gX hor hr he;subst hpad
   (repeat(first|apply zO (by decide+kernel)|apply zP (by decide+kernel)|(apply zS;(case h=>constructor<;>decide))|((first|apply cB rfl|apply aS);(case hs=>(simp(disch:=first|omega|exact kD rfl|exact kX rfl) only[smY,simprocAttr,bl,u32,u64,i64,bO,qZ];exact rfl));first|refine bZ ?_|refine cA ?_|refine zq ?_)))
   refine rY rfl (by decide) rfl (by simp(disch:=first|omega|exact kD rfl|exact kX rfl) only[smY,simprocAttr,bl,u32,u64,i64,bO,qZ];exact rfl) hsg ?_
   (repeat(first|apply zO (by decide+kernel)|apply zP (by decide+kernel)|(apply zS;(case h=>constructor<;>decide))|((first|apply cB rfl|apply aS);(case hs=>(simp(disch:=first|omega|exact kD rfl|exact kX rfl) only[smY,simprocAttr,bl,u32,u64,i64,bO,qZ];exact rfl));first|refine bZ ?_|refine cA ?_|refine zq ?_)))
   ((first|apply dI|apply dK);case hres=>(simp only[gW];simp(disch:=first|omega|exact kD rfl|exact kX rfl) only[smY,simprocAttr,bl,u32,u64,i64,bO,qZ];exact rfl))
   simp(disch:=first|omega|exact kD rfl|exact kX rfl) only[smY,simprocAttr,bl,u32,u64,i64,bO,qZ]
theorem fU (x y:Int) (lx:len x≤549755813888) (ly:len y≤549755813888):PGd 159 [aO x,aO y] (aO (x*y)):=by
 unfold len at lx ly
 have hlt:x.natAbs*y.natAbs<4294967296^((aC x.natAbs).length+(aC y.natAbs).length):=by
  rw[Nat.pow_add];exact Nat.mul_lt_mul'' (bN _) (bN _)
 have hs:=eJ (neg:=(decide (x<0) !=decide (y<0))) (fL ((aC x.natAbs).length+(aC y.natAbs).length) (x.natAbs*y.natAbs)) (by rw[bO];omega);rw[eG hlt]at hs
 have e:(if(decide (x<0) !=decide (y<0))=true then -((x.natAbs*y.natAbs:Nat):Int)else((x.natAbs*y.natAbs:Nat):Int))=x*y:=by
  rw[Int.natCast_mul];by_cases h1:x<0
  ·by_cases h2:y<0
   ·simp[h1,h2];rw[show((x.natAbs:Nat):Int)= -x by omega,show((y.natAbs:Nat):Int)= -y by omega,Int.neg_mul_neg]
   ·simp[h1,h2];rw[show((x.natAbs:Nat):Int)= -x by omega,show((y.natAbs:Nat):Int)=y by omega,Int.neg_mul,Int.neg_neg]
  ·by_cases h2:y<0
   ·simp[h1,h2];rw[show((x.natAbs:Nat):Int)=x by omega,show((y.natAbs:Nat):Int)= -y by omega,Int.mul_neg,Int.neg_neg]
   ·simp[h1,h2];rw[show((x.natAbs:Nat):Int)=x by omega,show((y.natAbs:Nat):Int)=y by omega]
 rw[e]at hs
 have h:=aSc (decide (x<0)) (decide (y<0)) (aU x.natAbs) (aU y.natAbs) lx ly (yD (by omega)) (yD (by omega)) (N:=decide (x*y<0)) (D:=aC (x*y).natAbs);rw[aJ,aJ]at h
 exact h hs
end
end Go.Proofs.YtaidcaemdkncgaaGreatDoor
