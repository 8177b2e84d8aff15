/- Contracts of functions of the program, and what proves them (texts: X0 OpL D1n D4 Q1 Q2 Q3 Q4 Q8 Q9 Q5 Q6 G6 G6a G6b G6c Q10 Q7 Q11 Q14 JO0 Q15). -/
import Derived.KernelRfl
import Derived.Test.YtaidcaemdkncgaaGreatDoorZAM
import Derived.Test.YtaidcaemdkncgaaGreatDoorZAO
import Derived.Test.YtaidcaemdkncgaaGreatDoorZFinSeriesAA
set_option linter.all false
set_option maxRecDepth 100000
set_option maxHeartbeats 8000000
namespace Go.Lg
open Go
theorem Sub.heapR {n:Nat}{f:Nat→LV}{h:Nat→Option Blk}{nb nb':Nat}{l:List (Nat×LV)}{hl:List (Nat×Blk)}(ρ:List Nat) (hnb:nb'=ρ.length) (hd:ρ.Nodup) (hf:∀ p∈l,renL nb' (fun b=>ρ.getD b 0) p.2=some (f p.1))
  (hlt:∀ p∈hl,p.1<ρ.length) (hb:∀ p∈hl,∃ cs,h (ρ.getD p.1 0)=some ⟨p.2.ty,cs,p.2.fz⟩∧renLs nb' (fun b=>ρ.getD b 0) p.2.cells=some cs):Sub 0 ⟨n,f,h,nb⟩ ⟨n,lk l,cP hl,nb'⟩:=by
 subst hnb
 refine Sub.heap (fun b=>ρ.getD b 0) hf (fun p hp'=>⟨hlt p hp',hb p hp'⟩) ?_ ⟨by omega,fun b hb=>by omega⟩
 intro p hp' q hq heq
 have h1:=hlt p hp'
 have h2:=hlt q hq
 simp only[List.getD_eq_getElem?_getD,List.getElem?_eq_getElem h1,List.getElem?_eq_getElem h2,Option.getD_some]at heq
 exact(List.getElem_inj hd).1 heq
theorem bIe {α:Type}{j:Int}{n m k l:Nat}{x y:α}(h:0≤j∧n≤m∧k≤l):(if 0≤j∧n≤m∧k≤l then x else y)=x:=if_pos h
theorem bBr (a b c d:LV) (n:Nat):xO [a,b,c,d] (n*4+4)=xO [a,b,c,d] (n*4)++[a,b,c,d]:=by
 unfold xO
 have e0:n*4 % 4=0:=by omega
 have e1:(n*4+1) % 4=1:=by omega
 have e2:(n*4+2) % 4=2:=by omega
 have e3:(n*4+3) % 4=3:=by omega
 rw[List.range_succ,List.range_succ,List.range_succ,List.range_succ]
 simp only[List.map_append,List.map_cons,List.map_nil,List.length_cons,List.length_nil,Nat.zero_add,Nat.reduceAdd,e0,e1,e2,e3,List.append_assoc,List.cons_append,List.nil_append]
 rfl
end Go.Lg
namespace Go.Proofs.YtaidcaemdkncgaaGreatDoor
section
open Go Go.Lg Go.Num
def oqc:Option Rat→List LV
 |none=>[.lit (.bool false),.lit (.slice none 0 0),.lit (.bool false),.lit (.slice none 0 0)]
 |some q=>cZ q
def oc (l:List (Option Rat)):List LV:=l.flatMap oqc
theorem aE0:oqc none=[.lit (.bool false),.lit (.slice none 0 0),.lit (.bool false),.lit (.slice none 0 0)]:=rfl
theorem aE1 (q:Rat):oqc (some q)=[sg (q).num,mg (q).num,sg ((q).den:Int),mg ((q).den:Int)]:=dK q
theorem yW (o:Option Rat):(oqc o).length=4:=by cases o <;>rfl
theorem aA4 (l:List (Option Rat)):(oc l).length=l.length*4:=by induction l with
 |nil=>rfl
 |cons a l ih=>rw[oc,List.flatMap_cons,List.length_append,yW];rw[oc]at ih;rw[ih,List.length_cons];omega
theorem aE2:∀ {l:List (Option Rat)}{j:Nat},j<l.length→∃ a b,oc l=a++oqc (l.getD j none)++b∧a.length=j*4∧∀ o,oc (l.set j o)=a++oqc o++b
 |[],j,h=>by simp at h
 |x::l,0,_=>⟨[],oc l,by simp[oc],rfl,fun o=>by simp[oc]⟩
 |x::l,j+1,h=>by
  obtain⟨a,b,h1,h2,h3⟩:=aE2 (l:=l) (j:=j) (by simpa using h)
  refine⟨oqc x++a,b,?_,?_,fun o=> ?_⟩
  · show oqc x++oc l=_
    rw[h1];simp
  · rw[List.length_append,yW,h2];omega
  · show oqc x++oc (l.set j o)=_
    rw[h3];simp
theorem bN5 {l:List (Option Rat)}{j:Nat}(h:j<l.length):((oc l).drop (j*4)).take 4=oqc (l.getD j none):=by
 obtain⟨a,b,h1,h2,_⟩:=aE2 h
 rw[h1,← h2,List.append_assoc,List.drop_left,← yW (l.getD j none),List.take_left]
theorem kT {l:List (Option Rat)}{j:Nat}(h:j<l.length) (q:Rat):(oc l).take (j*4)++[sg (q).num,mg (q).num,sg ((q).den:Int),mg ((q).den:Int)]++(oc l).drop (j*4+4)=oc (l.set j (some q)):=by
 obtain⟨a,b,h1,h2,h3⟩:=aE2 h
 rw[h3,← aE1,h1,← h2]
 have e:a.length+4=(a++oqc (l.getD j none)).length:=by rw[List.length_append,yW]
 rw[e,List.drop_left,List.append_assoc a (oqc (l.getD j none)) b,List.take_left]
theorem qJ:∀ n,xO [.lit (.bool false),.lit (.slice none 0 0),.lit (.bool false),.lit (.slice none 0 0)] (n*4)=oc (List.replicate n none)
 |0=>by rw[Nat.zero_mul,bNl];rfl
 |n+1=>by
  rw[Nat.add_mul,Nat.one_mul,bBr,qJ n,List.replicate_succ',oc,oc,List.flatMap_append]
  rfl
attribute [local irreducible] sg mg
theorem aHt (o:Option Rat):∀ c∈oqc o,aB c=true:=by
 cases o with
 |none=>intro c hc;simp[oqc]at hc;rcases hc with rfl |rfl |rfl |rfl <;>rfl
 |some q=>
  rw[aE1]
  intro c hc
  simp only[List.mem_cons,List.not_mem_nil,or_false]at hc
  rcases hc with rfl |rfl |rfl |rfl
  · exact s9 _
  · exact s10 _
  · exact s9 _
  · exact s10 _
theorem qK (l:List (Option Rat)):∀ c∈oc l,aB c=true:=by
 intro c hc
 simp only[oc,List.mem_flatMap]at hc
 obtain⟨o,_,ho⟩:=hc
 exact aHt o c ho
theorem bBs (l:List (Option Rat)):(∀ c∈oc l,aB c=true)=True:=eq_true (qK l)
theorem bVl {nb:Nat}{ρ:Nat→Nat}(l:List (Option Rat)):renLs nb ρ (oc l)=some (oc l):=cJ (qK l)
def mC (a:Nat→Rat) (N i:Nat):List LV:=if i=0 then oc (List.replicate N none)else qc (aP a i)
theorem vD (a:Nat→Rat) (N:Nat):oc (List.replicate N none)=mC a N 0:=rfl
theorem bIf (a:Nat→Rat) (N i:Nat):(mC a N i).take (i*4)=qc (aP a i):=by
 unfold mC
 split
 ·rename_i h;subst h;rw[Nat.zero_mul,List.take_zero];rfl
 ·exact aSy (by rw[eP])
theorem bBt (a:Nat→Rat) (N i:Nat):i*4≤(mC a N i).length:=by
 unfold mC
 split
 ·rename_i h;subst h;omega
 ·rw[gH,eP];exact Nat.le_refl _
theorem cFk {α:Type}{a:Nat→Rat}{N i k l m n:Nat}{x y:α}(h:k≤l∧m≤n):(if i*4≤(mC a N i).length∧k≤l∧m≤n then x else y)=x:=if_pos ⟨bBt a N i,h⟩
theorem cFl {α:Type}{a:Nat→Rat}{N i:Nat}{x y:α}:(if i*4≤(mC a N i).length then x else y)=x:=if_pos (bBt a N i)
theorem aTd {a:Nat→Rat}{N i:Nat}{q:Rat}(h:a i=q):qc (aP a i)++[sg (q).num,mg (q).num,sg ((q).den:Int),mg ((q).den:Int)]=mC a N (i+1):=by
 subst h
 rw[mC,if_neg (by omega),gY,← pE]
theorem aHu (a:Nat→Rat) (N i:Nat):∀ c∈mC a N i,aB c=true:=by
 unfold mC
 split
 ·exact qK _
 ·exact kR s9 s10 _
theorem bBu (a:Nat→Rat) (N i:Nat):(∀ c∈mC a N i,aB c=true)=True:=eq_true (aHu a N i)
theorem bVm {nb:Nat}{ρ:Nat→Nat}(a:Nat→Rat) (N i:Nat):renLs nb ρ (mC a N i)=some (mC a N i):=cJ (aHu a N i)
def smM:=nd bIf (nd @cFk (nd @cFl (nd bBu @bVm)))
def nV (b m:Nat):LV:=if m=0 then nilL else .own b 0 m 4
theorem mU (b:Nat):nV b 0=nilL:=rfl
theorem oA {b m:Nat}(h:m=0):nV b m=nilL:=if_pos h
theorem lQ {b m:Nat}(h:m≠0):nV b m= .own b 0 m 4:=if_neg h
theorem dR (b m:Nat):nV b (m+1)= .own b 0 (m+1) 4:=rfl
def nB (b m:Nat) (cs:List LV):List (Nat×Blk):=if m=0 then[]else[(b,⟨47,cs,false⟩)]
theorem oB {b m:Nat}{cs:List LV}(h:m=0):nB b m cs=[]:=if_pos h
theorem lR {b m:Nat}{cs:List LV}(h:m≠0):nB b m cs=[(b,⟨47,cs,false⟩)]:=if_neg h
theorem mV (b:Nat) (cs:List LV):nB b 0 cs=[]:=rfl
theorem dS (b m:Nat) (cs:List LV):nB b (m+1) cs=[(b,⟨47,cs,false⟩)]:=rfl
theorem vE (s:LS) (z:Int):vS s (mg z)=some (aC z.natAbs).length:=by with_unfolding_all rfl
def smO:=nd aA4 (nd @bN5 (nd aE0 (nd aE1 (nd qJ (nd bBs (nd @bVl @bIe))))))
end
section
open Go Go.Lg Go.Num
def oqp:Option Rat→List LV
 |none=>[.lit (.bool false),.sl 0 [],.lit (.bool false),.sl 0 []]
 |some q=>cZ q
def op (l:List (Option Rat)):List LV:=l.flatMap oqp
theorem oqp_none:oqp none=[.lit (.bool false),.sl 0 [],.lit (.bool false),.sl 0 []]:=rfl
theorem oqp_some (q:Rat):oqp (some q)=[sg (q).num,mg (q).num,sg ((q).den:Int),mg ((q).den:Int)]:=dK q
theorem yX (o:Option Rat):(oqp o).length=4:=by cases o <;>rfl
theorem op_len (l:List (Option Rat)):(op l).length=l.length*4:=by induction l with
 |nil=>rfl
 |cons a l ih=>rw[op,List.flatMap_cons,List.length_append,yX];rw[op]at ih;rw[ih,List.length_cons];omega
theorem op_take {l:List (Option Rat)}{m:Nat}(h:m=l.length*4):(op l).take m=op l:=List.take_of_length_le (by rw[op_len];omega)
theorem op_drop (l:List (Option Rat)):∀ j,(op l).drop (j*4)=op (l.drop j):=by
 induction l with
 |nil=>intro j;simp[op]
 |cons x l ih=>
  intro j
  cases j with
  |zero=>simp
  |succ j=>
   have:op (x::l)=oqp x++op l:=by simp[op]
   rw[this,List.drop_succ_cons,← ih,show(j+1)*4=(oqp x).length+j*4 by rw[yX];omega,← List.drop_drop,List.drop_left]
theorem bBv {l:List (Option Rat)}{s:Nat}(h:s<l.length):(op (l.drop s)).take 4=oqp (l.getD s none):=by
 rw[List.drop_eq_getElem_cons h]
 have e:l.getD s none=l[s]:=by simp[h]
 have:op (l[s]::l.drop (s+1))=oqp l[s]++op (l.drop (s+1)):=rfl
 rw[this,e,show(4:Nat)=(oqp l[s]).length from(yX _).symm,List.take_left]
theorem op_td {l:List (Option Rat)}{s:Nat}(h:s<l.length):((op l).drop (s*4)).take 4=oqp (l.getD s none):=by
 rw[op_drop]
 exact bBv h
theorem bBw (l:List Rat):op (l.map some)=qc l:=by
 induction l with
 |nil=>rfl
 |cons x l ih=>simp only[op,qc,List.map_cons,List.flatMap_cons]at*;rw[ih];rfl
theorem uB {h:Nat→Option Blk}{ok:Nat→Bool}{k:Nat}:∀ l:List (Option Rat),fG h ok (k+1) (oc l)=some (op l,[])
 |[]=>rfl
 |none::l=>by
  have e1:oc (none::l)= .lit (.bool false):: .lit (.slice none 0 0):: .lit (.bool false):: .lit (.slice none 0 0)::oc l:=rfl
  rw[e1]
  simp only[jN,uB l,xZ,aIv,Option.bind_some,Option.map_some]
  rfl
 |some q::l=>by
  have e1:oc (some q::l)=sg q.num::mg q.num::sg (q.den:Int)::mg (q.den:Int)::oc l:=by
    show cZ q++oc l=_
    rw[dK];rfl
  have e2:op (some q::l)=sg q.num::mg q.num::sg (q.den:Int)::mg (q.den:Int)::op l:=by
    show cZ q++op l=_
    rw[dK];rfl
  rw[e1,e2]
  simp only[jN,uB l,qY (rQ _),qY (rR _),Option.bind_some,Option.map_some]
  rfl
end
end Go.Proofs.YtaidcaemdkncgaaGreatDoor
namespace Go.Num
end Go.Num
namespace Go.Proofs.YtaidcaemdkncgaaGreatDoor
section
open Go Go.Lg Go.Num
attribute [local irreducible] lrun lwp exThen exBlk keep goodPost sg mg bq
theorem bBx {m:Int}(h0:0≤m) (h:m≤100000):lq (m:Rat)≤2:=by
 rw[rJ]
 have:=bG (a:=m) (e:=1) (by omega)
 omega
end
section
open Go Go.Lg Go.Num
attribute [local irreducible] lrun lwp exThen exBlk keep goodPost sg mg bq
def bp (n k:Nat):List Rat:=(List.range k).map fun j=>((ch n j:Int):Rat)*bq (n-j)
theorem nD (n k:Nat):(bp n k).length=k:=by simp[bp]
theorem aTe (n k:Nat):bp n (k+1)=bp n k++[((ch n k:Int):Rat)*bq (n-k)]:=by simp[bp,List.range_succ]
theorem bVn {n:Nat}(hn:n≤60) (j:Nat):lq (((ch n j:Int):Rat)*bq (n-j))≤30:=by
 have c1:=aEs (show n≤100 by omega) j
 have c3:=aM6 (n-j)
 have c4:=kK ((ch n j:Int):Rat) (bq (n-j))
 have c5:=rJ (ch n j:Int)
 omega
theorem aNi {n:Nat}(hn:n≤60) (k:Nat):∀ c∈bp n k,lq c≤30:=by
 intro c hc
 simp only[bp,List.mem_map]at hc
 obtain⟨j,_,rfl⟩:=hc
 exact bVn hn j
def bQ (f:List Rat):List Rat:=(f.reverse.dropWhile (· ==0)).reverse
theorem gG (f:List Rat) {c:Rat}(h:c≠0):bQ (f++[c])=f++[c]:=by
 simp[bQ,h]
theorem jV (f:List Rat):bQ (f++[0])=bQ f:=by
 simp[bQ]
theorem aHv:bQ []=[]:=rfl
theorem aTf {f:List Rat}(h:0<f.length):f=f.take (f.length-1)++[f.getD (f.length-1) 0]:=by
 have h1:f.getD (f.length-1) 0=f[f.length-1]:=by simp[show f.length-1<f.length by omega]
 rw[h1,List.take_append_getElem (by omega),show f.length-1+1=f.length by omega,List.take_length]
theorem bN6 (q:Rat):q.num=0↔q=0:=Rat.num_eq_zero
theorem bN7 {l:List Rat}{j:Nat}(h:j<l.length):((qc l).drop (j*4+1)).head? =some (mg (l.getD j 0).num):=by
 rw[← List.drop_drop,aS0,List.drop_eq_getElem_cons h]
 have:l.getD j 0=l[j]:=by simp[h]
 rw[this]
 simp only[qc,List.flatMap_cons,dK]
 simp
theorem aNj (l:List Rat) (k:Nat):(qc l).take (k*4)=qc (l.take k):=by
 by_cases h:k≤l.length
 ·conv=>lhs;rw[← List.take_append_drop k l]
  rw[qc,List.flatMap_append]
  rw[List.take_append_of_le_length (by have:=gH (l.take k);rw[qc]at this;rw[this,List.length_take];omega),List.take_of_length_le (by have:=gH (l.take k);rw[qc]at this;rw[this,List.length_take];omega)]
  rfl
 ·rw[List.take_of_length_le (by rw[gH];omega),List.take_of_length_le (by omega)]
theorem gZ (f:List Rat) (hl:f.length≤1000000000):PureGood Tryz.prog 275 [encF f] (encF (bQ f)):=by
 rw[bD]
 refine aA bC Tryz.func275 rfl (by decide) (nt:=24) rfl (rs:=[.tmp 2]) rfl (aZ rfl) ?_
 refine dM ?_
 refine aI (α:={g:List Rat // bQ g=bQ f∧g.length≤f.length}) (fun g=>st 24 (lk [(0,.sl g.1.length (qc g.1)),(2,nilL)]) (cP []) 0) (fun g=>g.1.length) ⟨f,rfl,Nat.le_refl _⟩ ?_ ?_
 ·exact zP2
 ·rintro⟨g,hg,hgl⟩
  simp only[st]
  by_cases h0:0<g.length
  ·have hg':=aTf h0
   have hh:=bN7 (l:=g) (j:=g.length-1) (by omega)
   by_cases hz:g.getD (g.length-1) 0=0
   ·have hd:(aC 0).length=0:=by simp[aX]
    rw[hz,show(0:Rat).num=0 from rfl]at hh
    (repeat(first|apply zO (by decide+kernel)|apply zP (by decide+kernel)|(apply zS;(case h=>constructor<;>decide))|((first|apply cD rfl|apply aR|apply zT rfl (by decide) rfl);(case hs=>(simp(disch:=first|omega|exact kD rfl|exact kX rfl) only[smY,simprocAttr,bl,i64,smT,vE,hh,Int.natAbs_zero];exact rfl));first|refine cB ?_|refine cC ?_|refine zq ?_|(case hg=>assumption))))
    rw[hz]at hg'
    have hg2:bQ (g.take (g.length-1))=bQ f:=by rw[← hg,hg',jV,← hg']
    have hgl2:(g.take (g.length-1)).length=g.length-1:=by rw[List.length_take];omega
    refine⟨⟨g.take (g.length-1),hg2,by omega⟩,?_,by simp only;omega⟩
    simp only[hgl2,← aNj]
    exact zP2
   ·have hzn:(g.getD (g.length-1) 0).num≠0:=fun e=>hz ((bN6 _).1 e)
    have hd:(aC (g.getD (g.length-1) 0).num.natAbs).length≠0:=fun e=>hzn (by have:=bO.1 (List.eq_nil_of_length_eq_zero e);omega)
    have hfin:bQ g=g:=by
     conv=>lhs;rw[hg']
     rw[gG _ hz,← hg']
    rw[← hg,hfin,bD]
    generalize (g.getD (g.length-1) 0).num=z at*
    (repeat(first|apply zO (by decide+kernel)|apply zP (by decide+kernel)|(apply zS;(case h=>constructor<;>decide))|((first|apply cD rfl|apply aR|apply zT rfl (by decide) rfl);(case hs=>(simp(disch:=first|omega|exact kD rfl|exact kX rfl) only[smY,simprocAttr,bl,i64,smT,vE,hh];exact rfl));first|refine cB ?_|refine cC ?_|refine zq ?_|(case hg=>assumption))))
    exact mJ
  ·have:g=[]:=List.length_eq_zero_iff.1 (by omega)
   subst this
   rw[aHv]at hg
   rw[← hg]
   refine dM ?_
   refine zR1 ?_
   refine zV2 ?_
   rfl
theorem aE3 (z:List LV) (n:Nat):(xO z n).length=n:=by simp[xO]
def z4:List LV:=[bl false,.lit (.slice none 0 0),bl false,.lit (.slice none 0 0)]
def fW (f:List Rat) (k:Nat):List LV:=qc (f.take k)++(xO z4 (f.length*4)).drop (k*4)
theorem rW (f:List Rat):fW f 0=xO z4 (f.length*4):=by simp[fW,qc]
theorem vF (f:List Rat):fW f f.length=qc f:=by
 rw[fW,List.take_length,List.drop_of_length_le (by rw[aE3];omega),List.append_nil]
theorem vG {f:List Rat}{k:Nat}(h:k≤f.length):(fW f k).length=f.length*4:=by
 rw[fW,List.length_append,gH,List.length_take,List.length_drop,aE3]
 omega
theorem rX {f:List Rat}{k:Nat}(h:k<f.length) {c:Rat}(hc:f.getD k 0=c):(fW f k).take (k*4)++[sg c.num,mg c.num,sg (c.den:Int),mg (c.den:Int)]++(fW f k).drop (k*4+4)=fW f (k+1):=by
 have e1:(qc (f.take k)).length=k*4:=by rw[gH,List.length_take];omega
 have e2:f.take (k+1)=f.take k++[c]:=by
  rw[List.take_succ_eq_append_getElem h]
  have:f.getD k 0=f[k]:=by simp[h]
  rw[← this,hc]
 rw[fW,List.take_append_of_le_length (by omega),List.take_of_length_le (by omega),List.drop_append,List.drop_of_length_le (by omega),e1,List.nil_append,List.drop_drop,fW,e2,← gY,show k*4+4-k*4=4 by omega,show k*4+4=(k+1)*4 by omega]
theorem eX (f:List Rat) (k:Nat):∀ c∈fW f k,aB c=true:=by
 intro c hc
 rcases List.mem_append.1 hc with h |h
 ·exact kR (Q:=fun c=>aB c=true) s9 s10 _ c h
 ·have h1:=List.mem_of_mem_drop h
  simp only[xO,List.mem_map,List.mem_range]at h1
  obtain⟨i,_,rfl⟩:=h1
  have:i % z4.length<4:=Nat.mod_lt _ (by decide)
  generalize i % z4.length=j at*
  match j,this with
  |0,_=>rfl
  |1,_=>rfl
  |2,_=>rfl
  |3,_=>rfl
theorem jJ (f:List Rat) (hl:f.length≤100000000) (hf:∀ c∈f,lq c≤100000):PureGood Tryz.prog 219 [encF f] (encF (bQ f)):=by
 have ht:=gZ f (by omega)
 rw[bD]at*
 refine aA bC Tryz.func219 rfl (by decide) (nt:=24) rfl (rs:=[.tmp 2]) rfl (aZ rfl) ?_
 refine dM ?_
 refine aI (α:={k:Nat // k≤f.length}) (fun k=>st 24 (lk [(0,.sl f.length (qc f)),(2,nilL),(3,.own 0 0 f.length 4),(9,.sl f.length (qc f)),(10,i64 f.length),(11,i64 k.1)]) (cP [(0,⟨47,fW f k.1,false⟩)]) 1) (fun k=>f.length-k.1) ⟨0,by omega⟩ ?_ ?_
 ·(refine Sub.heap1 3 ?_ (by simp only[aG,dg,renL,renLs,simprocAttr,bl,i64,smT];exact rfl) ?_ ?_;all_goals(first |exact aE _ |with_reducible rfl |(simp only[aG,dg,renL,renLs,simprocAttr,bl,i64,smT])|skip))
  ·rw[rW];rfl
  ·exact eX _ _
 ·rintro⟨k,hk⟩
  simp only[st]
  by_cases h:k<f.length
  ·have hm:lq (f.getD k 0)≤100000:=by
    have:f.getD k 0=f[k]:=by simp[h]
    rw[this]
    exact hf _ (List.getElem_mem _)
   have hn:=gV (f.getD k 0) (by omega)
   have hfl:=vG hk
   generalize hc:f.getD k 0=c at*
   have hst:=rX h hc
   rw[aH]at hn
   generalize fW f k=L at*
   refine cW hc ?_
   refine⟨⟨k+1,by omega⟩,?_,by simp only;omega⟩
   (refine Sub.heap1 0 ?_ (by simp only[aG,dg,renL,renLs,simprocAttr,bl,i64,smT];exact rfl) ?_ ?_;all_goals(first |exact aE _ |with_reducible rfl |(simp only[aG,dg,renL,renLs,simprocAttr,bl,i64,smT])|skip))
   ·exact hst
   ·exact eX _ _
  ·obtain rfl:k=f.length:=by omega
   rw[vF]
   refine dM ?_
   refine zR1 ?_
   refine zV2 ?_
   rfl
theorem bIg (m:Nat):bQ (bp m (m+1))=bp m (m+1):=by
 rw[aTe,gG]
 rw[Nat.sub_self,aSt,bq0]
 decide+kernel
theorem aCh (m:Nat) (hm:m≤60):PureGood Tryz.prog 129 [i64 m] (encF (bp m (m+1))):=by
 have hn:=jJ (bp m (m+1)) (by rw[nD];omega) (fun c hc=>by have:=aNi hm (m+1) c hc;omega)
 rw[bIg,bD,nD]at hn
 rw[bD,nD]
 have g1:=aJj m (by omega)
 have g2:=aM7 m (by omega)
 have hl:=jI (m+1)
 have hl2:=jH m (m+1)
 rw[bD,jI]at g1
 rw[nU,jH]at g2
 simp only[i64]at g1 g2⊢
 have step:∀ k:Nat,k≤m→PureGood Tryz.prog 87 [aO (ch m k)] (bF ((ch m k:Int):Rat))∧PureGood Tryz.prog 74 [bF ((ch m k:Int):Rat),bF (bq (m-k))] (bF (((ch m k:Int):Rat)*bq (m-k)))∧
   (xF m (m+1)).getD k 0=(ch m k:Int)∧(bn (m+1)).getD (m-k) 0=bq (m-k):=by
  intro k hk
  have c1:=aEs (show m≤100 by omega) k
  have c3:=aM6 (m-k)
  have c5:=rJ (ch m k:Int)
  exact⟨nQ (ch m k) (by omega),gE ((ch m k:Int):Rat) (bq (m-k)) (by omega) (by omega),aAs (by omega),aCw (by omega)⟩
 have b1:bp m 1=[((ch m 0:Int):Rat)*bq m]:=rfl
 obtain⟨w1,w2,e1,e2⟩:=step 0 (by omega)
 rw[Nat.sub_zero]at w2 e2
 have hs0:((m:Int)-0).toNat=m:=by omega
 generalize ((ch m 0:Int):Rat)*bq m=c0 at*
 simp only[aW,aH]at w1 w2
 refine aA bC Tryz.func129 rfl (by decide) (nt:=33) rfl (rs:=[.tmp 2]) rfl (aZ rfl) ?_
 refine dM ?_
 refine kJ (s':= ?_) (fun Φ hΦ=> ?_) ?_
 rotate_left
 ·refine cW (nd e1 (nd e2 hs0)) ?_
  exact hΦ
 refine aI (α:={k:Nat // 0<k∧k≤m+1}) (fun k=>st 33 (lk [(0,i64 m),(2,nilL),(3,.sl (m+1) (qc (bn (m+1)))),(4,.sl (m+1) (ic (xF m (m+1)))),(5,.own 0 0 k.1 4),(6,i64 k.1)]) (cP [(0,⟨47,qc (bp m k.1),false⟩)]) 1) (fun k=>m+1-k.1) ⟨1,by omega,by omega⟩ ?_ ?_
 ·(refine Sub.heap1 26 ?_ (by simp only[aG,dg,renL,renLs,simprocAttr,bl,i64,smT];exact rfl) ?_ ?_;all_goals(first |exact aE _ |with_reducible rfl |(simp only[aG,dg,renL,renLs,simprocAttr,bl,i64,smT])|skip))
  rw[b1,← jB]
 ·rintro⟨k,hk0,hk⟩
  simp only[st]
  have hl3:=nD m k
  by_cases hlt:k≤m
  ·obtain⟨w1,w2,e1,e2⟩:=step k hlt
   have happ:=aTe m k
   have hsub:((m:Int)-(k:Int)).toNat=m-k:=by omega
   generalize ((ch m k:Int):Rat)*bq (m-k)=c0 at*
   simp only[aW,aH]at w1 w2
   refine cW (nd e1 e2) ?_
   refine⟨⟨k+1,by omega,by omega⟩,?_,by simp only;omega⟩
   (refine Sub.heap1 18 ?_ (by simp only[aG,dg,renL,renLs,simprocAttr,bl,i64,smT];exact rfl) ?_ ?_;all_goals(first |exact aE _ |with_reducible rfl |(simp only[aG,dg,renL,renLs,simprocAttr,bl,i64,smT])|skip))
   rw[happ,← gY]
  ·obtain rfl:k=m+1:=by omega
   refine dM ?_
   exact mJ
end
section
open Go Go.Lg Go.Num
attribute [local irreducible] lrun lwp exThen exBlk keep goodPost sg mg
def sQ (f:List Rat):Prop:=∀ _:0<f.length,f.getD (f.length-1) 0≠0
theorem kU {f:List Rat}(h:sQ f):bQ f=f:=by
 by_cases h0:0<f.length
 ·have hg:=aTf h0
  conv=>lhs;rw[hg]
  rw[gG _ (h h0),← hg]
 ·obtain rfl:f=[]:=List.length_eq_zero_iff.1 (by omega)
  rfl
theorem bVo {f:List Rat}(hf:sQ f) (hl:f.length≤1000000) (nb:Nat):mI Tryz.prog 275 [.own 0 0 f.length 4] (cP [(0,⟨47,qc f,false⟩)]) nb (.own 0 0 f.length 4) (cP [(0,⟨47,qc f,false⟩)]) (nb+100):=by
 refine lJ bC Tryz.func275 rfl (by decide) (nt:=24) rfl (rs:=[.tmp 2]) rfl (aZ rfl) ?_
 by_cases h0:0<f.length
 ·have hh:=bN7 (l:=f) (j:=f.length-1) (by omega)
  have hz:=hf h0
  have hzn:(f.getD (f.length-1) 0).num≠0:=fun e=>hz ((bN6 _).1 e)
  have hd:(aC (f.getD (f.length-1) 0).num.natAbs).length≠0:=fun e=>hzn (by have:=bO.1 (List.eq_nil_of_length_eq_zero e);omega)
  have hh2:(qc f)[(f.length-1)*4+1]? =some (mg (f.getD (f.length-1) 0).num):=by rw[← List.head?_drop];exact hh
  generalize (f.getD (f.length-1) 0).num=z at*
  refine dM ?_
  refine iJ (e:= .exit 0) (s':= ?_) (by simp) (fun Φ hΦ=> ?_) ?_
  rotate_left
  ·(repeat(first|apply zO (by decide+kernel)|apply zP (by decide+kernel)|(apply zS;(case h=>constructor<;>decide))|((first|apply cD rfl|apply aR|apply zT rfl (by decide) rfl);(case hs=>(simp(disch:=first|omega|exact kD rfl|exact kX rfl) only[smY,simprocAttr,bl,i64,smT,vE,hh2];exact rfl));first|refine cB ?_|refine cC ?_|refine zq ?_|(case hg=>assumption))))
   exact hΦ
  ·refine dM ?_
   exact⟨by simp only[iC];try rfl,rfl,by simp only[List.length_cons,List.length_nil];omega⟩
 ·obtain rfl:f=[]:=List.length_eq_zero_iff.1 (by omega)
  refine dM ?_
  refine iJ (e:= .exit 0) (s':= ?_) (by simp) (fun Φ hΦ=> ?_) ?_
  rotate_left
  ·refine dM ?_
   exact hΦ
  ·refine dM ?_
   exact⟨by simp only[iC];try rfl,rfl,by simp only[List.length_cons,List.length_nil];omega⟩
theorem aE4 {P:Program}[Laid P] {base i:Nat}{ok:Nat→Nat→Bool}{ops:Array Oper}{o:Oper}{rest:List Oper}{n nb d m:Nat}{F:Nat→LV}{H H':Nat→Option Blk}{K:LS→Prop}{c:Call}{f:FuncId}{args:List LV}{r:LV}{nb':Nat}
  (hm:max nb (base+ops.size)=m) (hop:o.op= .call c) (hcal:c.callee= .value (.func f)) (hd:o.dst=some d) (hn:d<n) (hw:cT ops o ⟨n,F,H,nb⟩=some true) (hargs:c.args.toList.map (opnd ⟨n,F,H,nb⟩)=args)
  (hg:mI P f args H m r H' nb') (hle:m≤nb')
  (hk:lrun P true base ok ops (i+1) rest ⟨n,dA F d r,H',nb'⟩ K):lrun P true base ok ops i (o::rest) ⟨n,F,H,nb⟩ K:=by
 subst hm
 exact bE2 hop hcal rfl hd hn hw (by rw[List.append_nil,hargs];exact hg) hle hk
theorem aE5 (f:List Rat) (hla:sQ f) (hl:f.length≤1000000) (hf:∀ c∈f,lq c≤100000):jQ Tryz.prog 219 [encF f] f.length 4 47 (qc f):=by
 rw[bD]
 refine rC bC Tryz.func219 rfl (by decide) (nt:=24) rfl (rs:=[.tmp 2]) rfl (aZ rfl) (kR s9 s10 _) ?_
 refine dM ?_
 refine aI (α:={k:Nat // k≤f.length}) (fun k=>st 24 (lk [(0,.sl f.length (qc f)),(2,nilL),(3,.own 0 0 f.length 4),(9,.sl f.length (qc f)),(10,i64 f.length),(11,i64 k.1)]) (cP [(0,⟨47,fW f k.1,false⟩)]) 1) (fun k=>f.length-k.1) ⟨0,by omega⟩ ?_ ?_
 ·(refine Sub.heap1 3 ?_ (by simp only[aG,dg,renL,renLs,simprocAttr,bl,i64,smT];exact rfl) ?_ ?_;all_goals(first |exact aE _ |with_reducible rfl |(simp only[aG,dg,renL,renLs,simprocAttr,bl,i64,smT])|skip))
  ·rw[rW];rfl
  ·exact eX _ _
 ·rintro⟨k,hk⟩
  simp only[st]
  by_cases h:k<f.length
  ·have hm:lq (f.getD k 0)≤100000:=by
    have:f.getD k 0=f[k]:=by simp[h]
    rw[this]
    exact hf _ (List.getElem_mem _)
   have hn:=gV (f.getD k 0) (by omega)
   have hfl:=vG hk
   generalize hc:f.getD k 0=c at*
   have hst:=rX h hc
   rw[aH]at hn
   generalize fW f k=L at*
   refine cW hc ?_
   refine⟨⟨k+1,by omega⟩,?_,by simp only;omega⟩
   (refine Sub.heap1 0 ?_ (by simp only[aG,dg,renL,renLs,simprocAttr,bl,i64,smT];exact rfl) ?_ ?_;all_goals(first |exact aE _ |with_reducible rfl |(simp only[aG,dg,renL,renLs,simprocAttr,bl,i64,smT])|skip))
   ·exact hst
   ·exact eX _ _
  ·obtain rfl:k=f.length:=by omega
   rw[vF]
   refine dM ?_
   refine aE4 (by simp only[List.size_toArray,List.length_cons,List.length_nil,Nat.reduceAdd,Nat.max_def,Nat.reduceLeDiff,↓reduceIte];exact rfl) rfl rfl rfl (by decide) rfl (by simp(disch:=first|omega|exact kD rfl|exact kX rfl) only[smY,simprocAttr,bl,i64,smT];try exact rfl) (bVo hla hl _) (by omega) ?_
   refine dM ?_
   exact⟨0,by simp only[iC];try rfl,rfl⟩
end
section
open Go Go.Lg Go.Num
def aA5 (c:Rat):List Rat→List Rat→Nat→Option (List Rat)
 |[],r,_=>some r
 |b::g,r,i=>bif dL (c*b) && dL (r.getD i 0-c*b)then aA5 c g (r.set i (r.getD i 0-c*b)) (i+1)else none
def aA6 (g:List Rat) (gl:Rat):Nat→List (Option Rat)→List Rat→Option (List (Option Rat)×List Rat)
 |0,q,r=>some (q,r)
 |k+1,q,r=>bif dL (r.getD (k+g.length-1) 0 / gl)then(if r.getD (k+g.length-1) 0 / gl=0 then aA6 g gl k (q.set k (some (r.getD (k+g.length-1) 0 / gl))) r else match aA5 (r.getD (k+g.length-1) 0 / gl) g r k with
  |some r'=>aA6 g gl k (q.set k (some (r.getD (k+g.length-1) 0 / gl))) r'
  |none=>none)else none
theorem vH:∀ l:List Rat,oc (l.map some)=qc l
 |[]=>rfl
 |a::l=>by
  have:=vH l
  simp only[oc,qc,List.map_cons,List.flatMap_cons]at this⊢
  rw[this]
  rfl
def mK (l:List Rat):Prop:=∀ q∈l,dL q=true
theorem kV {l:List Rat}(h:mK l) {i:Nat}(hi:i<l.length):lq (l.getD i 0)≤200:=by
 have:l.getD i 0=l[i]:=by simp[hi]
 rw[this]
 exact eG (h _ (List.getElem_mem hi))
theorem aHw {l:List Rat}(h:mK l) {i:Nat}{q:Rat}(hq:dL q=true):mK (l.set i q):=by
 intro x hx
 rcases List.mem_or_eq_of_mem_set hx with h1 |rfl
 ·exact h x h1
 ·exact hq
theorem aE6 {l:List Rat}{j:Nat}(h:j<l.length) (v:Rat):(qc l).take (j*4)++[sg (v).num,mg (v).num,sg ((v).den:Int),mg ((v).den:Int)]++(qc l).drop (j*4+4)=qc (l.set j v):=by
 rw[← vH,kT (by simpa using h) v,← vH,List.map_set]
theorem aWr (g:List Rat) (gl:Rat) (q:List (Option Rat)) (r:List Rat):aA6 g gl 0 q r=some (q,r):=rfl
theorem aWs {g:List Rat}{gl:Rat}{k:Nat}{q:List (Option Rat)}{r:List Rat}{x:List (Option Rat)×List Rat}(h:aA6 g gl (k+1) q r=some x):dL (r.getD (k+g.length-1) 0 / gl)=true∧(r.getD (k+g.length-1) 0 / gl=0∧aA6 g gl k (q.set k (some (r.getD (k+g.length-1) 0 / gl))) r=some x∨r.getD (k+g.length-1) 0 / gl≠0∧∃ r',aA5 (r.getD (k+g.length-1) 0 / gl) g r k=some r'∧aA6 g gl k (q.set k (some (r.getD (k+g.length-1) 0 / gl))) r'=some x):=by
 rw[aA6]at h
 cases ht:dL (r.getD (k+g.length-1) 0 / gl)with
 |false=>rw[ht,cond_false]at h;cases h
 |true=>
  rw[ht,cond_true]at h
  refine⟨rfl,?_⟩
  split at h
  · rename_i hz
    exact .inl ⟨hz,h⟩
  · rename_i hz
    split at h
    · rename_i r' hr
      exact .inr ⟨hz,r',hr,h⟩
    · cases h
theorem bBy (c:Rat) (r:List Rat) (i:Nat):aA5 c [] r i=some r:=rfl
theorem aWt {c b:Rat}{g r r':List Rat}{i:Nat}(h:aA5 c (b::g) r i=some r'):dL (c*b)=true∧dL (r.getD i 0-c*b)=true∧aA5 c g (r.set i (r.getD i 0-c*b)) (i+1)=some r':=by
 rw[aA5]at h
 cases ht:(dL (c*b) && dL (r.getD i 0-c*b))with
 |false=>rw[ht,cond_false]at h;cases h
 |true=>
  rw[ht,cond_true]at h
  rw[Bool.and_eq_true]at ht
  exact⟨ht.1,ht.2,h⟩
attribute [local irreducible] lrun lwp exThen exBlk keep goodPost sg mg dL aA5 aA6 oc
theorem rY (q:Rat) (h:lq q≤100000):PureGood Tryz.prog 277 [bF q] (bl (decide (q=0))):=by
 have g:=kM q (by omega)
 have hs:q.num.sign=0↔q=0:=by rw[Int.sign_eq_zero_iff_zero,Rat.num_eq_zero]
 rw[aH]at*
 by_cases h0:q=0
 ·rw[qA h0]
  rw[hs.2 h0]at g
  simp only[i64,bl]at*
  refine aA bC Tryz.func277 rfl (by decide) (nt:=6) rfl (rs:=[.tmp 2]) rfl (aZ rfl) ?_
  refine dM ?_
  exact mJ
 ·rw[nJ h0]
  have h1:¬q.num.sign=0:=fun e=>h0 (hs.1 e)
  generalize q.num.sign=s at*
  simp only[i64,bl]at*
  refine aA bC Tryz.func277 rfl (by decide) (nt:=6) rfl (rs:=[.tmp 2]) rfl (aZ rfl) ?_
  refine dM ?_
  exact mJ
theorem aGf (f g:List Rat) (lf:sQ f) (tf:mK f) (hl:f.length<g.length) (hg:g.length≤1000):PureGood Tryz.prog 286 [encF f,encF g] (.tup [.sl 0 [],encF f]):=by
 have gn:=jJ f (by omega) (fun c hc=>by have:=eG (tf c hc);omega)
 rw[kU lf]at gn
 simp only[bD]at*
 refine aA bC Tryz.func286 rfl (by decide) (nt:=87) rfl (rs:=[.tmp 4,.tmp 5]) rfl (aZ rfl) ?_
 refine dM ?_
 exact mJ
theorem aJz (f g Q R:List Rat) (D:Nat) (lf:sQ f) (tf:mK f) (tg:mK g) (hG:1≤g.length) (hg:g.length≤1000) (hf:f.length≤1000) (hD:f.length+1=D+g.length) (hD1:1≤D) (h0:g.getD (g.length-1) 0≠0)
  (h:aA6 g (g.getD (g.length-1) 0) D (List.replicate D none) f=some (Q.map some,R)) (hQ:Q.length≤1000) (hR:R.length≤1000):PureGood Tryz.prog 286 [encF f,encF g] (.tup [encF (bQ Q),encF (bQ R)]):=by
 have gn:=aE5 f lf (by omega) (fun c hc=>by have:=eG (tf c hc);omega)
 have t1:=gZ Q (by omega)
 have t2:=gZ R (by omega)
 have hDz:((f.length:Int)-(g.length:Int)+1).toNat=D:=by omega
 have lgl:=kV tg (i:=g.length-1) (by omega)
 simp only[bD]at*
 refine aA bC Tryz.func286 rfl (by decide) (nt:=87) rfl (rs:=[.tmp 4,.tmp 5]) rfl (aZ rfl) ?_
 refine dM ?_
 refine uV (by simp only[List.size_toArray,List.length_cons,List.length_nil,Nat.reduceAdd,Nat.max_def,Nat.reduceLeDiff,↓reduceIte];exact rfl) rfl rfl rfl (by decide) rfl (by simp(disch:=first|omega|exact kD rfl|exact kX rfl) only[smY,simprocAttr,bl,i64,smT];try exact rfl) gn (by simp[aB]) (by simp[dA]) ?_
 refine sU hDz ?_
 refine aI (α:={x:Nat×List (Option Rat)×List Rat // x.1≤D∧x.2.1.length=D∧x.2.2.length=f.length∧mK x.2.2∧aA6 g (g.getD (g.length-1) 0) x.1 x.2.1 x.2.2=some (Q.map some,R)}) (fun x=>st 87 (lk [(0,.sl f.length (qc f)),(1,.sl g.length (qc g)),(4,.own 0 0 D 4),(5,.own 1 0 f.length 4),(6,i64 ((x.1.1:Int)-1))]) (cP [(0,⟨47,oc x.1.2.1,false⟩),(1,⟨47,qc x.1.2.2,false⟩)]) 2) (fun x=>x.1.1) ⟨(D,List.replicate D none,f),Nat.le_refl _,by simp,rfl,tf,h⟩ ?_ ?_
 ·(refine Sub.heapL [17,5] rfl (by decide) ?_ (by simp only[fB];decide) ?_ ?_;all_goals(first|(simp only[aB,aG,dg,renL,renLs,simprocAttr,bl,i64,smT,smO,hDz];done) |(simp only[aG,dg,renL,renLs,simprocAttr,bl,i64,smT,smO,hDz];(repeat' apply And.intro);all_goals rfl) |(simp only[aG,dg,renL,renLs,simprocAttr,bl,i64,smT,smO,hDz]) |skip))
  all_goals(first |done |((repeat' apply And.intro);all_goals(first |trivial |rfl)))
 ·rintro⟨⟨k,q,r⟩,hk,hq,hr,tr,hd⟩
  simp only at hk hq hr tr hd
  simp only[st]
  by_cases hk0:k=0
  ·subst hk0
   rw[aWr]at hd
   injection hd with hd
   injection hd with hd1 hd2
   subst hd1 hd2
   rw[List.length_map]at hq
   rw[vH]
   rw[hq]at t1
   rw[hr]at t2
   refine zU ?_
   exact zQ5
  ·obtain⟨k,rfl⟩:∃ j,k=j+1:=⟨k-1,by omega⟩
   obtain⟨tc,hd⟩:=aWs hd
   have la:=kV tr (i:=k+g.length-1) (by omega)
   have gq:=tP (r.getD (k+g.length-1) 0) (g.getD (g.length-1) 0) h0 (by omega) (by omega)
   have gz:=rY (r.getD (k+g.length-1) 0 / g.getD (g.length-1) 0) (by have:=eG tc;omega)
   have lc:=eG tc
   generalize hc:r.getD (k+g.length-1) 0 / g.getD (g.length-1) 0=c at*
   generalize ha:r.getD (k+g.length-1) 0=a at*
   generalize hgl:g.getD (g.length-1) 0=gl at*
   have hk1:((k+1:Nat):Int)-1=k:=by omega
   have hset:=kT (l:=q) (j:=k) (by omega) c
   have hgs:(q.set k (some c)).getD k none=some c:=by simp[show k<q.length by omega]
   have hql:(q.set k (some c)).length=D:=by simp[hq]
   simp only[aH]at gq gz
   rcases hd with⟨c0,hd⟩ |⟨c0,r',hs,hd⟩
   ·rw[qA c0]at gz
    simp only[i64,bl]at*
    refine sU (nd ha (nd hgl (nd hk1 (nd hset hgs)))) ?_
    refine⟨⟨(k,q.set k (some c),r),by simp only;omega,by simp only;exact hql,hr,tr,hd⟩,?_,by simp only;omega⟩
    exact zL1 [0,1]
   ·rw[nJ c0]at gz
    simp only[i64,bl]at*
    refine sU (nd ha (nd hgl (nd hk1 (nd hset hgs)))) ?_
    refine aI (α:={x:Nat×List Rat // x.1≤g.length∧x.2.length=f.length∧mK x.2∧aA5 c (g.drop x.1) x.2 (k+x.1)=some r'}) (fun x=>st 87 (lk [(0,.sl f.length (qc f)),(1,.sl g.length (qc g)),(4,.own 0 0 D 4),(5,.own 1 0 f.length 4),(6,i64 k),(57,.sl g.length (qc g)),(58,i64 g.length),(59,i64 x.1.1)]) (cP [(0,⟨47,oc (q.set k (some c)),false⟩),(1,⟨47,qc x.1.2,false⟩)]) 2) (fun x=>g.length-x.1.1) ⟨(0,r),by simp,hr,tr,hs⟩ ?_ ?_
    ·exact zL1 [0,1]
    ·rintro⟨⟨j,y⟩,hj,hy,ty,hsub⟩
     simp only at hj hy ty hsub
     simp only[st]
     by_cases hlt:j<g.length
     ·rw[List.drop_eq_getElem_cons hlt]at hsub
      obtain⟨u1,u2,u3⟩:=aWt hsub
      have hgj:g.getD j 0=g[j]:=by simp[hlt]
      rw[← hgj]at u1 u2 u3
      have lb:=kV tg hlt
      have ly:=kV ty (i:=k+j) (by omega)
      have lm:=eG u1
      have gm:=gE c (g.getD j 0) (by omega) (by omega)
      have gs:=nC (y.getD (k+j) 0) (c*g.getD j 0) (by omega) (by omega)
      have hys:=aE6 (l:=y) (j:=k+j) (by omega) (y.getD (k+j) 0-c*g.getD j 0)
      have hyl:(y.set (k+j) (y.getD (k+j) 0-c*g.getD j 0)).length=f.length:=by simp[hy]
      have tys:=aHw (i:=k+j) ty u2
      have hkj:((k:Int)+(j:Int))=((k+j:Nat):Int):=by simp
      have hkb:k+j<y.length:=by omega
      have hgd:(qc (y.set (k+j) (y.getD (k+j) 0-c*g.getD j 0))).length=f.length*4:=by rw[gH,hyl]
      generalize hv:y.getD (k+j) 0-c*g.getD j 0=v at*
      generalize hmm:c*g.getD j 0=mm at*
      generalize hb:g.getD j 0=b at*
      generalize hx:y.getD (k+j) 0=x at*
      simp only[aH]at gm gs
      refine sU (nd hb (nd hx (nd hgs (nd hkj hys)))) ?_
      refine⟨⟨(j+1,y.set (k+j) v),by simp only;omega,by simp only;exact hyl,tys,by simp only;exact u3⟩,?_,by simp only;omega⟩
      exact zL1 [0,1]
     ·obtain rfl:j=g.length:=by omega
      rw[List.drop_length,bBy]at hsub
      injection hsub with hsub
      subst hsub
      refine zU ?_
      refine⟨⟨(k,q.set k (some c),y),by simp only;omega,by simp only;exact hql,hy,ty,hd⟩,?_,by simp only;omega⟩
      exact zL1 [0,1]
end
section
open Go Go.Lg Go.Num
def rz (l:List Int):List Rat:=l.map fun(z:Int)=>(z:Rat)
def lV (z:Int):Bool:=Nat.ble z.natAbs 4611686018427387904
theorem bX (l:List Int):(rz l).length=l.length:=by simp[rz]
theorem aA7 {z:Int}(h:lV z=true):eT z=true:=by
 unfold lV at h
 unfold eT
 rw[Nat.ble_eq]at*
 have:(4611686018427387905:Nat)≤4294967296^100:=by decide+kernel
 omega
theorem hO {z:Int}(h:lV z=true):dL (z:Rat)=true:=by
 have:=aA7 h
 unfold eT at this
 unfold dL
 rw[Bool.and_eq_true]
 refine⟨?_,?_⟩
 ·rw[Rat.num_intCast];exact this
 ·rw[Rat.den_intCast];decide+kernel
def aWu (c:Int):List Int→List Int→Option (List Int)
 |[],r=>some r
 |_::_,[]=>none
 |b::g,x::r=>iI (c*b) fun m=>iI (x-m) fun v=>bif lV m && lV v then match aWu c g r with
  |some l=>some (v::l)
  |none=>none else none
theorem aTg {c:Int}:∀ {g r l:List Int},aWu c g r=some l→l.length=r.length∧∀ lo:List Int,aA5 (c:Rat) (rz g) (rz (lo++r)) lo.length=some (rz (lo++l))
 |[],r,l,h=>by
  cases h
  exact⟨rfl,fun lo=>rfl⟩
 |_::_,[],l,h=>by cases h
 |b::g,x::r,l,h=>by
  unfold aWu at h
  rw[cV,cV]at h
  cases hb:(lV (c*b) && lV (x-c*b))with
  |false=>rw[hb,cond_false]at h;cases h
  |true=>
   rw[hb,cond_true]at h
   rw[Bool.and_eq_true]at hb
   split at h
   · rename_i l' hl
     cases h
     obtain⟨e1,e2⟩:=aTg hl
     refine⟨by simp[e1],fun lo=> ?_⟩
     have e3:=e2 (lo++[x-c*b])
     have hx:(rz (lo++x::r)).getD lo.length 0=(x:Rat):=by simp[rz]
     have hset:(rz (lo++x::r)).set lo.length ((x-c*b:Int):Rat)=rz (lo++[x-c*b]++r):=by simp[rz]
     show aA5 (c:Rat) ((b:Rat)::rz g) _ _=_
     rw[aA5,hx,← Rat.intCast_mul,← Rat.intCast_sub,hO hb.1,hO hb.2]
     show aA5 _ _ _ _=_
     rw[hset]
     simp only[List.length_append,List.length_cons,List.length_nil]at e3
     rw[e3]
     simp
   · cases h
def aNk (g:List Int) (G:Nat):List Int→List Int→List Int→Option (List Int×List Int)
 |[],hi,q=>some (q,hi)
 |x::lo,hi,q=>iI ((x::hi).getD (G-1) 0) fun c=>bif lV c then(bif Nat.beq c.natAbs 0 then aNk g G lo (x::hi) (c::q)else match aWu c g (x::hi)with
  |some h2=>aNk g G lo h2 (c::q)
  |none=>none)else none
theorem aJ0 {g:List Int}(hG:1≤g.length):∀ {lo hi q Q R:List Int},aNk g g.length lo hi q=some (Q,R)→hi.length+1=g.length+(hi.length+1-g.length)→g.length≤hi.length+1→
  aA6 (rz g) 1 lo.length (List.replicate lo.length none++(rz q).map some) (rz (lo.reverse++hi))=some ((rz Q).map some,rz R)∧Q.length=lo.length+q.length∧R.length=lo.length+hi.length
 |[],hi,q,Q,R,h,_,_=>by
  cases h
  exact⟨rfl,by simp,by simp⟩
 |x::lo,hi,q,Q,R,h,_,hle=>by
  unfold aNk at h
  rw[cV]at h
  generalize hc:(x::hi).getD (g.length-1) 0=c at h
  cases hk:lV c with
  |false=>rw[hk,cond_false]at h;cases h
  |true=>
   rw[hk,cond_true]at h
   have hr:lo.reverse++x::hi=(x::lo).reverse++hi:=by simp
   have hget:(rz ((x::lo).reverse++hi)).getD (lo.length+(rz g).length-1) 0=(c:Rat):=by
     rw[← hr,bX,← hc]
     have e:lo.length+g.length-1=lo.reverse.length+(g.length-1):=by rw[List.length_reverse];omega
     rw[e]
     simp only[rz,List.getD,List.getElem?_map,List.getElem?_append_right (Nat.le_add_right _ _),Nat.add_sub_cancel_left]
     cases (x::hi)[g.length-1]? <;>rfl
   have hset:(List.replicate (lo.length+1) none++(rz q).map some).set lo.length (some (c:Rat))=List.replicate lo.length none++(rz (c::q)).map some:=by
     rw[List.replicate_succ',List.append_assoc,List.set_append_right _ _ (by simp),List.length_replicate,Nat.sub_self]
     rfl
   have hd1:(c:Rat) / 1=c:=by rw[Rat.div_def,show(1:Rat)⁻¹=1 from by decide+kernel,Rat.mul_one]
   cases h0:Nat.beq c.natAbs 0 with
   |true=>
    rw[h0,cond_true]at h
    have hc0:(c:Rat)=0:=by
      have:=Nat.eq_of_beq_eq_true h0
      have:c=0:=by omega
      rw[this];rfl
    obtain⟨e1,e2,e3⟩:=aJ0 hG h (by simp;omega) (by simp;omega)
    refine⟨?_,by simp only[List.length_cons]at*;omega,by simp only[List.length_cons]at*;omega⟩
    rw[List.length_cons,aA6,hget,hd1,hO hk,cond_true,if_pos hc0,hset,← hr]
    exact e1
   |false=>
    rw[h0,cond_false]at h
    have hc0:¬(c:Rat)=0:=fun e=>by
      have:c=0:=Rat.intCast_inj.1 (e.trans Rat.intCast_zero.symm)
      rw[this]at h0
      cases h0
    split at h
    · rename_i h2 hz
      obtain⟨z1,z2⟩:=aTg hz
      simp only[List.length_cons]at z1
      obtain⟨e1,e2,e3⟩:=aJ0 hG h (by omega) (by omega)
      refine⟨?_,by simp only[List.length_cons]at*;omega,by simp only[List.length_cons]at*;omega⟩
      rw[List.length_cons,aA6,hget,hd1,hO hk,cond_true,if_neg hc0,hset,← hr]
      have:=z2 lo.reverse
      rw[List.length_reverse]at this
      rw[this]
      exact e1
    · cases h
end
section
open Go Go.Lg Go.Num
def aGg:Nat→List LV→Option (List Int)
 |0,[]=>some []
 |k+1,a::b::c::d::r=>match rdI a b,rdI c d,aGg k r with
  |some z,some (.ofNat e),some l=>bif Nat.beq e 1 && lV z then some (z::l)else none
  |_,_,_=>none
 |_,_=>none
theorem xI (z:Int):cZ (z:Rat)=[sg z,mg z,sg 1,mg 1]:=by
 rw[dK,Rat.num_intCast,Rat.den_intCast]
 rfl
theorem pF:∀ {k:Nat}{cs:List LV}{l:List Int},aGg k cs=some l→cs=qc (rz l)∧k=l.length∧∀ z∈l,lV z=true
 |0,[],l,h=>by cases h;exact⟨rfl,rfl,by simp⟩
 |0,_::_,l,h=>by cases h
 |k+1,[],l,h=>by cases h
 |k+1,[_],l,h=>by cases h
 |k+1,[_,_],l,h=>by cases h
 |k+1,[_,_,_],l,h=>by cases h
 |k+1,a::b::c::d::r,l,h=>by
  unfold aGg at h
  split at h
  · rename_i z e l' h1 h2 h3
    cases hb:(Nat.beq e 1 && lV z)with
    |false=>rw[hb,cond_false]at h;cases h
    |true=>
     rw[hb,cond_true]at h
     cases h
     rw[Bool.and_eq_true]at hb
     have he:=Nat.eq_of_beq_eq_true hb.1
     subst he
     obtain⟨e1,e2⟩:=jT h1
     obtain⟨e3,e4⟩:=jT h2
     obtain⟨e5,e6,e7⟩:=pF h3
     refine⟨?_,by simp[e6],by simpa using⟨hb.2,e7⟩⟩
     show _=cZ (z:Rat)++qc (rz l')
     rw[← e5,xI,e1,e2,e3,e4]
     rfl
  · cases h
def bVp (l:List Int):List LV:=l.flatMap fun z=>wrI z++wrI 1
def aNl (l:List Int):LV:= .sl l.length (bVp l)
theorem aTh:∀ {l:List Int},(∀ z∈l,lV z=true)→bVp l=qc (rz l)
 |[],_=>rfl
 |z::l,h=>by
  have h1:=aQr (aA7 (h z (by simp)))
  rw[aH,Rat.num_intCast,Rat.den_intCast]at h1
  injection h1 with h1
  have h2:=aTh (l:=l) (fun x hx=>h x (by simp[hx]))
  show(wrI z++wrI 1)++bVp l=cZ (z:Rat)++qc (rz l)
  rw[h2,h1,xI]
  rfl
theorem vI {l:List Int}(h:∀ z∈l,lV z=true):aNl l=encF (rz l):=by
 rw[aNl,aTh h,bD,bX]
def aHx:List Int→List Int
 |[]=>[]
 |z::l=>bif Nat.beq z.natAbs 0 then aHx l else z::l
def bR (l:List Int):List Int:=(aHx l.reverse).reverse
theorem aNm:∀ l:List Int,rz (aHx l)=(rz l).dropWhile (· ==0)
 |[]=>rfl
 |z::l=>by
  unfold aHx
  cases hb:Nat.beq z.natAbs 0 with
  |true=>
   have:=Nat.eq_of_beq_eq_true hb
   have hz:z=0:=by omega
   subst hz
   rw[cond_true,aNm l]
   rfl
  |false=>
   have hz:(z:Rat)≠0:=fun e=>by
     have:z=0:=Rat.intCast_inj.1 (e.trans Rat.intCast_zero.symm)
     rw[this]at hb
     cases hb
   rw[cond_false]
   show _=List.dropWhile _ ((z:Rat)::rz l)
   rw[List.dropWhile_cons_of_neg (by simpa using hz)]
   rfl
theorem oC (l:List Int):rz (bR l)=bQ (rz l):=by
 unfold bR bQ
 rw[show(rz l).reverse=rz l.reverse by simp[rz],← aNm]
 simp[rz]
theorem aHy:∀ {l:List Int}{z:Int},z∈aHx l→z∈l
 |[],z,h=>h
 |x::l,z,h=>by
  unfold aHx at h
  cases hb:Nat.beq x.natAbs 0 with
  |true=>rw[hb,cond_true]at h;exact List.mem_cons_of_mem _ (aHy h)
  |false=>rw[hb,cond_false]at h;exact h
theorem qL {l:List Int}{z:Int}(h:z∈bR l):z∈l:=by
 have:=List.mem_reverse.1 h
 exact List.mem_reverse.1 (aHy this)
def aGh (l:List Int):Bool:=l.all lV
def aE7 (args:List LV):Option LV:=match args with
 |[.sl n cs]=>match aGg n cs with
  |some f=>bif Nat.ble n 1000 then some (aNl (bR f))else none
  |none=>none
 |_=>none
theorem aE8 {fid:FuncId}(hg:∀ f:List Rat,f.length≤1000→(∀ c∈f,lq c≤200)→PureGood Tryz.prog fid [encF f] (encF (bQ f))) {args:List LV}{r:LV}(h:aE7 args=some r):PureGood Tryz.prog fid args r:=by
 unfold aE7 at h
 split at h
 ·rename_i n cs
  split at h
  ·rename_i f hf
   obtain⟨rfl,rfl,h3⟩:=pF hf
   cases hb:Nat.ble f.length 1000 with
   |false=>rw[hb,cond_false]at h;cases h
   |true=>
    rw[hb,cond_true]at h
    cases h
    rw[Nat.ble_eq]at hb
    have:=hg (rz f) (by rw[bX];exact hb) (fun c hc=>by
      obtain⟨z,hz,rfl⟩:=List.mem_map.1 hc
      exact eG (hO (h3 z hz)))
    rw[vI (fun z hz=>h3 z (qL hz)),oC,← bX,← bD]
    exact this
  ·cases h
 ·cases h
def aTi (args:List LV):Option LV:=match args with
 |[.sl n cs,.sl k ds]=>match aGg n cs,aGg k ds with
  |some f,some g=>bif Nat.ble 1 k && Nat.ble k 1000 && Nat.ble n 1000 && (g.getD (k-1) 0==1) && (Nat.beq n 0 || !(f.getD (n-1) 0==0))then
      (bif Nat.blt n k then some (.tup [.sl 0 [],.sl n cs])else match aNk g k (f.take (n+1-k)).reverse (f.drop (n+1-k)) []with
        |some (Q,R)=>bif aGh Q && aGh R then some (.tup [aNl (bR Q),aNl (bR R)])else none
        |none=>none)else none
  |_,_=>none
 |_=>none
theorem bBz {args:List LV}{r:LV}(h:aTi args=some r):PureGood Tryz.prog 286 args r:=by
 unfold aTi at h
 split at h
 ·rename_i n cs k ds
  split at h
  ·rename_i f g hf hg
   obtain⟨rfl,rfl,f3⟩:=pF hf
   obtain⟨rfl,rfl,g3⟩:=pF hg
   generalize hcond:(Nat.ble 1 g.length && Nat.ble g.length 1000 && Nat.ble f.length 1000 && (g.getD (g.length-1) 0==1) && (Nat.beq f.length 0 || !(f.getD (f.length-1) 0==0)))=q at h
   cases q with
   |false=>rw[cond_false]at h;cases h
   |true=>
    rw[cond_true]at h
    simp only[Bool.and_eq_true,Bool.or_eq_true,Bool.not_eq_true',Nat.ble_eq,Nat.beq_eq,beq_iff_eq,beq_eq_false_iff_ne,ne_eq]at hcond
    obtain⟨⟨⟨⟨c1,c2⟩,c3⟩,c4⟩,c5⟩:=hcond
    have tf:mK (rz f):=fun c hc=>by
      obtain⟨z,hz,rfl⟩:=List.mem_map.1 hc
      exact hO (f3 z hz)
    have tg:mK (rz g):=fun c hc=>by
      obtain⟨z,hz,rfl⟩:=List.mem_map.1 hc
      exact hO (g3 z hz)
    have getz:∀ (l:List Int) (i:Nat),(rz l).getD i 0=((l.getD i 0:Int):Rat):=by
      intro l i
      simp only[rz,List.getD,List.getElem?_map]
      cases l[i]? <;>rfl
    have lf:sQ (rz f):=by
      intro h0
      rw[bX]at h0⊢
      rw[getz]
      intro e
      have:=Rat.intCast_inj.1 (e.trans Rat.intCast_zero.symm)
      rcases c5 with c5 |c5
      · omega
      · exact c5 this
    have hgl:(rz g).getD ((rz g).length-1) 0=1:=by rw[bX,getz,c4];rfl
    cases hlt:Nat.blt f.length g.length with
    |true=>
     rw[hlt,cond_true]at h
     cases h
     have hlt:f.length<g.length:=Nat.le_of_ble_eq_true hlt
     have:=aGf (rz f) (rz g) lf tf (by rw[bX,bX];exact hlt) (by rw[bX];exact c2)
     rw[bD,bD,bX,bX]at this
     exact this
    |false=>
     rw[hlt,cond_false]at h
     have hlt:¬f.length<g.length:=fun e=>by
       have:Nat.blt f.length g.length=true:=Nat.ble_eq_true_of_le e
       rw[this]at hlt
       cases hlt
     split at h
     · rename_i Q R hd
       cases hall:(aGh Q && aGh R)with
       |false=>rw[hall,cond_false]at h;cases h
       |true=>
        rw[hall,cond_true]at h
        cases h
        rw[Bool.and_eq_true]at hall
        have hQ:=List.all_eq_true.1 hall.1
        have hR:=List.all_eq_true.1 hall.2
        have hlo:(f.take (f.length+1-g.length)).reverse.length=f.length+1-g.length:=by rw[List.length_reverse,List.length_take];omega
        have hhi:(f.drop (f.length+1-g.length)).length=g.length-1:=by rw[List.length_drop];omega
        obtain⟨e1,e2,e3⟩:=aJ0 c1 hd (by omega) (by omega)
        rw[hlo]at e1 e2 e3
        rw[hhi]at e3
        rw[List.reverse_reverse,List.take_append_drop]at e1
        have hnil:List.replicate (f.length+1-g.length) none++(rz ([]:List Int)).map some=List.replicate (f.length+1-g.length) none:=by simp[rz]
        rw[hnil]at e1
        have:=aJz (rz f) (rz g) (rz Q) (rz R) (f.length+1-g.length) lf tf tg (by rw[bX];exact c1) (by rw[bX];exact c2) (by rw[bX];exact c3) (by rw[bX,bX];omega) (by omega)
          (by rw[hgl];decide+kernel) (by rw[hgl];exact e1) (by rw[bX,e2];simp;omega) (by rw[bX,e3];omega)
        rw[vI (fun z hz=>hQ z (qL hz)),vI (fun z hz=>hR z (qL hz)),oC,oC]
        rw[bD (rz f),bD (rz g),bX,bX]at this
        exact this
     · cases h
  ·cases h
 ·cases h
def cFm (f:FuncId) (args:List LV):Option LV:=bif Nat.beq f 286 then aTi args else bif Nat.beq f 219 then aE7 args else bif Nat.beq f 275 then aE7 args else cFh f args
theorem bIh:fR Tryz.prog cFm:=by
 intro f args r h
 exact aU (f0:=286) (g:=aTi) (fun _ _ h=>bBz h) (aU (f0:=219) (g:=aE7) (fun _ _ h=>aE8 (fun f h1 h2=>jJ f (by omega) (fun c hc=>by have:=h2 c hc;omega)) h) (aU (f0:=275) (g:=aE7) (fun _ _ h=>aE8 (fun f h1 h2=>gZ f (by omega)) h) aTc)) f args r h
end
section
open Go Go.Lg Go.Num
def yY (a:Rat):List Rat→List Rat→Nat→Option (List Rat)
 |[],o,_=>some o
 |b::g,o,i=>if b=0 then yY a g o (i+1)else bif dL (a*b) && dL (o.getD i 0+a*b)then yY a g (o.set i (o.getD i 0+a*b)) (i+1)else none
def aA8 (g:List Rat):List Rat→List Rat→Nat→Option (List Rat)
 |[],o,_=>some o
 |a::f,o,i=>if a=0 then aA8 g f o (i+1)else match yY a g o i with
  |some o'=>aA8 g f o' (i+1)
  |none=>none
theorem aWv {a b:Rat}{g o r:List Rat}{i:Nat}(h:yY a (b::g) o i=some r):(b=0∧yY a g o (i+1)=some r)∨(b≠0∧dL (a*b)=true∧dL (o.getD i 0+a*b)=true∧yY a g (o.set i (o.getD i 0+a*b)) (i+1)=some r):=by
 rw[yY]at h
 split at h
 ·rename_i h0
  exact .inl ⟨h0,h⟩
 ·rename_i h0
  cases ht:(dL (a*b) && dL (o.getD i 0+a*b))with
  |false=>rw[ht,cond_false]at h;cases h
  |true=>
   rw[ht,cond_true]at h
   rw[Bool.and_eq_true]at ht
   exact .inr ⟨h0,ht.1,ht.2,h⟩
theorem aWw {a:Rat}{g f o r:List Rat}{i:Nat}(h:aA8 g (a::f) o i=some r):(a=0∧aA8 g f o (i+1)=some r)∨(a≠0∧∃ o',yY a g o i=some o'∧aA8 g f o' (i+1)=some r):=by
 rw[aA8]at h
 split at h
 ·rename_i h0
  exact .inl ⟨h0,h⟩
 ·rename_i h0
  split at h
  ·rename_i o' ho
   exact .inr ⟨h0,o',ho,h⟩
  ·cases h
theorem bB0 (a:Rat) (o:List Rat) (i:Nat):yY a [] o i=some o:=rfl
theorem bB1 (g o:List Rat) (i:Nat):aA8 g [] o i=some o:=rfl
attribute [local irreducible] lrun lwp exThen exBlk keep goodPost sg mg dL yY aA8 oc fW
theorem aQu (f g R:List Rat) (tf:mK f) (tg:mK g) (hf1:1≤f.length) (hg1:1≤g.length) (hf:f.length≤1000) (hg:g.length≤1000)
  (h:aA8 g f (List.replicate (f.length+g.length-1) 0) 0=some R) (hR:R.length≤10000):PureGood Tryz.prog 217 [encF f,encF g] (encF (bQ R)):=by
 have t1:=gZ R (by omega)
 have g0:=gW 0 (by omega)
 obtain⟨L,hL⟩:∃ L,f.length+g.length=L+1:=⟨f.length+g.length-1,by omega⟩
 have hLz:((f.length:Int)+(g.length:Int)-1).toNat=L:=by omega
 have hLi:(f.length:Int)+(g.length:Int)-1=(L:Int):=by omega
 rw[show f.length+g.length-1=L by omega]at h
 have hz0:((0:Int):Rat)=0:=rfl
 rw[hz0]at g0
 simp only[bD,aH,i64]at*
 have hZl:(List.replicate L (0:Rat)).length=L:=List.length_replicate
 generalize hZ:List.replicate L (0:Rat)=Z at*
 have hZg:∀ k,Z.getD k 0=0:=fun k=>by rw[← hZ];simp[List.getD,List.getElem?_replicate];split <;>rfl
 have tZ:mK Z:=fun q hq=>by rw[← hZ]at hq;rw[(List.mem_replicate.1 hq).2];decide+kernel
 refine aA bC Tryz.func217 rfl (by decide) (nt:=74) rfl (rs:=[.tmp 4]) rfl (aZ rfl) ?_
 refine sU (nd hLz hLi) ?_
 refine aI (α:={k:Nat // k≤L}) (fun k=>st 74 (lk [(0,.sl f.length (qc f)),(1,.sl g.length (qc g)),(4,nilL),(5,.own 0 0 L 4),(27,i64 L),(28,i64 k.1)]) (cP [(0,⟨47,fW Z k.1,false⟩)]) 1) (fun k=>L-k.1) ⟨0,by omega⟩ ?_ ?_
 ·(refine Sub.heap1 15 ?_ (by simp only[aG,dg,renL,renLs,simprocAttr,bl,i64,smT,smO,hLz,hLi];exact rfl) ?_ ?_;all_goals(first |exact aE _ |with_reducible rfl |(simp only[aG,dg,renL,renLs,simprocAttr,bl,i64,smT,smO,hLz,hLi])|skip))
  ·rw[rW,hZl]
   first |rfl |exact(qJ L).symm
  ·exact eX _ _
 ·rintro⟨k,hk⟩
  simp only[st]
  by_cases hlt:k<L
  ·have hst:=rX (f:=Z) (k:=k) (by omega) (hZg k)
   have hfl:=vG (f:=Z) (k:=k) (by omega)
   generalize fW Z k=Fk at*
   refine dM ?_
   refine⟨⟨k+1,by omega⟩,?_,by simp only;omega⟩
   (refine Sub.heap1 0 ?_ (by simp only[aG,dg,renL,renLs,simprocAttr,bl,i64,smT];exact rfl) ?_ ?_;all_goals(first |exact aE _ |with_reducible rfl |(simp only[aG,dg,renL,renLs,simprocAttr,bl,i64,smT])|skip))
   ·exact hst
   ·exact eX _ _
  ·obtain rfl:k=L:=by omega
   have hfa:fW Z k=qc Z:=by rw[← hZl];exact vF Z
   rw[hfa]
   refine dM ?_
   refine aI (α:={x:Nat×List Rat // x.1≤f.length∧x.2.length=k∧mK x.2∧aA8 g (f.drop x.1) x.2 x.1=some R}) (fun x=>st 74 (lk [(0,.sl f.length (qc f)),(1,.sl g.length (qc g)),(4,nilL),(5,.own 0 0 k 4),(36,.sl f.length (qc f)),(37,i64 f.length),(38,i64 x.1.1)]) (cP [(0,⟨47,qc x.1.2,false⟩)]) 1) (fun x=>f.length-x.1.1) ⟨(0,Z),by simp,hZl,tZ,h⟩ ?_ ?_
   ·(refine Sub.heap1 0 ?_ (by simp only[aG,dg,renL,renLs,simprocAttr,bl,i64,smT];exact rfl) ?_ ?_;all_goals(first |exact aE _ |with_reducible rfl |(simp only[aG,dg,renL,renLs,simprocAttr,bl,i64,smT])|skip))
    all_goals(first |exact kR s9 s10 _ |done)
   ·rintro⟨⟨i,o⟩,hi,ho,to,hm⟩
    simp only at hi ho to hm
    simp only[st]
    by_cases hif:i<f.length
    ·rw[List.drop_eq_getElem_cons hif]at hm
     have hfi:f.getD i 0=f[i]:=by simp[hif]
     rw[← hfi]at hm
     have la:=kV tf hif
     have gz:=rY (f.getD i 0) (by omega)
     generalize ha:f.getD i 0=a at*
     rw[aH]at gz
     rcases aWw hm with⟨a0,hm⟩ |⟨a0,o',hadd,hm⟩
     ·rw[qA a0]at gz
      simp only[i64,bl]at*
      refine cW ha ?_
      refine⟨⟨(i+1,o),by simp only;omega,ho,to,hm⟩,?_,by simp only;omega⟩
      (refine Sub.heap1 0 ?_ (by simp only[aG,dg,renL,renLs,simprocAttr,bl,i64,smT];exact rfl) ?_ ?_;all_goals(first |exact aE _ |with_reducible rfl |(simp only[aG,dg,renL,renLs,simprocAttr,bl,i64,smT])|skip))
      all_goals(first |exact kR s9 s10 _ |done)
     ·rw[nJ a0]at gz
      simp only[i64,bl]at*
      refine cW ha ?_
      refine aI (α:={x:Nat×List Rat // x.1≤g.length∧x.2.length=k∧mK x.2∧yY a (g.drop x.1) x.2 (i+x.1)=some o'}) (fun x=>st 74 (lk [(0,.sl f.length (qc f)),(1,.sl g.length (qc g)),(4,nilL),(5,.own 0 0 k 4),(7,i64 i),(8,.ptr 1 0),(36,.sl f.length (qc f)),(37,i64 f.length),(38,i64 i),(45,.sl g.length (qc g)),(46,i64 g.length),(47,i64 x.1.1)]) (cP [(0,⟨47,qc x.1.2,false⟩),(1,⟨47,[sg (a).num,mg (a).num,sg ((a).den:Int),mg ((a).den:Int)],false⟩)]) 2) (fun x=>g.length-x.1.1) ⟨(0,o),by simp,ho,to,hadd⟩ ?_ ?_
      ·exact zL0 [0,5]
      ·rintro⟨⟨j,y⟩,hj,hy,ty,hsub⟩
       simp only at hj hy ty hsub
       simp only[st]
       by_cases hlt:j<g.length
       ·rw[List.drop_eq_getElem_cons hlt]at hsub
        have hgj:g.getD j 0=g[j]:=by simp[hlt]
        rw[← hgj]at hsub
        have lb:=kV tg hlt
        have gz:=rY (g.getD j 0) (by omega)
        have hkj:((i:Int)+(j:Int))=((i+j:Nat):Int):=by simp
        have hkb:i+j<y.length:=by omega
        rcases aWv hsub with⟨b0,hs2⟩ |⟨b0,u1,u2,u3⟩
        ·rw[qA b0]at gz
         generalize hb:g.getD j 0=b at*
         rw[aH]at gz
         simp only[i64,bl]at*
         refine cW hb ?_
         refine⟨⟨(j+1,y),by simp only;omega,by simp only;exact hy,ty,by simp only;exact hs2⟩,?_,by simp only;omega⟩
         exact zL0 [0,1]
        ·rw[nJ b0]at gz
         have ly:=kV ty (i:=i+j) (by omega)
         have lm:=eG u1
         have gm:=gE a (g.getD j 0) (by omega) (by omega)
         have gs:=kN (y.getD (i+j) 0) (a*g.getD j 0) (by omega) (by omega)
         have hys:=aE6 (l:=y) (j:=i+j) (by omega) (y.getD (i+j) 0+a*g.getD j 0)
         have hyl:(y.set (i+j) (y.getD (i+j) 0+a*g.getD j 0)).length=k:=by simp[hy]
         have tys:=aHw (i:=i+j) ty u2
         generalize hv:y.getD (i+j) 0+a*g.getD j 0=v at*
         generalize hmm:a*g.getD j 0=mm at*
         generalize hb:g.getD j 0=b at*
         generalize hx:y.getD (i+j) 0=x at*
         simp only[aH]at gm gs gz
         simp only[i64,bl]at*
         refine cW (nd hb (nd hx (nd hkj hys))) ?_
         refine⟨⟨(j+1,y.set (i+j) v),by simp only;omega,by simp only;exact hyl,tys,by simp only;exact u3⟩,?_,by simp only;omega⟩
         exact zL0 [0,1]
       ·obtain rfl:j=g.length:=by omega
        rw[List.drop_length,bB0]at hsub
        injection hsub with hsub
        subst hsub
        refine dM ?_
        refine⟨⟨(i+1,y),by simp only;omega,hy,ty,hm⟩,?_,by simp only;omega⟩
        (refine Sub.heap1 0 ?_ (by simp only[aG,dg,renL,renLs,simprocAttr,bl,i64,smT];exact rfl) ?_ ?_;all_goals(first |exact aE _ |with_reducible rfl |(simp only[aG,dg,renL,renLs,simprocAttr,bl,i64,smT])|skip))
        all_goals(first |exact kR s9 s10 _ |done)
    ·obtain rfl:i=f.length:=by omega
     rw[List.drop_length,bB1]at hm
     injection hm with hm
     subst hm
     rw[ho]at t1
     refine dM ?_
     exact mJ
end
section
open Go Go.Lg Go.Num
theorem z4p:LV.agg [sg 0,mg 0,sg 0,mg 0]= .agg [.lit (.bool false),.sl 0 [],.lit (.bool false),.sl 0 []]:=by simp[sg,mg,bl,dg,eQ,aX]
attribute [local irreducible] lrun lwp exThen exBlk keep goodPost sg mg dL oc fW
end
section
open Go Go.Lg Go.Num
def tK (c:Int):List Int→List Int→Nat→Option (List Int)
 |[],r,_=>some r
 |b::g,r,i=>bif lV (c*b) && lV (r.getD i 0-c*b)then tK c g (r.set i (r.getD i 0-c*b)) (i+1)else none
def aE9 (g:List Int):Nat→List Int→List Int→Option (List Int×List Int)
 |0,q,r=>some (q,r)
 |k+1,q,r=>bif lV (r.getD (k+g.length-1) 0)then match tK (r.getD (k+g.length-1) 0) g r k with
  |some r'=>aE9 g k (q.set k (r.getD (k+g.length-1) 0)) r'
  |none=>none else none
theorem aWx {g:List Int}{k:Nat}{q r:List Int}{x:List Int×List Int}(h:aE9 g (k+1) q r=some x):lV (r.getD (k+g.length-1) 0)=true∧∃ r',tK (r.getD (k+g.length-1) 0) g r k=some r'∧aE9 g k (q.set k (r.getD (k+g.length-1) 0)) r'=some x:=by
 rw[aE9]at h
 cases ht:lV (r.getD (k+g.length-1) 0)with
 |false=>rw[ht,cond_false]at h;cases h
 |true=>
  rw[ht,cond_true]at h
  refine⟨rfl,?_⟩
  split at h
  · rename_i r' hr
    exact⟨r',hr,h⟩
  · cases h
theorem aWy {c b:Int}{g r r':List Int}{i:Nat}(h:tK c (b::g) r i=some r'):lV (c*b)=true∧lV (r.getD i 0-c*b)=true∧tK c g (r.set i (r.getD i 0-c*b)) (i+1)=some r':=by
 rw[tK]at h
 cases ht:(lV (c*b) && lV (r.getD i 0-c*b))with
 |false=>rw[ht,cond_false]at h;cases h
 |true=>
  rw[ht,cond_true]at h
  rw[Bool.and_eq_true]at ht
  exact⟨ht.1,ht.2,h⟩
theorem aQv {z:Int}(h:lV z=true): -4611686018427387904≤z∧z≤4611686018427387904:=by
 unfold lV at h
 rw[Nat.ble_eq]at h
 omega
theorem bIi {l:List Int}(h:∀ z∈l,lV z=true) {i:Nat}{q:Int}(hq:lV q=true):∀ z∈l.set i q,lV z=true:=by
 intro x hx
 rcases List.mem_or_eq_of_mem_set hx with h1 |rfl
 ·exact h x h1
 ·exact hq
attribute [local irreducible] lrun lwp exThen exBlk keep goodPost tK aE9 ec lV
theorem aFa (f g Q R:List Int) (D:Nat) (of:∀ z∈f,lV z=true) (og:∀ z∈g,lV z=true) (hG:2≤g.length) (hg:g.length≤1000) (hf:f.length≤1000) (hD:f.length+1=D+g.length) (hD1:1≤D)
  (h:aE9 g D (List.replicate D 0) f=some (Q,R)):PureGood Tryz.prog 162 [.sl f.length (ec f),.sl g.length (ec g)] (.tup [.sl D (ec Q),.sl (g.length-1) (ec (R.take (g.length-1)))]):=by
 have hDz:((f.length:Int)-(g.length:Int)+1).toNat=D:=by omega
 have hmx:(if(f.length:Int)-(g.length:Int)+1>0 then(f.length:Int)-(g.length:Int)+1 else 0)=(D:Int):=by rw[if_pos (by omega)];omega
 have hmn:(if(g.length:Int)-1<(f.length:Int)then(g.length:Int)-1 else(f.length:Int))=((g.length-1:Nat):Int):=by rw[if_pos (by omega)];omega
 refine aA bC Tryz.func162 rfl (by decide) (nt:=71) rfl (rs:=[.tmp 4,.tmp 5]) rfl (aZ rfl) ?_
 (repeat(first|apply zO (by decide+kernel)|apply zP (by decide+kernel)|(apply zS;(case h=>constructor<;>decide))|((first|apply cD rfl|apply aR|apply zT rfl (by decide) rfl);(case hs=>(simp(disch:=first|omega|exact kD rfl|exact kX rfl) only[smY,simprocAttr,bl,i64,smE,hDz,hmx,hmn,lP];exact rfl));first|refine cB ?_|refine cC ?_|refine zq ?_|(case hg=>assumption))))
 refine aI (α:={x:Nat×List Int×List Int // x.1≤D∧x.2.1.length=D∧x.2.2.length=f.length∧(∀ z∈x.2.2,lV z=true)∧aE9 g x.1 x.2.1 x.2.2=some (Q,R)}) (fun x=>st 71 (lk [(0,.sl f.length (ec f)),(1,.sl g.length (ec g)),(6,.own 0 0 f.length 1),(7,.own 1 0 D 1),(8,i64 ((x.1.1:Int)-1))]) (cP [(0,⟨3,ec x.1.2.2,false⟩),(1,⟨3,ec x.1.2.1,false⟩)]) 2) (fun x=>x.1.1) ⟨(D,List.replicate D 0,f),Nat.le_refl _,by simp,rfl,of,h⟩ ?_ ?_
 ·(refine Sub.heapL [4,13] rfl (by decide) ?_ (by simp only[fB];decide) ?_ ?_;all_goals(first|(simp only[aB,aG,dg,renL,renLs,simprocAttr,bl,i64,smE,hDz,hmx,hmn,lP];done) |(simp only[aG,dg,renL,renLs,simprocAttr,bl,i64,smE,hDz,hmx,hmn,lP];(repeat' apply And.intro);all_goals rfl) |(simp only[aG,dg,renL,renLs,simprocAttr,bl,i64,smE,hDz,hmx,hmn,lP]) |skip))
  all_goals(first |done |((repeat' apply And.intro);all_goals(first |trivial |rfl)))
 ·rintro⟨⟨k,q,r⟩,hk,hq,hr,or,hd⟩
  simp only at hk hq hr or hd
  simp only[st]
  by_cases hk0:k=0
  ·subst hk0
   have hd:some (q,r)=some (Q,R):=by rw[← hd,aE9]
   injection hd with hd
   injection hd with hd1 hd2
   subst hd1 hd2
   refine wR hmn ?_
   ((first|apply dG|apply dI);case hres=>(simp only[iC];simp(disch:=first|omega|exact kD rfl|exact kX rfl) only[smY,simprocAttr,bl,i64,smE,hmn];exact rfl))
   simp(disch:=first|omega|exact kD rfl|exact kX rfl) only[smY,simprocAttr,bl,i64,smE,hmn]
   rw[List.take_of_length_le (by omega)]
  ·obtain⟨k,rfl⟩:∃ j,k=j+1:=⟨k-1,by omega⟩
   obtain⟨oc',r',hs,hd⟩:=aWx hd
   have hk1:((k+1:Nat):Int)-1=k:=by omega
   have hcb:=aQv oc'
   generalize hc:r.getD (k+g.length-1) 0=c at*
   have hql:(q.set k c).length=D:=by simp[hq]
   have hgs:(q.set k c).getD k 0=c:=by simp[show k<q.length by omega]
   refine wR (nd hc (nd hk1 hgs)) ?_
   refine aI (α:={x:Nat×List Int // x.1≤g.length∧x.2.length=f.length∧(∀ z∈x.2,lV z=true)∧tK c (g.drop x.1) x.2 (k+x.1)=some r'}) (fun x=>st 71 (lk [(0,.sl f.length (ec f)),(1,.sl g.length (ec g)),(6,.own 0 0 f.length 1),(7,.own 1 0 D 1),(8,i64 k),(9,i64 x.1.1)]) (cP [(0,⟨3,ec x.1.2,false⟩),(1,⟨3,ec (q.set k c),false⟩)]) 2) (fun x=>g.length-x.1.1) ⟨(0,r),by simp,hr,or,hs⟩ ?_ ?_
   ·exact zL3 [0,1]
   ·rintro⟨⟨j,y⟩,hj,hy,oy,hsub⟩
    simp only at hj hy oy hsub
    simp only[st]
    by_cases hlt:j<g.length
    ·rw[List.drop_eq_getElem_cons hlt]at hsub
     obtain⟨u1,u2,u3⟩:=aWy hsub
     have hgj:g.getD j 0=g[j]:=by simp[hlt]
     rw[← hgj]at u1 u2 u3
     have b1:=aQv u1
     have b2:=aQv u2
     have hyl:(y.set (k+j) (y.getD (k+j) 0-c*g.getD j 0)).length=f.length:=by simp[hy]
     have oys:=bIi (i:=k+j) oy u2
     have hkj:((k:Int)+(j:Int))=((k+j:Nat):Int):=by simp
     have hkb:k+j<y.length:=by omega
     generalize hv:y.getD (k+j) 0-c*g.getD j 0=v at*
     generalize hmm:c*g.getD j 0=mm at*
     generalize hb:g.getD j 0=b at*
     generalize hx:y.getD (k+j) 0=x at*
     refine wR (nd hb (nd hx (nd hgs (nd hkj (nd hmm hv))))) ?_
     refine⟨⟨(j+1,y.set (k+j) v),by simp only;omega,by simp only;exact hyl,oys,by simp only;exact u3⟩,?_,by simp only;omega⟩
     exact zL3 [0,1]
    ·obtain rfl:j=g.length:=by omega
     rw[List.drop_length,tK]at hsub
     injection hsub with hsub
     subst hsub
     refine xM ?_
     refine⟨⟨(k,q.set k c,y),by simp only;omega,by simp only;exact hql,hy,oy,hd⟩,?_,by simp only;omega⟩
     exact zL3 [0,1]
end
section
open Go Go.Lg Go.Num
def okA (l:List Int):Prop:=∀ z∈l,lV z=true
theorem oD {x:Int}{l:List Int}:okA (x::l)↔lV x=true∧okA l:=by simp[okA]
theorem aNn (lo:List Int) (x:Int) (r:List Int):(lo++x::r).getD lo.length 0=x:=by simp
theorem aTj (lo:List Int) (x v:Int) (r:List Int):(lo++x::r).set lo.length v=(lo++[v])++r:=by simp
theorem bB3 {c:Int}:∀ {g r l:List Int},aWu c g r=some l→okA r→okA l∧l.length=r.length∧∀ lo:List Int,tK c g (lo++r) lo.length=some (lo++l)
 |[],r,l,h,ho=>by
  cases h
  exact⟨ho,rfl,fun lo=>rfl⟩
 |_::_,[],l,h,_=>by cases h
 |b::g,x::r,l,h,ho=>by
  unfold aWu at h
  rw[cV,cV]at h
  cases hb:(lV (c*b) && lV (x-c*b))with
  |false=>rw[hb,cond_false]at h;cases h
  |true=>
   rw[hb,cond_true]at h
   have hb':=hb
   rw[Bool.and_eq_true]at hb'
   split at h
   · rename_i l' hl
     cases h
     obtain⟨e0,e1,e2⟩:=bB3 hl (oD.1 ho).2
     refine⟨oD.2 ⟨hb'.2,e0⟩,by simp[e1],fun lo=> ?_⟩
     have e3:=e2 (lo++[x-c*b])
     rw[tK,aNn,hb,cond_true,aTj]
     simp only[List.length_append,List.length_cons,List.length_nil]at e3
     rw[e3]
     simp
   · cases h
theorem aHz:∀ {g r:List Int},okA r→g.length≤r.length→∀ lo:List Int,tK 0 g (lo++r) lo.length=some (lo++r)
 |[],r,_,_,lo=>rfl
 |_::_,[],_,h,_=>by simp at h
 |b::g,x::r,ho,h,lo=>by
  have e3:=aHz (g:=g) (oD.1 ho).2 (by simpa using h) (lo++[x])
  rw[tK,aNn,Int.zero_mul,Int.sub_zero,(oD.1 ho).1,show lV 0=true from rfl,aTj]
  simp only[List.length_append,List.length_cons,List.length_nil]at e3
  show tK _ _ _ _=_
  rw[e3]
  simp
theorem aQw {g:List Int}(hG:1≤g.length):∀ {lo hi q Q R:List Int},aNk g g.length lo hi q=some (Q,R)→okA lo→okA hi→g.length≤hi.length+1→
  aE9 g lo.length (List.replicate lo.length 0++q) (lo.reverse++hi)=some (Q,R)
 |[],hi,q,Q,R,h,_,_,_=>by
  cases h
  rfl
 |x::lo,hi,q,Q,R,h,ol,oh,hle=>by
  unfold aNk at h
  rw[cV]at h
  generalize hc:(x::hi).getD (g.length-1) 0=c at h
  obtain⟨ox,ol⟩:=oD.1 ol
  have oxh:okA (x::hi):=oD.2 ⟨ox,oh⟩
  cases hk:lV c with
  |false=>rw[hk,cond_false]at h;cases h
  |true=>
   rw[hk,cond_true]at h
   have hr:lo.reverse++x::hi=(x::lo).reverse++hi:=by simp
   have hget:((x::lo).reverse++hi).getD (lo.length+g.length-1) 0=c:=by
     rw[← hr,← hc]
     have e:lo.length+g.length-1=lo.reverse.length+(g.length-1):=by rw[List.length_reverse];omega
     rw[e]
     simp only[List.getD,List.getElem?_append_right (Nat.le_add_right _ _),Nat.add_sub_cancel_left]
   have hset:(List.replicate (lo.length+1) 0++q).set lo.length c=List.replicate lo.length 0++(c::q):=by
     rw[List.replicate_succ',List.append_assoc,List.set_append_right _ _ (by simp),List.length_replicate,Nat.sub_self]
     rfl
   have hrl:lo.reverse.length=lo.length:=List.length_reverse
   cases h0:Nat.beq c.natAbs 0 with
   |true=>
    rw[h0,cond_true]at h
    have hc0:c=0:=by
      have:=Nat.eq_of_beq_eq_true h0
      omega
    have e1:=aQw hG h ol oxh (by simp;omega)
    have e2:=aHz (g:=g) oxh (by simp;omega) lo.reverse
    rw[hrl,← hc0]at e2
    rw[List.length_cons,aE9,hget,hk,cond_true,← hr,e2,hset]
    exact e1
   |false=>
    rw[h0,cond_false]at h
    split at h
    · rename_i h2 hz
      obtain⟨z0,z1,z2⟩:=bB3 hz oxh
      simp only[List.length_cons]at z1
      have e1:=aQw hG h ol z0 (by omega)
      have e2:=z2 lo.reverse
      rw[hrl]at e2
      rw[List.length_cons,aE9,hget,hk,cond_true,← hr,e2,hset]
      exact e1
    · cases h
def aWz:List LV→Option (List Int)
 |[]=>some []
 | .lit (.int .i64 z)::cs=>match aWz cs with
   |some l=>bif lV z then some (z::l)else none
   |none=>none
 |_=>none
theorem aC2:∀ {cs:List LV}{l:List Int},aWz cs=some l→cs=ec l∧okA l
 |[],l,h=>by cases h;exact⟨rfl,by simp[okA]⟩
 |c::cs,l,h=>by
  unfold aWz at h
  split at h
  · simp_all
  · rename_i z cs' he
    simp only[List.cons.injEq]at he
    obtain⟨rfl,rfl⟩:=he
    split at h
    · rename_i l' hl
      cases hb:lV z with
      |false=>rw[hb,cond_false]at h;cases h
      |true=>
       rw[hb,cond_true]at h
       cases h
       obtain⟨e1,e2⟩:=aC2 hl
       exact⟨by rw[e1];rfl,oD.2 ⟨hb,e2⟩⟩
    · cases h
  · cases h
def aTk (args:List LV):Option LV:=match args with
 |[.sl n cs,.sl k ds]=>match aWz cs,aWz ds with
  |some f,some g=>bif Nat.beq n f.length && Nat.beq k g.length && Nat.ble 2 k && Nat.ble k 1000 && Nat.ble n 1000 && Nat.ble k n then
      (match aNk g k (f.take (n+1-k)).reverse (f.drop (n+1-k)) []with
        |some (Q,R)=>some (.tup [.sl (n+1-k) (ec Q),.sl (k-1) (ec (R.take (k-1)))])
        |none=>none)else none
  |_,_=>none
 |_=>none
theorem bB4 {args:List LV}{r:LV}(h:aTk args=some r):PureGood Tryz.prog 162 args r:=by
 unfold aTk at h
 split at h
 ·rename_i n cs k ds
  split at h
  ·rename_i f g hf hg
   obtain⟨rfl,of⟩:=aC2 hf
   obtain⟨rfl,og⟩:=aC2 hg
   generalize hcond:(Nat.beq n f.length && Nat.beq k g.length && Nat.ble 2 k && Nat.ble k 1000 && Nat.ble n 1000 && Nat.ble k n)=q at h
   cases q with
   |false=>rw[cond_false]at h;cases h
   |true=>
    rw[cond_true]at h
    simp only[Bool.and_eq_true,Nat.ble_eq,Nat.beq_eq]at hcond
    obtain⟨⟨⟨⟨⟨rfl,rfl⟩,c1⟩,c2⟩,c3⟩,c4⟩:=hcond
    split at h
    · rename_i Q R hd
      cases h
      have hlo:(f.take (f.length+1-g.length)).reverse.length=f.length+1-g.length:=by rw[List.length_reverse,List.length_take];omega
      have hhi:(f.drop (f.length+1-g.length)).length=g.length-1:=by rw[List.length_drop];omega
      have e1:=aQw (by omega) hd (fun z hz=>of z (List.mem_of_mem_take (List.mem_reverse.1 hz))) (fun z hz=>of z (List.mem_of_mem_drop hz)) (by omega)
      rw[hlo,List.reverse_reverse,List.take_append_drop,List.append_nil]at e1
      exact aFa f g Q R _ of og c1 c2 c3 (by omega) (by omega) e1
    · cases h
  ·cases h
 ·cases h
def aTl (f:FuncId) (args:List LV):Option LV:=bif Nat.beq f 162 then aTk args else cFm f args
theorem aFb:fR Tryz.prog aTl:=aU (f0:=162) (g:=aTk) (fun _ _ h=>bB4 h) bIh
end
section
open Go Go.Lg Go.Num
def cK1:List (List Int):=[[],[-1,1],[1,1],[1,1,1],[1,0,1],[1,1,1,1,1],[1,-1,1],[1,1,1,1,1,1,1],[1,0,0,0,1],[1,0,0,1,0,0,1],[1,-1,1,-1,1],[1,1,1,1,1,1,1,1,1,1,1],[1,0,-1,0,1],[1,1,1,1,1,1,1,1,1,1,1,1,1],[1,-1,1,-1,1,-1,1],[1,-1,0,1,-1,1,0,-1,1],[1,0,0,0,0,0,0,0,1],[],[1,0,0,-1,0,0,1],[],[1,0,-1,0,1,0,-1,0,1],[1,-1,0,1,-1,0,1,0,-1,1,0,-1,1],[1,-1,1,-1,1,-1,1,-1,1,-1,1],[],[1,0,0,0,-1,0,0,0,1],[],[1,-1,1,-1,1,-1,1,-1,1,-1,1,-1,1],[],[1,0,-1,0,1,0,-1,0,1,0,-1,0,1],[],[1,1,0,-1,-1,-1,0,1,1],[],[],[],[],[],[1,0,0,0,0,0,-1,0,0,0,0,0,1],[],[],[],[],[],[1,1,0,-1,-1,0,1,0,-1,-1,0,1,1]]
def dF (n:Nat):List Int:=cK1.getD n []
def aCi:List LV→Option (List Int)
 |[]=>some []
 |a::b::cs=>match rdI a b,aCi cs with
  |some z,some l=>bif lV z then some (z::l)else none
  |_,_=>none
 |_=>none
def mB (l:List Int):List LV:=l.flatMap wrI
theorem lC:∀ {cs:List LV}{l:List Int},aCi cs=some l→cs=mB l
 |[],l,h=>by cases h;rfl
 |[_],l,h=>by cases h
 |a::b::cs,l,h=>by
  unfold aCi at h
  split at h
  · rename_i z l' h1 h2
    cases hb:lV z with
    |false=>rw[hb,cond_false]at h;cases h
    |true=>
     rw[hb,cond_true]at h
     cases h
     obtain⟨rfl,rfl⟩:=jT h1
     have e:=pC (aA7 hb)
     rw[aW]at e
     injection e with e
     show _=wrI z++mB l'
     rw[← lC h2,e]
     rfl
  · cases h
def eqZ:List Int→List Int→Bool
 |[],[]=>true
 |a::l,b::m=>(a==b) && eqZ l m
 |_,_=>false
theorem uC:∀ {l m:List Int},eqZ l m=true→l=m
 |[],[],_=>rfl
 |[],_::_,h=>by cases h
 |_::_,[],h=>by cases h
 |a::l,b::m,h=>by
  unfold eqZ at h
  rw[Bool.and_eq_true]at h
  rw[eq_of_beq h.1,uC h.2]
noncomputable def bN8 (n:Nat):Bool:=match evo aTl 48 [.lit (.int .i64 (.ofNat n))]with
 |some (.tup [.agg [.sl k cs],.lit (.int .i64 (.ofNat e))])=>match aCi cs with
  |some l=>Nat.beq k (dF n).length && Nat.beq e 0 && eqZ l (dF n)
  |none=>false
 |_=>false
noncomputable def bN9 (n:Nat):Bool:=match evo aTl 71 [.lit (.int .i64 (.ofNat n))]with
 |some (.sl k cs)=>match aWz cs with
  |some l=>Nat.beq k (dF n).length && eqZ l (dF n)
  |none=>false
 |_=>false
noncomputable def eY (n:Nat):Bool:=bN8 n && bN9 n
def qS:List Nat:=[1,2,3,4,5,6,7,8,9,10,11,12,13,14,15,16,18,20,21,22,24,26,28,30,36,42]
end
section
open Go Go.Lg Go.Num
theorem cFn:eY 42=true:=by kernel_rfl
theorem cFo:eY 30=true:=by kernel_rfl
theorem cFp:eY 28=true:=by kernel_rfl
theorem cFq:eY 24=true:=by kernel_rfl
theorem cFr:eY 21=true:=by kernel_rfl
theorem cFs:eY 18=true:=by kernel_rfl
theorem cFt:eY 15=true:=by kernel_rfl
theorem cFu:eY 12=true:=by kernel_rfl
theorem cFv:eY 10=true:=by kernel_rfl
theorem cK2:eY 8=true:=by kernel_rfl
theorem cK3:eY 6=true:=by kernel_rfl
theorem cK4:eY 4=true:=by kernel_rfl
theorem cK5:eY 2=true:=by kernel_rfl
end
section
open Go Go.Lg Go.Num
theorem cFw:eY 36=true:=by kernel_rfl
theorem cFx:eY 26=true:=by kernel_rfl
theorem cFy:eY 22=true:=by kernel_rfl
theorem cFz:eY 20=true:=by kernel_rfl
theorem cF0:eY 16=true:=by kernel_rfl
theorem cF1:eY 14=true:=by kernel_rfl
theorem cF2:eY 13=true:=by kernel_rfl
theorem cF3:eY 11=true:=by kernel_rfl
theorem cK6:eY 9=true:=by kernel_rfl
theorem cK7:eY 7=true:=by kernel_rfl
theorem cK8:eY 5=true:=by kernel_rfl
theorem cK9:eY 3=true:=by kernel_rfl
theorem cLa:eY 1=true:=by kernel_rfl
end
section
open Go Go.Lg Go.Num
theorem bB5:∀ n∈qS,eY n=true:=by
 simp only[qS,List.forall_mem_cons]
 exact⟨cLa,cK5,cK9,cK4,cK8,cK3,cK7,cK2,cK6,cFv,cF3,cFu,cF2,cF1,cFt,cF0,cFs,cFz,cFr,cFy,cFq,cFx,cFp,cFo,cFw,cFn,by simp⟩
theorem oE {n:Nat}(h:n∈qS):PureGood Tryz.prog 48 [i64 n] (.tup [.agg [.sl (dF n).length (mB (dF n))],i64 0]):=by
 have h:=bB5 n h
 unfold eY at h
 rw[Bool.and_eq_true]at h
 have h:=h.1
 unfold bN8 at h
 split at h
 ·rename_i k cs e h1
  split at h
  ·rename_i l hl
   rw[Bool.and_eq_true,Bool.and_eq_true]at h
   have e1:=Nat.eq_of_beq_eq_true h.1.1
   have e2:=Nat.eq_of_beq_eq_true h.1.2
   have e3:=uC h.2
   subst e1
   subst e2
   subst e3
   rw[← lC hl]
   exact dE aFb h1
  ·cases h
 ·cases h
theorem aQx {n:Nat}(h:n∈qS):PureGood Tryz.prog 71 [i64 n] (.sl (dF n).length (ec (dF n))):=by
 have h:=bB5 n h
 unfold eY at h
 rw[Bool.and_eq_true]at h
 have h:=h.2
 unfold bN9 at h
 split at h
 ·rename_i k cs h1
  split at h
  ·rename_i l hl
   rw[Bool.and_eq_true]at h
   have e1:=Nat.eq_of_beq_eq_true h.1
   have e3:=uC h.2
   subst e1
   subst e3
   rw[← (aC2 hl).1]
   exact dE aFb h1
  ·cases h
 ·cases h
def aTm (args:List LV):Option LV:=match args with
 |[.lit (.int .i64 (.ofNat n))]=>bif qS.elem n then some (.tup [.agg [.sl (dF n).length (mB (dF n))],.lit (.int .i64 0)])else none
 |_=>none
def aTn (args:List LV):Option LV:=match args with
 |[.lit (.int .i64 (.ofNat n))]=>bif qS.elem n then some (.sl (dF n).length (ec (dF n)))else none
 |_=>none
theorem bB6 {args:List LV}{r:LV}(h:aTm args=some r):PureGood Tryz.prog 48 args r:=by
 unfold aTm at h
 split at h
 ·rename_i n
  cases hb:qS.elem n with
  |true=>rw[hb]at h;cases h;exact oE (List.elem_iff.1 hb)
  |false=>rw[hb]at h;cases h
 ·cases h
theorem bB7 {args:List LV}{r:LV}(h:aTn args=some r):PureGood Tryz.prog 71 args r:=by
 unfold aTn at h
 split at h
 ·rename_i n
  cases hb:qS.elem n with
  |true=>rw[hb]at h;cases h;exact aQx (List.elem_iff.1 hb)
  |false=>rw[hb]at h;cases h
 ·cases h
def cF4 (f:FuncId) (args:List LV):Option LV:=bif Nat.beq f 48 then aTm args else bif Nat.beq f 71 then aTn args else aTl f args
theorem bIj:fR Tryz.prog cF4:=by
 intro f args r h
 exact aU (f0:=48) (g:=aTm) (fun _ _ h=>bB6 h) (aU (f0:=71) (g:=aTn) (fun _ _ h=>bB7 h) aFb) f args r h
end
section
open Go Go.Lg Go.Num
def z4v:LV:= .agg [.lit (.bool false),.sl 0 [],.lit (.bool false),.sl 0 []]
theorem aQy:PureGood Tryz.prog 138 [z4v] (bF 0):=by
 have h:PureGood Tryz.prog 138 [z4v] (wrQ 0):=dE aTc (by kernel_rfl)
 rwa [aAv (by decide+kernel)]at h
def ov (f:List (Option Rat)):List Rat:=f.map fun o=>o.getD 0
theorem aA9 (f:List (Option Rat)):(ov f).length=f.length:=by simp[ov]
theorem bB8 (f:List (Option Rat)) (i:Nat):(ov f).getD i 0=(f.getD i none).getD 0:=by
 simp only[ov,List.getD,List.getElem?_map]
 cases f[i]? <;>rfl
attribute [local irreducible] lrun lwp exThen exBlk keep goodPost sg mg dL oc fW op
theorem aH0 (f:List (Option Rat)) (hl:f.length≤1000) (hf:∀ q,some q∈f→lq q≤100000):PureGood Tryz.prog 219 [.sl f.length (op f)] (encF (bQ (ov f))):=by
 have ht:=gZ (ov f) (by rw[aA9];omega)
 have hg:=bB8 f
 have hsl:=aA9 f
 have gm:=aQy
 rw[bD,hsl]at ht
 have hopl:=op_len f
 generalize ov f=S at*
 unfold z4v at gm
 rw[aH]at gm
 refine aA bC Tryz.func219 rfl (by decide) (nt:=24) rfl (rs:=[.tmp 2]) rfl (aZ rfl) ?_
 refine cW hopl ?_
 refine aI (α:={k:Nat // k≤f.length}) (fun k=>st 24 (lk [(0,.sl f.length (op f)),(2,nilL),(3,.own 0 0 f.length 4),(9,.sl f.length (op f)),(10,i64 f.length),(11,i64 k.1)]) (cP [(0,⟨47,fW S k.1,false⟩)]) 1) (fun k=>f.length-k.1) ⟨0,by omega⟩ ?_ ?_
 ·(refine Sub.heap1 3 ?_ (by simp only[aG,dg,renL,renLs,simprocAttr,bl,i64,smT,hopl];exact rfl) ?_ ?_;all_goals(first |exact aE _ |with_reducible rfl |(simp only[aG,dg,renL,renLs,simprocAttr,bl,i64,smT,hopl])|skip))
  ·rw[rW,hsl];rfl
  ·exact eX _ _
 ·rintro⟨k,hk⟩
  simp only[st]
  by_cases h:k<f.length
  ·have htd:=op_td h
   have hgk:=hg k
   have hfl:=vG (f:=S) (k:=k) (by omega)
   have hst:=rX (f:=S) (k:=k) (by omega) rfl
   have hmem:f.getD k none∈f:=by
    have:f.getD k none=f[k]:=by simp[h]
    rw[this]
    exact List.getElem_mem h
   rw[hgk]at hst
   generalize fW S k=L at*
   generalize f.getD k none=o at*
   cases o with
   |none=>
    rw[oqp_none]at htd
    simp only[Option.getD_none]at hst
    refine cW (nd htd hopl) ?_
    refine⟨⟨k+1,by omega⟩,?_,by simp only;omega⟩
    (refine Sub.heap1 0 ?_ (by simp only[aG,dg,renL,renLs,simprocAttr,bl,i64,smT];exact rfl) ?_ ?_;all_goals(first |exact aE _ |with_reducible rfl |(simp only[aG,dg,renL,renLs,simprocAttr,bl,i64,smT])|skip))
    · exact hst
    · exact eX _ _
   |some q=>
    have hn:=gV q (by have:=hf q hmem;omega)
    rw[oqp_some]at htd
    simp only[Option.getD_some]at hst
    rw[aH]at hn
    refine cW (nd htd hopl) ?_
    refine⟨⟨k+1,by omega⟩,?_,by simp only;omega⟩
    (refine Sub.heap1 0 ?_ (by simp only[aG,dg,renL,renLs,simprocAttr,bl,i64,smT];exact rfl) ?_ ?_;all_goals(first |exact aE _ |with_reducible rfl |(simp only[aG,dg,renL,renLs,simprocAttr,bl,i64,smT])|skip))
    · exact hst
    · exact eX _ _
  ·obtain rfl:k=f.length:=by omega
   have hfa:fW S f.length=qc S:=by rw[← hsl];exact vF S
   rw[hfa]
   refine dM ?_
   refine zR1 ?_
   refine zV2 ?_
   rw[bD]
   simp(disch:=first|omega|exact kD rfl|exact kX rfl) only[smY,simprocAttr,bl,i64,smT]
end
section
open Go Go.Lg Go.Num
attribute [local irreducible] lrun lwp exThen exBlk keep goodPost ec
theorem qM (n d:Nat) (hd1:1≤d) (hd:d≤1000000000) (hn:n≤1000000000000):PureGood Tryz.prog 146 [i64 n,i64 d] (.agg [.lit (.bool false),i64 ((n % d / Nat.gcd (n % d) d:Nat):Int),i64 ((d / Nat.gcd (n % d) d:Nat):Int)]):=by
 have hlt:=Nat.mod_lt n hd1
 have gm:PureGood Tryz.prog 155 [i64 n,i64 d] (i64 ((n % d:Nat):Int)):=by
  have e:(n:Int).tmod d=((n % d:Nat):Int):=by rw[Int.tmod_eq_emod_of_nonneg (by omega)];rfl
  have e2:¬((n % d:Nat):Int)<0:=by omega
  generalize hr:n % d=r at*
  simp only[i64]
  refine aA bC Tryz.func155 rfl (by decide) (nt:=15) rfl (rs:=[.tmp 4]) rfl (aZ rfl) ?_
  refine aAf (nd e hr) ?_
  exact aPh (nd e hr)
 have gg:=nY ((n % d:Nat):Int) (d:Int) (by omega) (by omega)
 have hg:Int.gcd ((n % d:Nat):Int) (d:Int)=Nat.gcd (n % d) d:=rfl
 rw[hg]at gg
 have hgp:0<Nat.gcd (n % d) d:=Nat.gcd_pos_of_pos_right _ hd1
 have hgl:Nat.gcd (n % d) d≤d:=Nat.le_of_dvd hd1 (Nat.gcd_dvd_right _ _)
 generalize n % d=r at*
 generalize Nat.gcd r d=g at*
 have q1:((r:Int)).tdiv (g:Int)=((r / g:Nat):Int):=by rw[Int.tdiv_eq_ediv_of_nonneg (by omega)];rfl
 have q2:((d:Int)).tdiv (g:Int)=((d / g:Nat):Int):=by rw[Int.tdiv_eq_ediv_of_nonneg (by omega)];rfl
 have b1:r / g≤r:=Nat.div_le_self _ _
 have b2:d / g≤d:=Nat.div_le_self _ _
 have hg0:¬(g:Int)=0:=by omega
 generalize hx:r / g=x at*
 generalize hy:d / g=y at*
 simp only[i64]at*
 refine aA bC Tryz.func146 rfl (by decide) (nt:=19) rfl (rs:=[.cell 4 89]) rfl (aZ rfl) ?_
 refine aAf (nd q1 (nd q2 (nd hx hy))) ?_
 exact aPh (nd q1 (nd q2 (nd hx hy)))
theorem aGi (a b c d:Nat) (ha:a≤1000) (hb:1≤b∧b≤1000) (hc:c≤1000) (hd:1≤d∧d≤1000):PureGood Tryz.prog 154 [.agg [.lit (.bool false),i64 a,i64 b],.agg [.lit (.bool false),i64 c,i64 d]] (.agg [.lit (.bool false),i64 (((a*d+c*b) % (b*d) / Nat.gcd ((a*d+c*b) % (b*d)) (b*d):Nat):Int),i64 ((b*d / Nat.gcd ((a*d+c*b) % (b*d)) (b*d):Nat):Int)]):=by
 have m1:a*d≤1000*1000:=Nat.mul_le_mul (by omega) (by omega)
 have m2:c*b≤1000*1000:=Nat.mul_le_mul (by omega) (by omega)
 have m3:b*d≤1000*1000:=Nat.mul_le_mul (by omega) (by omega)
 have m4:1≤b*d:=Nat.mul_pos hb.1 hd.1
 have g:=qM (a*d+c*b) (b*d) m4 (by omega) (by omega)
 have e1:(a:Int)*(d:Int)=((a*d:Nat):Int):=by simp
 have e2:(c:Int)*(b:Int)=((c*b:Nat):Int):=by simp
 have e3:(b:Int)*(d:Int)=((b*d:Nat):Int):=by simp
 have e4:((a*d:Nat):Int)+((c*b:Nat):Int)=((a*d+c*b:Nat):Int):=by simp
 generalize a*d=ad at*
 generalize c*b=cb at*
 generalize b*d=bd at*
 generalize hs:ad+cb=s at*
 generalize s % bd / Nat.gcd (s % bd) bd=x at*
 generalize bd / Nat.gcd (s % bd) bd=y at*
 simp only[i64]at*
 refine aA bC Tryz.func154 rfl (by decide) (nt:=29) rfl (rs:=[.cell 4 89]) rfl (aZ rfl) ?_
 refine aAf (nd e1 (nd e2 (nd e3 e4))) ?_
 exact aPh (nd e1 (nd e2 (nd e3 e4)))
def aTo (args:List LV):Option LV:=match args with
 |[.lit (.int .i64 (.ofNat n)),.lit (.int .i64 (.ofNat d))]=>bif Nat.ble 1 d && Nat.ble d 1000000000 && Nat.ble n 1000000000000 then eB (n % d) fun r=>eB (Nat.gcd r d) fun g=>eB (r / g) fun x=>eB (d / g) fun y=>some (.agg [.lit (.bool false),.lit (.int .i64 (.ofNat x)),.lit (.int .i64 (.ofNat y))])else none
 |_=>none
theorem bB9 {args:List LV}{r:LV}(h:aTo args=some r):PureGood Tryz.prog 146 args r:=by
 unfold aTo at h
 split at h
 ·rename_i n d
  cases hb:(Nat.ble 1 d && Nat.ble d 1000000000 && Nat.ble n 1000000000000)with
  |false=>rw[hb,cond_false]at h;cases h
  |true=>
   rw[hb,cond_true,cR,cR,cR,cR]at h
   cases h
   simp only[Bool.and_eq_true,Nat.ble_eq]at hb
   exact qM n d hb.1.1 hb.1.2 hb.2
 ·cases h
def aTp (args:List LV):Option LV:=match args with
 |[.agg [.lit (.bool false),.lit (.int .i64 (.ofNat a)),.lit (.int .i64 (.ofNat b))],.agg [.lit (.bool false),.lit (.int .i64 (.ofNat c)),.lit (.int .i64 (.ofNat d))]]=>bif Nat.ble a 1000 && (Nat.ble 1 b && Nat.ble b 1000) && Nat.ble c 1000 && (Nat.ble 1 d && Nat.ble d 1000)then eB (b*d) fun m=>eB ((a*d+c*b) % m) fun r=>eB (Nat.gcd r m) fun g=>eB (r / g) fun x=>eB (m / g) fun y=>some (.agg [.lit (.bool false),.lit (.int .i64 (.ofNat x)),.lit (.int .i64 (.ofNat y))])else none
 |_=>none
theorem bCa {args:List LV}{r:LV}(h:aTp args=some r):PureGood Tryz.prog 154 args r:=by
 unfold aTp at h
 split at h
 ·rename_i a b c d
  cases hb:(Nat.ble a 1000 && (Nat.ble 1 b && Nat.ble b 1000) && Nat.ble c 1000 && (Nat.ble 1 d && Nat.ble d 1000))with
  |false=>rw[hb,cond_false]at h;cases h
  |true=>
   rw[hb,cond_true,cR,cR,cR,cR,cR]at h
   cases h
   simp only[Bool.and_eq_true,Nat.ble_eq]at hb
   exact aGi a b c d hb.1.1.1 hb.1.1.2 hb.1.2 hb.2
 ·cases h
def bIk (f:FuncId) (args:List LV):Option LV:=bif Nat.beq f 146 then aTo args else bif Nat.beq f 154 then aTp args else cF4 f args
theorem aJ1:fR Tryz.prog bIk:=by
 intro f args r h
 exact aU (f0:=146) (g:=aTo) (fun _ _ h=>bB9 h) (aU (f0:=154) (g:=aTp) (fun _ _ h=>bCa h) bIj) f args r h
end
section
open Go Go.Lg Go.Num
theorem mD (l:List Int) (i:Nat):(rz l).getD i 0=((l.getD i 0:Int):Rat):=by
 simp only[rz,List.getD,List.getElem?_map]
 cases l[i]? <;>rfl
theorem bCb (l:List Int) (i:Nat) (z:Int):(rz l).set i (z:Rat)=rz (l.set i z):=by simp[rz,List.map_set]
def aMn (a:Int):List Int→List Int→Nat→Option (List Int)
 |[],o,_=>some o
 |b::g,o,i=>bif Nat.beq b.natAbs 0 then aMn a g o (Nat.succ i)else iI (a*b) fun m=>iI (o.getD i 0+m) fun v=>bif lV m && lV v then aMn a g (o.set i v) (Nat.succ i)else none
theorem aJ2 {a:Int}:∀ {g o r:List Int}{i:Nat},aMn a g o i=some r→yY (a:Rat) (rz g) (rz o) i=some (rz r)
 |[],o,r,i,h=>by cases h;rfl
 |b::g,o,r,i,h=>by
  unfold aMn at h
  rw[cV,cV]at h
  show yY (a:Rat) ((b:Rat)::rz g) _ _=_
  rw[yY]
  cases hb:Nat.beq b.natAbs 0 with
  |true=>
   rw[hb,cond_true]at h
   have:=Nat.eq_of_beq_eq_true hb
   have hz:b=0:=by omega
   rw[if_pos (by rw[hz];rfl)]
   exact aJ2 h
  |false=>
   rw[hb,cond_false]at h
   have hz:(b:Rat)≠0:=fun e=>by
     have:b=0:=Rat.intCast_inj.1 (e.trans Rat.intCast_zero.symm)
     rw[this]at hb
     cases hb
   rw[if_neg hz,mD,← Rat.intCast_mul,← Rat.intCast_add]
   cases ht:(lV (a*b) && lV (o.getD i 0+a*b))with
   |false=>rw[ht,cond_false]at h;cases h
   |true=>
    rw[ht,cond_true]at h
    rw[Bool.and_eq_true]at ht
    rw[hO ht.1,hO ht.2,bCb]
    exact aJ2 h
def aMo (g:List Int):List Int→List Int→Nat→Option (List Int)
 |[],o,_=>some o
 |a::f,o,i=>bif Nat.beq a.natAbs 0 then aMo g f o (Nat.succ i)else match aMn a g o i with
  |some o'=>aMo g f o' (Nat.succ i)
  |none=>none
theorem aJ3 {g:List Int}:∀ {f o r:List Int}{i:Nat},aMo g f o i=some r→aA8 (rz g) (rz f) (rz o) i=some (rz r)
 |[],o,r,i,h=>by cases h;rfl
 |a::f,o,r,i,h=>by
  unfold aMo at h
  show aA8 (rz g) ((a:Rat)::rz f) _ _=_
  rw[aA8]
  cases hb:Nat.beq a.natAbs 0 with
  |true=>
   rw[hb,cond_true]at h
   have:=Nat.eq_of_beq_eq_true hb
   have hz:a=0:=by omega
   rw[if_pos (by rw[hz];rfl)]
   exact aJ3 h
  |false=>
   rw[hb,cond_false]at h
   have hz:(a:Rat)≠0:=fun e=>by
     have:a=0:=Rat.intCast_inj.1 (e.trans Rat.intCast_zero.symm)
     rw[this]at hb
     cases hb
   rw[if_neg hz]
   split at h
   · rename_i o' ho
     rw[aJ2 ho]
     exact aJ3 h
   · cases h
theorem aNo {l:List Int}(h:∀ z∈l,lV z=true):mK (rz l):=fun c hc=>by
 obtain⟨z,hz,rfl⟩:=List.mem_map.1 hc
 exact hO (h z hz)
def aTq (args:List LV):Option LV:=match args with
 |[.sl n cs,.sl k ds]=>match aGg n cs,aGg k ds with
  |some f,some g=>bif Nat.ble 1 n && Nat.ble 1 k && Nat.ble n 1000 && Nat.ble k 1000 then(match aMo g f (List.replicate (n+k-1) 0) 0 with
   |some R=>bif aGh R && Nat.ble R.length 10000 then some (aNl (bR R))else none
   |none=>none)else none
  |_,_=>none
 |_=>none
theorem bCc {args:List LV}{r:LV}(h:aTq args=some r):PureGood Tryz.prog 217 args r:=by
 unfold aTq at h
 split at h
 ·rename_i n cs k ds
  split at h
  ·rename_i f g hf hg
   obtain⟨rfl,rfl,f3⟩:=pF hf
   obtain⟨rfl,rfl,g3⟩:=pF hg
   generalize hcond:(Nat.ble 1 f.length && Nat.ble 1 g.length && Nat.ble f.length 1000 && Nat.ble g.length 1000)=q at h
   cases q with
   |false=>rw[cond_false]at h;cases h
   |true=>
    rw[cond_true]at h
    simp only[Bool.and_eq_true,Nat.ble_eq]at hcond
    obtain⟨⟨⟨c1,c2⟩,c3⟩,c4⟩:=hcond
    split at h
    · rename_i R hR
      cases hall:(aGh R && Nat.ble R.length 10000)with
      |false=>rw[hall,cond_false]at h;cases h
      |true=>
       rw[hall,cond_true]at h
       cases h
       rw[Bool.and_eq_true,Nat.ble_eq]at hall
       have hR1:=List.all_eq_true.1 hall.1
       have hm:=aJ3 hR
       have hrep:rz (List.replicate (f.length+g.length-1) 0)=List.replicate (f.length+g.length-1) (0:Rat):=by simp[rz]
       rw[hrep]at hm
       have:=aQu (rz f) (rz g) (rz R) (aNo f3) (aNo g3) (by rw[bX];exact c1) (by rw[bX];exact c2) (by rw[bX];exact c3) (by rw[bX];exact c4) (by rw[bX,bX];exact hm) (by rw[bX];exact hall.2)
       rw[vI (fun z hz=>hR1 z (qL hz)),oC]
       rw[bD (rz f),bD (rz g),bX,bX]at this
       exact this
    · cases h
  ·cases h
 ·cases h
def bCd:Nat→List LV→Option (List (Option Int))
 |0,[]=>some []
 |k+1,a::b::c:: .sl 0 []::r=>match a,b,c,bCd k r with
  | .lit (.bool false),.sl 0 [],.lit (.bool false),some l=>some (none::l)
  |_,_,_,_=>none
 |k+1,a::b::c::d::r=>match rdI a b,rdI c d,bCd k r with
  |some z,some (.ofNat e),some l=>bif Nat.beq e 1 && lV z then some (some z::l)else none
  |_,_,_=>none
 |_,_=>none
def roz (l:List (Option Int)):List (Option Rat):=l.map fun o=>o.map fun(z:Int)=>(z:Rat)
theorem aTr (l:List (Option Int)):(roz l).length=l.length:=by simp[roz]
theorem bIl:∀ {k:Nat}{cs:List LV}{l:List (Option Int)},bCd k cs=some l→cs=op (roz l)∧k=l.length∧∀ z,some z∈l→lV z=true:=by
 intro k
 induction k with
 |zero=>
  intro cs l h
  cases cs with
  |nil=>cases h;exact⟨rfl,rfl,by simp⟩
  |cons _ _=>cases h
 |succ k ih=>
  intro cs l h
  unfold bCd at h
  split at h
  · rename_i h0;cases h0
  · rename_i k' a b c r he
    cases he
    split at h
    · rename_i l' h3
      cases h
      obtain⟨e5,e6,e7⟩:=ih h3
      refine⟨?_,by simp[e6],fun z hz=>e7 z (by simpa using hz)⟩
      rw[e5]
      rfl
    · cases h
  · rename_i k' a b c d r _ he
    cases he
    split at h
    · rename_i z e l' h1 h2 h3
      cases hb:(Nat.beq e 1 && lV z)with
      |false=>rw[hb,cond_false]at h;cases h
      |true=>
       rw[hb,cond_true]at h
       cases h
       rw[Bool.and_eq_true]at hb
       have he:=Nat.eq_of_beq_eq_true hb.1
       subst he
       obtain⟨e1,e2⟩:=jT h1
       obtain⟨e3,e4⟩:=jT h2
       obtain⟨e5,e6,e7⟩:=ih h3
       refine⟨?_,by simp[e6],fun x hx=> ?_⟩
       · show _=cZ (z:Rat)++op (roz l')
         rw[← e5,xI,e1,e2,e3,e4]
         rfl
       · rcases List.mem_cons.1 hx with hx |hx
         · cases hx;exact hb.2
         · exact e7 x hx
    · cases h
  · cases h
def ozv (f:List (Option Int)):List Int:=f.map fun o=>o.getD 0
theorem bVr (f:List (Option Int)):ov (roz f)=rz (ozv f):=by
 simp only[ov,roz,rz,ozv,List.map_map]
 apply List.map_congr_left
 intro o _
 cases o <;>rfl
def bCe (args:List LV):Option LV:=match args with
 |[.sl n cs]=>match bCd n cs with
  |some f=>bif Nat.ble n 1000 && aGh (ozv f)then some (aNl (bR (ozv f)))else none
  |none=>none
 |_=>none
theorem bCf {args:List LV}{r:LV}(h:bCe args=some r):PureGood Tryz.prog 219 args r:=by
 unfold bCe at h
 split at h
 ·rename_i n cs
  split at h
  ·rename_i f hf
   obtain⟨rfl,rfl,h3⟩:=bIl hf
   cases hb:(Nat.ble f.length 1000 && aGh (ozv f))with
   |false=>rw[hb,cond_false]at h;cases h
   |true=>
    rw[hb,cond_true]at h
    cases h
    rw[Bool.and_eq_true,Nat.ble_eq]at hb
    have hR1:=List.all_eq_true.1 hb.2
    have:=aH0 (roz f) (by rw[aTr];exact hb.1) (fun q hq=>by
      obtain⟨o,ho,he⟩:=List.mem_map.1 hq
      cases o with
      |none=>cases he
      |some z=>
       injection he with he
       subst he
       have:=eG (hO (h3 z ho))
       show lq (z:Rat)≤100000
       omega)
    rw[vI (fun z hz=>hR1 z (qL hz)),oC,← bVr]
    rw[aTr]at this
    exact this
  ·cases h
 ·cases h
def aTs (args:List LV):Option LV:=match aE7 args with
 |some r=>some r
 |none=>bCe args
theorem bCg {args:List LV}{r:LV}(h:aTs args=some r):PureGood Tryz.prog 219 args r:=by
 unfold aTs at h
 split at h
 ·rename_i r' hr
  cases h
  exact aE8 (fun f h1 h2=>jJ f (by omega) (fun c hc=>by have:=h2 c hc;omega)) hr
 ·exact bCf h
noncomputable def bOa (n:Nat):Bool:=(match evo bIk 215 [.sl (dF n).length (mB (dF n))]with
 |some (.sl k cs)=>match aCi cs with
  |some l=>Nat.beq k (dF n).length && eqZ l (dF n)
  |none=>false
 |_=>false) && (match evo bIk 214 [.sl (dF n).length (mB (dF n))]with
 |some (.sl k cs)=>match aGg k cs with
  |some l=>eqZ l (dF n)
  |none=>false
 |_=>false)
theorem bVs:qS.all bOa=true:=by kernel_rfl
theorem aJ4 {n:Nat}(h:n∈qS):PureGood Tryz.prog 215 [.sl (dF n).length (mB (dF n))] (.sl (dF n).length (mB (dF n)))∧PureGood Tryz.prog 214 [.sl (dF n).length (mB (dF n))] (encF (rz (dF n))):=by
 have h:=List.all_eq_true.1 bVs n h
 unfold bOa at h
 rw[Bool.and_eq_true]at h
 obtain⟨h,h'⟩:=h
 constructor
 ·split at h
  ·rename_i k cs h1
   split at h
   ·rename_i l hl
    rw[Bool.and_eq_true]at h
    have e1:=Nat.eq_of_beq_eq_true h.1
    have e3:=uC h.2
    subst e1
    subst e3
    have e4:=lC hl
    rw[← e4]at h1⊢
    exact dE aJ1 h1
   ·cases h
  ·cases h
 ·split at h'
  ·rename_i k cs h1
   split at h'
   ·rename_i l hl
    have e3:=uC h'
    obtain⟨rfl,rfl,_⟩:=pF hl
    subst e3
    rw[bD,bX]
    exact dE aJ1 h1
   ·cases h'
  ·cases h'
def bCh (l:List Int):Option Nat:=qS.find? fun n=>eqZ l (dF n)
theorem aNp {l:List Int}{n:Nat}(h:bCh l=some n):n∈qS∧l=dF n:=⟨List.mem_of_find?_eq_some h,uC (by simpa using List.find?_some h)⟩
def aTt (args:List LV):Option LV:=match args with
 |[.sl k cs]=>match aCi cs with
  |some l=>match bCh l with
   |some _=>bif Nat.beq k l.length then some (.sl k cs)else none
   |none=>none
  |none=>none
 |_=>none
def aTu (args:List LV):Option LV:=match args with
 |[.sl k cs]=>match aCi cs with
  |some l=>match bCh l with
   |some _=>bif Nat.beq k l.length && aGh l then some (aNl l)else none
   |none=>none
  |none=>none
 |_=>none
theorem bCi {args:List LV}{r:LV}(h:aTt args=some r):PureGood Tryz.prog 215 args r:=by
 unfold aTt at h
 split at h
 ·rename_i k cs
  split at h
  ·rename_i l hl
   split at h
   ·rename_i n hn
    obtain⟨m1,rfl⟩:=aNp hn
    cases hb:Nat.beq k (dF n).length with
    |false=>rw[hb,cond_false]at h;cases h
    |true=>
     rw[hb,cond_true]at h
     cases h
     have e1:=Nat.eq_of_beq_eq_true hb
     subst e1
     rw[lC hl]
     exact(aJ4 m1).1
   ·cases h
  ·cases h
 ·cases h
theorem bCj {args:List LV}{r:LV}(h:aTu args=some r):PureGood Tryz.prog 214 args r:=by
 unfold aTu at h
 split at h
 ·rename_i k cs
  split at h
  ·rename_i l hl
   split at h
   ·rename_i n hn
    obtain⟨m1,rfl⟩:=aNp hn
    cases hb:(Nat.beq k (dF n).length && aGh (dF n))with
    |false=>rw[hb,cond_false]at h;cases h
    |true=>
     rw[hb,cond_true]at h
     cases h
     rw[Bool.and_eq_true]at hb
     have e1:=Nat.eq_of_beq_eq_true hb.1
     subst e1
     rw[lC hl,vI (List.all_eq_true.1 hb.2)]
     exact(aJ4 m1).2
   ·cases h
  ·cases h
 ·cases h
def cF7 (f:FuncId) (args:List LV):Option LV:=bif Nat.beq f 217 then aTq args else bif Nat.beq f 219 then aTs args else bif Nat.beq f 215 then aTt args else bif Nat.beq f 214 then aTu args else bIk f args
theorem bIm:fR Tryz.prog cF7:=by
 intro f args r h
 exact aU (f0:=217) (g:=aTq) (fun _ _ h=>bCc h) (aU (f0:=219) (g:=aTs) (fun _ _ h=>bCg h) (aU (f0:=215) (g:=aTt) (fun _ _ h=>bCi h) (aU (f0:=214) (g:=aTu) (fun _ _ h=>bCj h) aJ1))) f args r h
end
section
open Go Go.Lg Go.Num
def okV (n:Nat) (v:List Nat):Bool:=Nat.beq v.length (od n).length && v.all fun e=>Nat.ble e 60
theorem aJ5 {n:Nat}{v:List Nat}(h:okV n v=true):v.length=(od n).length∧∀ i,v.getD i 0≤60:=by
 unfold okV at h
 rw[Bool.and_eq_true,Nat.beq_eq,List.all_eq_true]at h
 exact⟨h.1,fun i=>aC0 (fun a ha=>Nat.le_of_ble_eq_true (h.2 a ha))⟩
def bVt (root q a:Nat):Nat:=bif Nat.beq (q % 2) 0 && Nat.beq (root+1) q then a % 4 / 2 else lgL root q (bif Nat.beq (q % 2) 0 && Nat.beq (a % 4) 3 then q-a else a) 64 1 0
theorem bIo (root q a:Nat):bVt root q a=lgA root q a:=by
 unfold bVt lgA lgS
 by_cases h1:q % 2=0
 ·by_cases h2:root+1=q
  ·simp[h1,h2]
  ·by_cases h3:a % 4=3
   ·simp[h1,h2,h3,show Nat.beq (root+1) q=false from Bool.eq_false_iff.2 (fun e=>h2 (Nat.eq_of_beq_eq_true e))]
   ·simp[h1,h2,h3,show Nat.beq (root+1) q=false from Bool.eq_false_iff.2 (fun e=>h2 (Nat.eq_of_beq_eq_true e)),show Nat.beq (a % 4) 3=false from Bool.eq_false_iff.2 (fun e=>h3 (Nat.eq_of_beq_eq_true e))]
 ·simp[h1,show Nat.beq (q % 2) 0=false from Bool.eq_false_iff.2 (fun e=>h1 (Nat.eq_of_beq_eq_true e))]
def vK (n:Nat) (v:List Nat) (a:Int):Nat→Nat→Nat→Nat→Option (Nat×Nat)
 |0,_,x,y=>some (x,y)
 |f+1,i,x,y=>eB (pQ n i) fun q=>eB (rsd a q) fun r=>eB (bVt (pR n i) q r) fun l=>eB ((od n).getD i 0) fun o=>eB (x*o+v.getD i 0*l*y) fun N=>eB (y*o) fun D=>eB (Nat.gcd N D) fun g=>eB (D / g) fun y2=>eB (N / g % y2) fun x2=>vK n v a f (Nat.succ i) x2 y2
theorem bOb (n:Nat) (v:List Nat) (a:Int):∀ (f i:Nat),vK n v a f i (vf n v a i).1 (vf n v a i).2=some (vf n v a (i+f))
 |0,i=>rfl
 |f+1,i=>by
  unfold vK
  simp only[cR,bIo]
  have:=bOb n v a f (i+1)
  rw[show i+1+f=i+(f+1)by omega]at this
  exact this
def bIp (n:Nat) (v:List Nat) (a:Int):Option LV:=bif Nat.beq (Nat.gcd a.natAbs n) 1 then(match vK n v a (od n).length 0 0 1 with
 |some (x,y)=>some (.agg [.lit (.bool false),.lit (.int .i64 (.ofNat x)),.lit (.int .i64 (.ofNat y))])
 |none=>none)else some (.agg [.lit (.bool true),.lit (.int .i64 0),.lit (.int .i64 0)])
theorem aTv {n:Nat}{v:List Nat}{a:Int}{r:LV}(n1:1≤n) (n2:n≤60) (hv:okV n v=true) (ha: -4294967296≤a∧a≤4294967296) (h:bIp n v a=some r):PureGood Tryz.prog 77 [.agg [i64 n,.sl (nI v).length (ec (nI v))],i64 a] r:=by
 obtain⟨h1,h2⟩:=aJ5 hv
 unfold bIp at h
 cases hb:Nat.beq (Nat.gcd a.natAbs n) 1 with
 |true=>
  rw[hb,cond_true]at h
  have e:=bOb n v a (od n).length 0
  rw[Nat.zero_add]at e
  have e0:vf n v a 0=(0,1):=rfl
  rw[e0]at e
  rw[e]at h
  cases h
  have hg:Int.gcd a n=1:=Nat.eq_of_beq_eq_true hb
  exact aWp n1 n2 h1 h2 a ha hg
 |false=>
  rw[hb,cond_false]at h
  cases h
  have hg:Int.gcd a n≠1:=fun e=>by
    have:Nat.beq (Nat.gcd a.natAbs n) 1=true:=by rw[Nat.beq_eq];exact e
    rw[this]at hb
    cases hb
  exact aWo (m:=n) (l:=nI v) ⟨by omega,by rw[dW,h1];have:=(tb (m:=n) n2).2.2.1;omega⟩ a ha (by omega) hg
def aTw (args:List LV):Option LV:=match args with
 |[.agg [.lit (.int .i64 (.ofNat n)),.sl k cs],.lit (.int .i64 a)]=>match aNf cs with
  |some v=>bif Nat.ble 1 n && Nat.ble n 60 && Nat.beq k v.length && okV n v && Nat.ble a.natAbs 4294967296 then bIp n v a else none
  |none=>none
 |_=>none
theorem bCk {args:List LV}{r:LV}(h:aTw args=some r):PureGood Tryz.prog 77 args r:=by
 unfold aTw at h
 split at h
 ·rename_i n k cs a
  split at h
  ·rename_i v hv
   generalize hcond:(Nat.ble 1 n && Nat.ble n 60 && Nat.beq k v.length && okV n v && Nat.ble a.natAbs 4294967296)=q at h
   cases q with
   |false=>rw[cond_false]at h;cases h
   |true=>
    rw[cond_true]at h
    simp only[Bool.and_eq_true,Nat.ble_eq,Nat.beq_eq]at hcond
    obtain⟨⟨⟨⟨c1,c2⟩,rfl⟩,c4⟩,c5⟩:=hcond
    obtain⟨rfl,_⟩:=vC hv
    have:=aTv c1 c2 c4 (by omega) h
    rw[dW]at this
    exact this
  ·cases h
 ·cases h
def bIq (f:FuncId) (args:List LV):Option LV:=bif Nat.beq f 77 then aTw args else cF7 f args
theorem aJ6:fR Tryz.prog bIq:=aU (f0:=77) (g:=aTw) (fun _ _ h=>bCk h) bIm
end
section
open Go Go.Lg Go.Num
def cF8:Nat→List Nat→List Nat→Nat
 |k,o::os,e::v=>eB (o / Nat.gcd o e) fun d=>eB (k / Nat.gcd k d*d) fun k=>cF8 k os v
 |k,_,_=>k
def ordN (n:Nat) (v:List Nat):Nat:=cF8 1 (od n) v
noncomputable def bCl (n:Nat) (v:List Nat):Bool:=Nat.ble 1 (ordN n v) && Nat.ble (ordN n v) 60 && (match evo bIq 56 [chV n v]with
 |some (.tup [.lit (.int .i64 (.ofNat k)),.lit (.int .i64 (.ofNat e))])=>Nat.beq k (ordN n v) && Nat.beq e 0
 |_=>false) && (match evo bIq 62 [chV n v]with
 |some (.lit (.int .i64 (.ofNat k)))=>Nat.beq k (ordN n v)
 |_=>false)
theorem bCm {n:Nat}{v:List Nat}(h:bCl n v=true):(1≤ordN n v∧ordN n v≤60)∧PureGood Tryz.prog 56 [.agg [i64 n,.sl (nI v).length (ec (nI v))]] (.tup [i64 (ordN n v),i64 0])∧PureGood Tryz.prog 62 [.agg [i64 n,.sl (nI v).length (ec (nI v))]] (i64 (ordN n v)):=by
 unfold bCl at h
 rw[Bool.and_eq_true,Bool.and_eq_true,Bool.and_eq_true,Nat.ble_eq,Nat.ble_eq]at h
 obtain⟨⟨h0,h⟩,h'⟩:=h
 rw[← aA1]
 refine⟨h0,?_,?_⟩
 ·split at h
  ·rename_i k e he
   rw[Bool.and_eq_true]at h
   have e1:=Nat.eq_of_beq_eq_true h.1
   have e2:=Nat.eq_of_beq_eq_true h.2
   rw[e1,e2]at he
   exact dE aJ6 he
  ·cases h
 ·split at h'
  ·rename_i k he
   have e1:=Nat.eq_of_beq_eq_true h'
   rw[e1]at he
   exact dE aJ6 he
  ·cases h'
end
section
open Go Go.Lg Go.Num
def rtN (n d:Nat):Nat×Nat:=(n % d / Nat.gcd (n % d) d,d / Nat.gcd (n % d) d)
def tmN (a b:Nat×Nat):Nat×Nat:=rtN (a.1*b.2+b.1*a.2) (a.2*b.2)
def pwN (n g y:Nat):Nat→Nat
 |0=>y
 |k+1=>pwN n g y k*g % n
def yN (n:Nat) (t:List Nat):Nat→Nat
 |0=>1 % n
 |i+1=>pwN n ((gn n).getD i 0) (yN n t i) (t.getD i 0)
def wN (n:Nat) (v t:List Nat):Nat→Nat×Nat
 |0=>(0,1)
 |i+1=>tmN (wN n v t i) (rtN (t.getD i 0*v.getD i 0) ((od n).getD i 0))
def aW0 (o:List Nat):Nat→List Nat→Nat→Option (List Nat)
 |0,_,_=>none
 |f+1,t,i=>if t.getD i 0+1=o.getD i 0 then aW0 o f (t.set i 0) (i+1)else some (t.set i (t.getD i 0+1))
def bCn (n:Nat) (v:List Nat) (r:Nat):Nat→List Nat→Option (Nat×Nat)
 |0,_=>none
 |f+1,t=>if yN n t (od n).length=r then some (wN n v t (od n).length)else match aW0 (od n) (od n).length t 0 with
  |none=>some (wN n v t (od n).length)
  |some t'=>bCn n v r f t'
theorem aQ0 {n d:Nat}(hd:1≤d):(rtN n d).1<(rtN n d).2∧1≤(rtN n d).2∧(rtN n d).2≤d:=by
 have hg:0<Nat.gcd (n % d) d:=Nat.gcd_pos_of_pos_right _ hd
 have hle:Nat.gcd (n % d) d≤d:=Nat.le_of_dvd hd (Nat.gcd_dvd_right _ _)
 have h2:0<d / Nat.gcd (n % d) d:=Nat.div_pos hle hg
 have h3:=Nat.div_le_self d (Nat.gcd (n % d) d)
 refine⟨?_,h2,h3⟩
 unfold rtN
 simp only
 rw[Nat.div_lt_iff_lt_mul hg,Nat.div_mul_cancel (Nat.gcd_dvd_right _ _)]
 exact Nat.mod_lt _ hd
theorem bVu {a b:Nat×Nat}{A:Nat}(ha:1≤a.2∧a.2≤A) (hb:1≤b.2∧b.2≤60):(tmN a b).1<(tmN a b).2∧1≤(tmN a b).2∧(tmN a b).2≤A*60:=by
 have h:=aQ0 (n:=a.1*b.2+b.1*a.2) (d:=a.2*b.2) (Nat.mul_pos ha.1 hb.1)
 have h2:a.2*b.2≤A*60:=Nat.mul_le_mul ha.2 hb.2
 exact⟨h.1,h.2.1,Nat.le_trans h.2.2 h2⟩
theorem bOc {n:Nat}(hn:n≤60) (v t:List Nat):∀ i,i≤(od n).length→(wN n v t i).1<(wN n v t i).2∧1≤(wN n v t i).2∧(wN n v t i).2≤60^i
 |0,_=>⟨Nat.zero_lt_one,Nat.le_refl _,Nat.le_refl _⟩
 |i+1,h=>by
  have ih:=bOc hn v t i (by omega)
  have ho:=aA0 hn (show i<(od n).length by omega)
  have hr:=aQ0 (n:=t.getD i 0*v.getD i 0) ho.1
  rw[wN,Nat.pow_succ]
  exact bVu ih.2 ⟨hr.2.1,by omega⟩
attribute [local irreducible] lrun lwp exThen exBlk keep goodPost ec pt gn od
theorem aQ1 (a b c d:Nat) (ha:a≤1000000) (hb:1≤b∧b≤1000000) (hc:c≤1000) (hd:1≤d∧d≤1000):PureGood Tryz.prog 154 [.agg [.lit (.bool false),i64 a,i64 b],.agg [.lit (.bool false),i64 c,i64 d]] (.agg [.lit (.bool false),i64 ((tmN (a,b) (c,d)).1:Nat),i64 ((tmN (a,b) (c,d)).2:Nat)]):=by
 have m1:a*d≤1000000*1000:=Nat.mul_le_mul ha (by omega)
 have m2:c*b≤1000*1000000:=Nat.mul_le_mul (by omega) (by omega)
 have m3:b*d≤1000000*1000:=Nat.mul_le_mul (by omega) (by omega)
 have m4:1≤b*d:=Nat.mul_pos hb.1 hd.1
 have g:=qM (a*d+c*b) (b*d) m4 (by omega) (by omega)
 unfold tmN rtN
 simp only
 have e1:(a:Int)*(d:Int)=((a*d:Nat):Int):=by simp
 have e2:(c:Int)*(b:Int)=((c*b:Nat):Int):=by simp
 have e3:(b:Int)*(d:Int)=((b*d:Nat):Int):=by simp
 have e4:((a*d:Nat):Int)+((c*b:Nat):Int)=((a*d+c*b:Nat):Int):=by simp
 generalize a*d=ad at*
 generalize c*b=cb at*
 generalize b*d=bd at*
 generalize hs:ad+cb=s at*
 generalize s % bd / Nat.gcd (s % bd) bd=x at*
 generalize bd / Nat.gcd (s % bd) bd=y at*
 simp only[i64]at*
 refine aA bC Tryz.func154 rfl (by decide) (nt:=29) rfl (rs:=[.cell 4 89]) rfl (aZ rfl) ?_
 refine aAf (nd e1 (nd e2 (nd e3 e4))) ?_
 exact aPh (nd e1 (nd e2 (nd e3 e4)))
theorem aQ2 {m:Int}{l:List Int}(hb:ChB m l) (a:Int) (ha: -4294967296≤a∧a≤4294967296) (hm:1≤m∧m≤60) (hg:Int.gcd a m≠1):PureGood Tryz.prog 68 [.agg [i64 m,.sl l.length (ec l)],i64 a] (.agg [bl true,i64 0,i64 0]):=by
 have gg:=nY a m (by omega) (by omega)
 have h1:¬((Int.gcd a m:Nat):Int)=1:=by omega
 generalize Int.gcd a m=g at*
 simp only[i64,bl]at*
 refine aA bC Tryz.func68 rfl (by decide) (nt:=109) rfl (rs:=[.cell 4 89]) rfl (aZ rfl) ?_
 refine xM ?_
 exact zQ3
end
end Go.Proofs.YtaidcaemdkncgaaGreatDoor
