/- Contracts of functions of the program, and what proves them (texts: Q6 G6 G6a G6b G6c Q10 Q7 Q11 Q14 JO0 Q15 Q16 Q17 Q18 Num7 Num8 Num9 Num10 NumDv Q2s BC3). -/
import Derived.KernelRfl
import Derived.Test.YtaidcaemdkncgaaGreatDoorZSAM
import Derived.Test.YtaidcaemdkncgaaGreatDoorZSAP
import Derived.Test.YtaidcaemdkncgaaGreatDoorZSAQ
set_option linter.all false
set_option maxRecDepth 100000
set_option maxHeartbeats 8000000
namespace Go.Proofs.YtaidcaemdkncgaaGreatDoor
section
open Go Go.Lg Go.Num
def okA (l:List Int):Prop:=∀ z∈l,mD z=true
theorem oR {x:Int}{l:List Int}:okA (x::l)↔mD x=true∧okA l:=by simp[okA]
theorem aPc (lo:List Int) (x:Int) (r:List Int):(lo++x::r).getD lo.length 0=x:=by simp
theorem aVx (lo:List Int) (x v:Int) (r:List Int):(lo++x::r).set lo.length v=(lo++[v])++r:=by simp
theorem bEm {c:Int}:∀ {g r l:List Int},aZg c g r=some l→okA r→okA l∧l.length=r.length∧∀ lo:List Int,uO c g (lo++r) lo.length=some (lo++l)
 |[],r,l,h,ho=>by
  cases h
  exact⟨ho,rfl,fun lo=>rfl⟩
 |_::_,[],l,h,_=>by cases h
 |b::g,x::r,l,h,ho=>by
  unfold aZg at h;rw[cY,cY]at h
  cases hb:(mD (c*b) && mD (x-c*b))with
  |false=>rw[hb,cond_false]at h;cases h
  |true=>
   rw[hb,cond_true]at h
   have hb':=hb;rw[Bool.and_eq_true]at hb'
   split at h
   · rename_i l' hl
     cases h
     obtain⟨e0,e1,e2⟩:=bEm hl (oR.1 ho).2;refine⟨oR.2 ⟨hb'.2,e0⟩,by simp[e1],fun lo=> ?_⟩;have e3:=e2 (lo++[x-c*b]);rw[uO,aPc,hb,cond_true,aVx];simp only[List.length_append,List.length_cons,List.length_nil]at e3;rw[e3];simp
   · cases h
theorem aJm:∀ {g r:List Int},okA r→g.length≤r.length→∀ lo:List Int,uO 0 g (lo++r) lo.length=some (lo++r)
 |[],r,_,_,lo=>rfl
 |_::_,[],_,h,_=>by simp at h
 |b::g,x::r,ho,h,lo=>by
  have e3:=aJm (g:=g) (oR.1 ho).2 (by simpa using h) (lo++[x]);rw[uO,aPc,Int.zero_mul,Int.sub_zero,(oR.1 ho).1,show mD 0=true from rfl,aVx];simp only[List.length_append,List.length_cons,List.length_nil]at e3;show uO _ _ _ _=_;rw[e3];simp
theorem aS4 {g:List Int}(hG:1≤g.length):∀ {lo hi q Q R:List Int},aO9 g g.length lo hi q=some (Q,R)→okA lo→okA hi→g.length≤hi.length+1→
  aGi g lo.length (List.replicate lo.length 0++q) (lo.reverse++hi)=some (Q,R)
 |[],hi,q,Q,R,h,_,_,_=>by
  cases h
  rfl
 |x::lo,hi,q,Q,R,h,ol,oh,hle=>by
  unfold aO9 at h;rw[cY]at h
  generalize hc:(x::hi).getD (g.length-1) 0=c at h;obtain⟨ox,ol⟩:=oR.1 ol;have oxh:okA (x::hi):=oR.2 ⟨ox,oh⟩
  cases hk:mD c with
  |false=>rw[hk,cond_false]at h;cases h
  |true=>
   rw[hk,cond_true]at h
   have hr:lo.reverse++x::hi=(x::lo).reverse++hi:=by simp
   have hget:((x::lo).reverse++hi).getD (lo.length+g.length-1) 0=c:=by
     rw[← hr,← hc];have e:lo.length+g.length-1=lo.reverse.length+(g.length-1):=by rw[List.length_reverse];omega
     rw[e];simp only[List.getD,List.getElem?_append_right (Nat.le_add_right _ _),Nat.add_sub_cancel_left]
   have hset:(List.replicate (lo.length+1) 0++q).set lo.length c=List.replicate lo.length 0++(c::q):=by
     rw[List.replicate_succ',List.append_assoc,List.set_append_right _ _ (by simp),List.length_replicate,Nat.sub_self];rfl
   have hrl:lo.reverse.length=lo.length:=List.length_reverse
   cases h0:Nat.beq c.natAbs 0 with
   |true=>
    rw[h0,cond_true]at h
    have hc0:c=0:=by
      have:=Nat.eq_of_beq_eq_true h0;omega
    have e1:=aS4 hG h ol oxh (by simp;omega);have e2:=aJm (g:=g) oxh (by simp;omega) lo.reverse;rw[hrl,← hc0]at e2
    rw[List.length_cons,aGi,hget,hk,cond_true,← hr,e2,hset]
    exact e1
   |false=>
    rw[h0,cond_false]at h
    split at h
    · rename_i h2 hz;obtain⟨z0,z1,z2⟩:=bEm hz oxh;simp only[List.length_cons]at z1;have e1:=aS4 hG h ol z0 (by omega);have e2:=z2 lo.reverse;rw[hrl]at e2
      rw[List.length_cons,aGi,hget,hk,cond_true,← hr,e2,hset];exact e1
    · cases h
def aZl:List LV→Option (List Int)
 |[]=>some []
 | .lit (.int .i64 z)::cs=>match aZl cs with
   |some l=>bif mD z then some (z::l)else none
   |none=>none
 |_=>none
theorem aD8:∀ {cs:List LV}{l:List Int},aZl cs=some l→cs=ec l∧okA l
 |[],l,h=>by cases h;exact⟨rfl,by simp[okA]⟩
 |c::cs,l,h=>by
  unfold aZl at h;split at h
  · simp_all
  · rename_i z cs' he;simp only[List.cons.injEq]at he;obtain⟨rfl,rfl⟩:=he;split at h
    · rename_i l' hl
      cases hb:mD z with
      |false=>rw[hb,cond_false]at h;cases h
      |true=>
       rw[hb,cond_true]at h
       cases h
       obtain⟨e1,e2⟩:=aD8 hl;exact⟨by rw[e1];rfl,oR.2 ⟨hb,e2⟩⟩
    · cases h
  · cases h
def aVy (args:List LV):Option LV:=match args with
 |[.sl n cs,.sl k ds]=>match aZl cs,aZl ds with
  |some f,some g=>bif Nat.beq n f.length && Nat.beq k g.length && Nat.ble 2 k && Nat.ble k 1000 && Nat.ble n 1000 && Nat.ble k n then
      (match aO9 g k (f.take (n+1-k)).reverse (f.drop (n+1-k)) []with
        |some (Q,R)=>some (.tup [.sl (n+1-k) (ec Q),.sl (k-1) (ec (R.take (k-1)))])
        |none=>none)else none
  |_,_=>none
 |_=>none
theorem bEn {args:List LV}{r:LV}(h:aVy args=some r):PGd 162 args r:=by
 unfold aVy at h;split at h
 ·rename_i n cs k ds;split at h
  ·rename_i f g hf hg;obtain⟨rfl,of⟩:=aD8 hf;obtain⟨rfl,og⟩:=aD8 hg;generalize hcond:(Nat.beq n f.length && Nat.beq k g.length && Nat.ble 2 k && Nat.ble k 1000 && Nat.ble n 1000 && Nat.ble k n)=q at h
   cases q with
   |false=>rw[cond_false]at h;cases h
   |true=>
    rw[cond_true]at h
    simp only[Bool.and_eq_true,Nat.ble_eq,Nat.beq_eq]at hcond;obtain⟨⟨⟨⟨⟨rfl,rfl⟩,c1⟩,c2⟩,c3⟩,c4⟩:=hcond;split at h
    · rename_i Q R hd
      cases h
      have hlo:(f.take (f.length+1-g.length)).reverse.length=f.length+1-g.length:=by rw[List.length_reverse,List.length_take];omega
      have hhi:(f.drop (f.length+1-g.length)).length=g.length-1:=by rw[List.length_drop];omega
      have e1:=aS4 (by omega) hd (fun z hz=>of z (List.mem_of_mem_take (List.mem_reverse.1 hz))) (fun z hz=>of z (List.mem_of_mem_drop hz)) (by omega);rw[hlo,List.reverse_reverse,List.take_append_drop,List.append_nil]at e1
      exact aGj f g Q R _ of og c1 c2 c3 (by omega) (by omega) e1
    · cases h
  ·cases h
 ·cases h
def aVz (f:FuncId) (args:List LV):Option LV:=bif Nat.beq f 162 then aVy args else cFx f args
theorem aGk:eV Tryz.prog aVz:=aR (f0:=162) (g:=aVy) (fun _ _ h=>bEn h) bLb
end
section
open Go Go.Lg Go.Num
def cKp:List (List Int):=[[],[-1,1],[1,1],[1,1,1],[1,0,1],[1,1,1,1,1],[1,-1,1],[1,1,1,1,1,1,1],[1,0,0,0,1],[1,0,0,1,0,0,1],[1,-1,1,-1,1],[1,1,1,1,1,1,1,1,1,1,1],[1,0,-1,0,1],[1,1,1,1,1,1,1,1,1,1,1,1,1],[1,-1,1,-1,1,-1,1],[1,-1,0,1,-1,1,0,-1,1],[1,0,0,0,0,0,0,0,1],[],[1,0,0,-1,0,0,1],[],[1,0,-1,0,1,0,-1,0,1],[1,-1,0,1,-1,0,1,0,-1,1,0,-1,1],[1,-1,1,-1,1,-1,1,-1,1,-1,1],[],[1,0,0,0,-1,0,0,0,1],[],[1,-1,1,-1,1,-1,1,-1,1,-1,1,-1,1],[],[1,0,-1,0,1,0,-1,0,1,0,-1,0,1],[],[1,1,0,-1,-1,-1,0,1,1],[],[],[],[],[],[1,0,0,0,0,0,-1,0,0,0,0,0,1],[],[],[],[],[],[1,1,0,-1,-1,0,1,0,-1,-1,0,1,1]]
def dJ (n:Nat):List Int:=cKp.getD n []
def aDm:List LV→Option (List Int)
 |[]=>some []
 |a::b::cs=>match rdI a b,aDm cs with
  |some z,some l=>bif mD z then some (z::l)else none
  |_,_=>none
 |_=>none
def mJ (l:List Int):List LV:=l.flatMap wrI
theorem lN:∀ {cs:List LV}{l:List Int},aDm cs=some l→cs=mJ l
 |[],l,h=>by cases h;rfl
 |[_],l,h=>by cases h
 |a::b::cs,l,h=>by
  unfold aDm at h;split at h
  · rename_i z l' h1 h2
    cases hb:mD z with
    |false=>rw[hb,cond_false]at h;cases h
    |true=>
     rw[hb,cond_true]at h
     cases h
     obtain⟨rfl,rfl⟩:=kB h1;have e:=pW (aB8 hb);rw[aY]at e
     injection e with e;show _=wrI z++mJ l';rw[← lN h2,e];rfl
  · cases h
def eqZ:List Int→List Int→Bool
 |[],[]=>true
 |a::l,b::m=>(a==b) && eqZ l m
 |_,_=>false
theorem vD:∀ {l m:List Int},eqZ l m=true→l=m
 |[],[],_=>rfl
 |[],_::_,h=>by cases h
 |_::_,[],h=>by cases h
 |a::l,b::m,h=>by
  unfold eqZ at h;rw[Bool.and_eq_true]at h
  rw[eq_of_beq h.1,vD h.2]
noncomputable def bNv (n:Nat):Bool:=match evo aVz 48 [.lit (.int .i64 (.ofNat n))]with
 |some (.tup [.agg [.sl k cs],.lit (.int .i64 (.ofNat e))])=>match aDm cs with
  |some l=>Nat.beq k (dJ n).length && Nat.beq e 0 && eqZ l (dJ n)
  |none=>false
 |_=>false
noncomputable def bNw (n:Nat):Bool:=match evo aVz 71 [.lit (.int .i64 (.ofNat n))]with
 |some (.sl k cs)=>match aZl cs with
  |some l=>Nat.beq k (dJ n).length && eqZ l (dJ n)
  |none=>false
 |_=>false
noncomputable def fB (n:Nat):Bool:=bNv n && bNw n
def pF:List Nat:=[1,2,3,4,5,6,7,8,9,10,11,12,13,14,15,16,18,20,21,22,24,26,28,30,36,42]
end
section
open Go Go.Lg Go.Num
theorem cFy:fB 42=true:=by kernel_rfl
theorem cFz:fB 30=true:=by kernel_rfl
theorem cF0:fB 28=true:=by kernel_rfl
theorem cF1:fB 24=true:=by kernel_rfl
theorem cF2:fB 21=true:=by kernel_rfl
theorem cF3:fB 18=true:=by kernel_rfl
theorem cF4:fB 15=true:=by kernel_rfl
theorem cF5:fB 12=true:=by kernel_rfl
theorem cF6:fB 10=true:=by kernel_rfl
theorem cKq:fB 8=true:=by kernel_rfl
theorem cKr:fB 6=true:=by kernel_rfl
theorem cKs:fB 4=true:=by kernel_rfl
theorem cKt:fB 2=true:=by kernel_rfl
end
section
open Go Go.Lg Go.Num
theorem cF7:fB 36=true:=by kernel_rfl
theorem cF8:fB 26=true:=by kernel_rfl
theorem cF9:fB 22=true:=by kernel_rfl
theorem cGa:fB 20=true:=by kernel_rfl
theorem cGb:fB 16=true:=by kernel_rfl
theorem cGc:fB 14=true:=by kernel_rfl
theorem cGd:fB 13=true:=by kernel_rfl
theorem cGe:fB 11=true:=by kernel_rfl
theorem cKu:fB 9=true:=by kernel_rfl
theorem cKv:fB 7=true:=by kernel_rfl
theorem cKw:fB 5=true:=by kernel_rfl
theorem cKx:fB 3=true:=by kernel_rfl
theorem cKy:fB 1=true:=by kernel_rfl
end
section
open Go Go.Lg Go.Num
theorem bEo:∀ n∈pF,fB n=true:=by
 simp only[pF,List.forall_mem_cons];exact⟨cKy,cKt,cKx,cKs,cKw,cKr,cKv,cKq,cKu,cF6,cGe,cF5,cGd,cGc,cF4,cGb,cF3,cGa,cF2,cF9,cF1,cF8,cF0,cFz,cF7,cFy,by simp⟩
theorem oS {n:Nat}(h:n∈pF):PGd 48 [i64 n] (.tup [.agg [.sl (dJ n).length (mJ (dJ n))],i64 0]):=by
 have h:=bEo n h;unfold fB at h;rw[Bool.and_eq_true]at h
 have h:=h.1;unfold bNv at h;split at h
 ·rename_i k cs e h1;split at h
  ·rename_i l hl;rw[Bool.and_eq_true,Bool.and_eq_true]at h
   have e1:=Nat.eq_of_beq_eq_true h.1.1;have e2:=Nat.eq_of_beq_eq_true h.1.2;have e3:=vD h.2;subst e1;subst e2;subst e3;rw[← lN hl];exact cV aGk h1
  ·cases h
 ·cases h
theorem aS5 {n:Nat}(h:n∈pF):PGd 71 [i64 n] (.sl (dJ n).length (ec (dJ n))):=by
 have h:=bEo n h;unfold fB at h;rw[Bool.and_eq_true]at h
 have h:=h.2;unfold bNw at h;split at h
 ·rename_i k cs h1;split at h
  ·rename_i l hl;rw[Bool.and_eq_true]at h
   have e1:=Nat.eq_of_beq_eq_true h.1;have e3:=vD h.2;subst e1;subst e3;rw[← (aD8 hl).1];exact cV aGk h1
  ·cases h
 ·cases h
def aV0 (args:List LV):Option LV:=match args with
 |[.lit (.int .i64 (.ofNat n))]=>bif pF.elem n then some (.tup [.agg [.sl (dJ n).length (mJ (dJ n))],.lit (.int .i64 0)])else none
 |_=>none
def aV1 (args:List LV):Option LV:=match args with
 |[.lit (.int .i64 (.ofNat n))]=>bif pF.elem n then some (.sl (dJ n).length (ec (dJ n)))else none
 |_=>none
theorem bEp {args:List LV}{r:LV}(h:aV0 args=some r):PGd 48 args r:=by
 unfold aV0 at h;split at h
 ·rename_i n
  cases hb:pF.elem n with
  |true=>rw[hb]at h;cases h;exact oS (List.elem_iff.1 hb)
  |false=>rw[hb]at h;cases h
 ·cases h
theorem bEq {args:List LV}{r:LV}(h:aV1 args=some r):PGd 71 args r:=by
 unfold aV1 at h;split at h
 ·rename_i n
  cases hb:pF.elem n with
  |true=>rw[hb]at h;cases h;exact aS5 (List.elem_iff.1 hb)
  |false=>rw[hb]at h;cases h
 ·cases h
def cGf (f:FuncId) (args:List LV):Option LV:=bif Nat.beq f 48 then aV0 args else bif Nat.beq f 71 then aV1 args else aVz f args
theorem bLd:eV Tryz.prog cGf:=by
 intro f args r h;exact aR (f0:=48) (g:=aV0) (fun _ _ h=>bEp h) (aR (f0:=71) (g:=aV1) (fun _ _ h=>bEq h) aGk) f args r h
end
section
open Go Go.Lg Go.Num
def z4v:LV:= .agg [.lit (.bool false),.sl 0 [],.lit (.bool false),.sl 0 []]
theorem aS6:PGd 138 [z4v] (bG 0):=by
 have h:PGd 138 [z4v] (wrQ 0):=cV aVq (by kernel_rfl)
 rwa [aBw (by decide+kernel)]at h
def ov (f:List (Option Rat)):List Rat:=f.map fun o=>o.getD 0
theorem aCa (f:List (Option Rat)):(ov f).length=f.length:=by simp[ov]
theorem bEr (f:List (Option Rat)) (i:Nat):(ov f).getD i 0=(f.getD i none).getD 0:=by
 simp only[ov,List.getD,List.getElem?_map]
 cases f[i]? <;>rfl
attribute [local irreducible] lrun lwp exThen exBlk keep goodPost sg mg dS oc gG op
theorem aJn (f:List (Option Rat)) (hl:f.length≤1000) (hf:∀ q,some q∈f→lq q≤100000):PGd 219 [.sl f.length (op f)] (encF (bQ (ov f))):=by
 have ht:=iJ (ov f) (by rw[aCa];omega);have hg:=bEr f;have hsl:=aCa f;have gm:=aS6;rw[bE,hsl]at ht
 have hopl:=op_len f;generalize ov f=S at*;unfold z4v at gm;rw[aH]at gm
 refine aA aV Tryz.func219 rfl (by decide) (nt:=24) rfl (rs:=[.tmp 2]) rfl (aW rfl) ?_;refine cZ hopl ?_;refine aG (α:={k:Nat // k≤f.length}) (fun k=>st 24 (lk [(0,.sl f.length (op f)),(2,nilL),(3,.own 0 0 f.length 4),(9,.sl f.length (op f)),(10,i64 f.length),(11,i64 k.1)]) (cG [(0,⟨47,gG S k.1,false⟩)]) 1) (fun k=>f.length-k.1) ⟨0,by omega⟩ ?_ ?_
 ·(refine Sub.heap1 3 ?_ (by simp only[aI,simprocAttr,bl,i64,smT,hopl];exact rfl) ?_ ?_;all_goals(first |exact aE _ |with_reducible rfl |(simp only[aI,simprocAttr,bl,i64,smT,hopl])|skip))
  ·rw[sU,hsl];rfl
  ·exact fA _ _
 ·rintro⟨k,hk⟩;simp only[st];by_cases h:k<f.length
  ·have htd:=op_td h;have hgk:=hg k;have hfl:=wM (f:=S) (k:=k) (by omega);have hst:=sV (f:=S) (k:=k) (by omega) rfl
   have hmem:f.getD k none∈f:=by
    have:f.getD k none=f[k]:=by simp[h]
    rw[this];exact List.getElem_mem h
   rw[hgk]at hst
   generalize gG S k=L at*;generalize f.getD k none=o at*
   cases o with
   |none=>
    rw[oqp_none]at htd
    simp only[Option.getD_none]at hst;refine cZ (nd htd hopl) ?_;refine⟨⟨k+1,by omega⟩,?_,by simp only;omega⟩
    (refine Sub.heap1 0 ?_ (by simp only[aI,simprocAttr,bl,i64,smT];exact rfl) ?_ ?_;all_goals(first |exact aE _ |with_reducible rfl |(simp only[aI,simprocAttr,bl,i64,smT])|skip))
    · exact hst
    · exact fA _ _
   |some q=>
    have hn:=iF q (by have:=hf q hmem;omega);rw[oqp_some]at htd
    simp only[Option.getD_some]at hst;rw[aH]at hn
    refine cZ (nd htd hopl) ?_;refine⟨⟨k+1,by omega⟩,?_,by simp only;omega⟩
    (refine Sub.heap1 0 ?_ (by simp only[aI,simprocAttr,bl,i64,smT];exact rfl) ?_ ?_;all_goals(first |exact aE _ |with_reducible rfl |(simp only[aI,simprocAttr,bl,i64,smT])|skip))
    · exact hst
    · exact fA _ _
  ·obtain rfl:k=f.length:=by omega
   have hfa:gG S f.length=qc S:=by rw[← hsl];exact wL S
   rw[hfa];refine dP ?_;refine zR1 ?_;refine zV2 ?_;rw[bE];simp(disch:=first|omega|exact kD rfl|exact kX rfl) only[smY,simprocAttr,bl,i64,smT]
end
section
open Go Go.Lg Go.Num
attribute [local irreducible] lrun lwp exThen exBlk keep goodPost ec
theorem rK (n d:Nat) (hd1:1≤d) (hd:d≤1000000000) (hn:n≤1000000000000):PGd 146 [i64 n,i64 d] (.agg [.lit (.bool false),i64 ((n % d / Nat.gcd (n % d) d:Nat):Int),i64 ((d / Nat.gcd (n % d) d:Nat):Int)]):=by
 have hlt:=Nat.mod_lt n hd1
 have gm:PGd 155 [i64 n,i64 d] (i64 ((n % d:Nat):Int)):=by
  have e:(n:Int).tmod d=((n % d:Nat):Int):=by rw[Int.tmod_eq_emod_of_nonneg (by omega)];rfl
  have e2:¬((n % d:Nat):Int)<0:=by omega
  generalize hr:n % d=r at*;simp only[i64];refine aA aV Tryz.func155 rfl (by decide) (nt:=15) rfl (rs:=[.tmp 4]) rfl (aW rfl) ?_;refine aBf (nd e hr) ?_;exact aRl (nd e hr)
 have gg:=oJ ((n % d:Nat):Int) (d:Int) (by omega) (by omega);have hg:Int.gcd ((n % d:Nat):Int) (d:Int)=Nat.gcd (n % d) d:=rfl;rw[hg]at gg
 have hgp:0<Nat.gcd (n % d) d:=Nat.gcd_pos_of_pos_right _ hd1;have hgl:Nat.gcd (n % d) d≤d:=Nat.le_of_dvd hd1 (Nat.gcd_dvd_right _ _);generalize n % d=r at*;generalize Nat.gcd r d=g at*;have q1:((r:Int)).tdiv (g:Int)=((r / g:Nat):Int):=by rw[Int.tdiv_eq_ediv_of_nonneg (by omega)];rfl
 have q2:((d:Int)).tdiv (g:Int)=((d / g:Nat):Int):=by rw[Int.tdiv_eq_ediv_of_nonneg (by omega)];rfl
 have b1:r / g≤r:=Nat.div_le_self _ _;have b2:d / g≤d:=Nat.div_le_self _ _;have hg0:¬(g:Int)=0:=by omega
 generalize hx:r / g=x at*;generalize hy:d / g=y at*;simp only[i64]at*;refine aA aV Tryz.func146 rfl (by decide) (nt:=19) rfl (rs:=[.cell 4 89]) rfl (aW rfl) ?_;refine aBf (nd q1 (nd q2 (nd hx hy))) ?_;exact aRl (nd q1 (nd q2 (nd hx hy)))
theorem aH4 (a b c d:Nat) (ha:a≤1000) (hb:1≤b∧b≤1000) (hc:c≤1000) (hd:1≤d∧d≤1000):PGd 154 [.agg [.lit (.bool false),i64 a,i64 b],.agg [.lit (.bool false),i64 c,i64 d]] (.agg [.lit (.bool false),i64 (((a*d+c*b) % (b*d) / Nat.gcd ((a*d+c*b) % (b*d)) (b*d):Nat):Int),i64 ((b*d / Nat.gcd ((a*d+c*b) % (b*d)) (b*d):Nat):Int)]):=by
 have m1:a*d≤1000*1000:=Nat.mul_le_mul (by omega) (by omega);have m2:c*b≤1000*1000:=Nat.mul_le_mul (by omega) (by omega);have m3:b*d≤1000*1000:=Nat.mul_le_mul (by omega) (by omega);have m4:1≤b*d:=Nat.mul_pos hb.1 hd.1;have g:=rK (a*d+c*b) (b*d) m4 (by omega) (by omega);have e1:(a:Int)*(d:Int)=((a*d:Nat):Int):=by simp
 have e2:(c:Int)*(b:Int)=((c*b:Nat):Int):=by simp
 have e3:(b:Int)*(d:Int)=((b*d:Nat):Int):=by simp
 have e4:((a*d:Nat):Int)+((c*b:Nat):Int)=((a*d+c*b:Nat):Int):=by simp
 generalize a*d=ad at*;generalize c*b=cb at*;generalize b*d=bd at*;generalize hs:ad+cb=s at*;generalize s % bd / Nat.gcd (s % bd) bd=x at*;generalize bd / Nat.gcd (s % bd) bd=y at*;simp only[i64]at*;refine aA aV Tryz.func154 rfl (by decide) (nt:=29) rfl (rs:=[.cell 4 89]) rfl (aW rfl) ?_;refine aBf (nd e1 (nd e2 (nd e3 e4))) ?_;exact aRl (nd e1 (nd e2 (nd e3 e4)))
def aV2 (args:List LV):Option LV:=match args with
 |[.lit (.int .i64 (.ofNat n)),.lit (.int .i64 (.ofNat d))]=>bif Nat.ble 1 d && Nat.ble d 1000000000 && Nat.ble n 1000000000000 then dC (n % d) fun r=>dC (Nat.gcd r d) fun g=>dC (r / g) fun x=>dC (d / g) fun y=>some (.agg [.lit (.bool false),.lit (.int .i64 (.ofNat x)),.lit (.int .i64 (.ofNat y))])else none
 |_=>none
theorem bEs {args:List LV}{r:LV}(h:aV2 args=some r):PGd 146 args r:=by
 unfold aV2 at h;split at h
 ·rename_i n d
  cases hb:(Nat.ble 1 d && Nat.ble d 1000000000 && Nat.ble n 1000000000000)with
  |false=>rw[hb,cond_false]at h;cases h
  |true=>
   rw[hb,cond_true,cF,cF,cF,cF]at h
   cases h
   simp only[Bool.and_eq_true,Nat.ble_eq]at hb;exact rK n d hb.1.1 hb.1.2 hb.2
 ·cases h
def aV3 (args:List LV):Option LV:=match args with
 |[.agg [.lit (.bool false),.lit (.int .i64 (.ofNat a)),.lit (.int .i64 (.ofNat b))],.agg [.lit (.bool false),.lit (.int .i64 (.ofNat c)),.lit (.int .i64 (.ofNat d))]]=>bif Nat.ble a 1000 && (Nat.ble 1 b && Nat.ble b 1000) && Nat.ble c 1000 && (Nat.ble 1 d && Nat.ble d 1000)then dC (b*d) fun m=>dC ((a*d+c*b) % m) fun r=>dC (Nat.gcd r m) fun g=>dC (r / g) fun x=>dC (m / g) fun y=>some (.agg [.lit (.bool false),.lit (.int .i64 (.ofNat x)),.lit (.int .i64 (.ofNat y))])else none
 |_=>none
theorem bEt {args:List LV}{r:LV}(h:aV3 args=some r):PGd 154 args r:=by
 unfold aV3 at h;split at h
 ·rename_i a b c d
  cases hb:(Nat.ble a 1000 && (Nat.ble 1 b && Nat.ble b 1000) && Nat.ble c 1000 && (Nat.ble 1 d && Nat.ble d 1000))with
  |false=>rw[hb,cond_false]at h;cases h
  |true=>
   rw[hb,cond_true,cF,cF,cF,cF,cF]at h
   cases h
   simp only[Bool.and_eq_true,Nat.ble_eq]at hb;exact aH4 a b c d hb.1.1.1 hb.1.1.2 hb.1.2 hb.2
 ·cases h
def bLe (f:FuncId) (args:List LV):Option LV:=bif Nat.beq f 146 then aV2 args else bif Nat.beq f 154 then aV3 args else cGf f args
theorem aLq:eV Tryz.prog bLe:=by
 intro f args r h;exact aR (f0:=146) (g:=aV2) (fun _ _ h=>bEs h) (aR (f0:=154) (g:=aV3) (fun _ _ h=>bEt h) bLd) f args r h
end
section
open Go Go.Lg Go.Num
theorem mK (l:List Int) (i:Nat):(rz l).getD i 0=((l.getD i 0:Int):Rat):=by
 simp only[rz,List.getD,List.getElem?_map]
 cases l[i]? <;>rfl
theorem bEu (l:List Int) (i:Nat) (z:Int):(rz l).set i (z:Rat)=rz (l.set i z):=by simp[rz,List.map_set]
def aOd (a:Int):List Int→List Int→Nat→Option (List Int)
 |[],o,_=>some o
 |b::g,o,i=>bif Nat.beq b.natAbs 0 then aOd a g o (Nat.succ i)else iE (a*b) fun m=>iE (o.getD i 0+m) fun v=>bif mD m && mD v then aOd a g (o.set i v) (Nat.succ i)else none
theorem aLr {a:Int}:∀ {g o r:List Int}{i:Nat},aOd a g o i=some r→aAh (a:Rat) (rz g) (rz o) i=some (rz r)
 |[],o,r,i,h=>by cases h;rfl
 |b::g,o,r,i,h=>by
  unfold aOd at h;rw[cY,cY]at h
  show aAh (a:Rat) ((b:Rat)::rz g) _ _=_;rw[aAh]
  cases hb:Nat.beq b.natAbs 0 with
  |true=>
   rw[hb,cond_true]at h
   have:=Nat.eq_of_beq_eq_true hb;have hz:b=0:=by omega
   rw[if_pos (by rw[hz];rfl)]
   exact aLr h
  |false=>
   rw[hb,cond_false]at h
   have hz:(b:Rat)≠0:=fun e=>by
     have:b=0:=Rat.intCast_inj.1 (e.trans Rat.intCast_zero.symm);rw[this]at hb
     cases hb
   rw[if_neg hz,mK,← Rat.intCast_mul,← Rat.intCast_add]
   cases ht:(mD (a*b) && mD (o.getD i 0+a*b))with
   |false=>rw[ht,cond_false]at h;cases h
   |true=>
    rw[ht,cond_true]at h
    rw[Bool.and_eq_true]at ht
    rw[iK ht.1,iK ht.2,bEu];exact aLr h
def aOe (g:List Int):List Int→List Int→Nat→Option (List Int)
 |[],o,_=>some o
 |a::f,o,i=>bif Nat.beq a.natAbs 0 then aOe g f o (Nat.succ i)else match aOd a g o i with
  |some o'=>aOe g f o' (Nat.succ i)
  |none=>none
theorem aLs {g:List Int}:∀ {f o r:List Int}{i:Nat},aOe g f o i=some r→aB9 (rz g) (rz f) (rz o) i=some (rz r)
 |[],o,r,i,h=>by cases h;rfl
 |a::f,o,r,i,h=>by
  unfold aOe at h;show aB9 (rz g) ((a:Rat)::rz f) _ _=_;rw[aB9]
  cases hb:Nat.beq a.natAbs 0 with
  |true=>
   rw[hb,cond_true]at h
   have:=Nat.eq_of_beq_eq_true hb;have hz:a=0:=by omega
   rw[if_pos (by rw[hz];rfl)]
   exact aLs h
  |false=>
   rw[hb,cond_false]at h
   have hz:(a:Rat)≠0:=fun e=>by
     have:a=0:=Rat.intCast_inj.1 (e.trans Rat.intCast_zero.symm);rw[this]at hb
     cases hb
   rw[if_neg hz];split at h
   · rename_i o' ho;rw[aLr ho];exact aLs h
   · cases h
theorem aPd {l:List Int}(h:∀ z∈l,mD z=true):mQ (rz l):=fun c hc=>by
 obtain⟨z,hz,rfl⟩:=List.mem_map.1 hc;exact iK (h z hz)
def aV4 (args:List LV):Option LV:=match args with
 |[.sl n cs,.sl k ds]=>match aH2 n cs,aH2 k ds with
  |some f,some g=>bif Nat.ble 1 n && Nat.ble 1 k && Nat.ble n 1000 && Nat.ble k 1000 then(match aOe g f (List.replicate (n+k-1) 0) 0 with
   |some R=>bif aH3 R && Nat.ble R.length 10000 then some (aPa (bS R))else none
   |none=>none)else none
  |_,_=>none
 |_=>none
theorem bEv {args:List LV}{r:LV}(h:aV4 args=some r):PGd 217 args r:=by
 unfold aV4 at h;split at h
 ·rename_i n cs k ds;split at h
  ·rename_i f g hf hg;obtain⟨rfl,rfl,f3⟩:=pZ hf;obtain⟨rfl,rfl,g3⟩:=pZ hg;generalize hcond:(Nat.ble 1 f.length && Nat.ble 1 g.length && Nat.ble f.length 1000 && Nat.ble g.length 1000)=q at h
   cases q with
   |false=>rw[cond_false]at h;cases h
   |true=>
    rw[cond_true]at h
    simp only[Bool.and_eq_true,Nat.ble_eq]at hcond;obtain⟨⟨⟨c1,c2⟩,c3⟩,c4⟩:=hcond;split at h
    · rename_i R hR
      cases hall:(aH3 R && Nat.ble R.length 10000)with
      |false=>rw[hall,cond_false]at h;cases h
      |true=>
       rw[hall,cond_true]at h
       cases h
       rw[Bool.and_eq_true,Nat.ble_eq]at hall
       have hR1:=List.all_eq_true.1 hall.1;have hm:=aLs hR;have hrep:rz (List.replicate (f.length+g.length-1) 0)=List.replicate (f.length+g.length-1) (0:Rat):=by simp[rz]
       rw[hrep]at hm
       have:=aS2 (rz f) (rz g) (rz R) (aPd f3) (aPd g3) (by rw[bX];exact c1) (by rw[bX];exact c2) (by rw[bX];exact c3) (by rw[bX];exact c4) (by rw[bX,bX];exact hm) (by rw[bX];exact hall.2);rw[wR (fun z hz=>hR1 z (rJ hz)),oQ];rw[bE (rz f),bE (rz g),bX,bX]at this
       exact this
    · cases h
  ·cases h
 ·cases h
def bEw:Nat→List LV→Option (List (Option Int))
 |0,[]=>some []
 |k+1,a::b::c:: .sl 0 []::r=>match a,b,c,bEw k r with
  | .lit (.bool false),.sl 0 [],.lit (.bool false),some l=>some (none::l)
  |_,_,_,_=>none
 |k+1,a::b::c::d::r=>match rdI a b,rdI c d,bEw k r with
  |some z,some (.ofNat e),some l=>bif Nat.beq e 1 && mD z then some (some z::l)else none
  |_,_,_=>none
 |_,_=>none
def roz (l:List (Option Int)):List (Option Rat):=l.map fun o=>o.map fun(z:Int)=>(z:Rat)
theorem aV5 (l:List (Option Int)):(roz l).length=l.length:=by simp[roz]
theorem bLf:∀ {k:Nat}{cs:List LV}{l:List (Option Int)},bEw k cs=some l→cs=op (roz l)∧k=l.length∧∀ z,some z∈l→mD z=true:=by
 intro k
 induction k with
 |zero=>
  intro cs l h
  cases cs with
  |nil=>cases h;exact⟨rfl,rfl,by simp⟩
  |cons _ _=>cases h
 |succ k ih=>
  intro cs l h;unfold bEw at h;split at h
  · rename_i h0;cases h0
  · rename_i k' a b c r he
    cases he
    split at h
    · rename_i l' h3
      cases h
      obtain⟨e5,e6,e7⟩:=ih h3;refine⟨?_,by simp[e6],fun z hz=>e7 z (by simpa using hz)⟩;rw[e5];rfl
    · cases h
  · rename_i k' a b c d r _ he
    cases he
    split at h
    · rename_i z e l' h1 h2 h3
      cases hb:(Nat.beq e 1 && mD z)with
      |false=>rw[hb,cond_false]at h;cases h
      |true=>
       rw[hb,cond_true]at h
       cases h
       rw[Bool.and_eq_true]at hb
       have he:=Nat.eq_of_beq_eq_true hb.1;subst he;obtain⟨e1,e2⟩:=kB h1;obtain⟨e3,e4⟩:=kB h2;obtain⟨e5,e6,e7⟩:=ih h3;refine⟨?_,by simp[e6],fun x hx=> ?_⟩
       · show _=dD (z:Rat)++op (roz l');rw[← e5,yM,e1,e2,e3,e4];rfl
       · rcases List.mem_cons.1 hx with hx |hx
         · cases hx;exact hb.2
         · exact e7 x hx
    · cases h
  · cases h
def ozv (f:List (Option Int)):List Int:=f.map fun o=>o.getD 0
theorem bVd (f:List (Option Int)):ov (roz f)=rz (ozv f):=by
 simp only[ov,roz,rz,ozv,List.map_map];apply List.map_congr_left;intro o _
 cases o <;>rfl
def bEx (args:List LV):Option LV:=match args with
 |[.sl n cs]=>match bEw n cs with
  |some f=>bif Nat.ble n 1000 && aH3 (ozv f)then some (aPa (bS (ozv f)))else none
  |none=>none
 |_=>none
theorem bEy {args:List LV}{r:LV}(h:bEx args=some r):PGd 219 args r:=by
 unfold bEx at h;split at h
 ·rename_i n cs;split at h
  ·rename_i f hf;obtain⟨rfl,rfl,h3⟩:=bLf hf
   cases hb:(Nat.ble f.length 1000 && aH3 (ozv f))with
   |false=>rw[hb,cond_false]at h;cases h
   |true=>
    rw[hb,cond_true]at h
    cases h
    rw[Bool.and_eq_true,Nat.ble_eq]at hb
    have hR1:=List.all_eq_true.1 hb.2
    have:=aJn (roz f) (by rw[aV5];exact hb.1) (fun q hq=>by
      obtain⟨o,ho,he⟩:=List.mem_map.1 hq
      cases o with
      |none=>cases he
      |some z=>
       injection he with he;subst he;have:=eM (iK (h3 z ho));show lq (z:Rat)≤100000
       omega)
    rw[wR (fun z hz=>hR1 z (rJ hz)),oQ,← bVd];rw[aV5]at this
    exact this
  ·cases h
 ·cases h
def aV6 (args:List LV):Option LV:=match aGg args with
 |some r=>some r
 |none=>bEx args
theorem bEz {args:List LV}{r:LV}(h:aV6 args=some r):PGd 219 args r:=by
 unfold aV6 at h;split at h
 ·rename_i r' hr
  cases h
  exact aGh (fun f h1 h2=>jQ f (by omega) (fun c hc=>by have:=h2 c hc;omega)) hr
 ·exact bEy h
noncomputable def bNx (n:Nat):Bool:=(match evo bLe 215 [.sl (dJ n).length (mJ (dJ n))]with
 |some (.sl k cs)=>match aDm cs with
  |some l=>Nat.beq k (dJ n).length && eqZ l (dJ n)
  |none=>false
 |_=>false) && (match evo bLe 214 [.sl (dJ n).length (mJ (dJ n))]with
 |some (.sl k cs)=>match aH2 k cs with
  |some l=>eqZ l (dJ n)
  |none=>false
 |_=>false)
theorem bVe:pF.all bNx=true:=by kernel_rfl
theorem aLt {n:Nat}(h:n∈pF):PGd 215 [.sl (dJ n).length (mJ (dJ n))] (.sl (dJ n).length (mJ (dJ n)))∧PGd 214 [.sl (dJ n).length (mJ (dJ n))] (encF (rz (dJ n))):=by
 have h:=List.all_eq_true.1 bVe n h;unfold bNx at h;rw[Bool.and_eq_true]at h
 obtain⟨h,h'⟩:=h;constructor
 ·split at h
  ·rename_i k cs h1;split at h
   ·rename_i l hl;rw[Bool.and_eq_true]at h
    have e1:=Nat.eq_of_beq_eq_true h.1;have e3:=vD h.2;subst e1;subst e3;have e4:=lN hl;rw[← e4]at h1⊢
    exact cV aLq h1
   ·cases h
  ·cases h
 ·split at h'
  ·rename_i k cs h1;split at h'
   ·rename_i l hl;have e3:=vD h';obtain⟨rfl,rfl,_⟩:=pZ hl;subst e3;rw[bE,bX];exact cV aLq h1
   ·cases h'
  ·cases h'
def bE0 (l:List Int):Option Nat:=pF.find? fun n=>eqZ l (dJ n)
theorem aPe {l:List Int}{n:Nat}(h:bE0 l=some n):n∈pF∧l=dJ n:=⟨List.mem_of_find?_eq_some h,vD (by simpa using List.find?_some h)⟩
def aV7 (args:List LV):Option LV:=match args with
 |[.sl k cs]=>match aDm cs with
  |some l=>match bE0 l with
   |some _=>bif Nat.beq k l.length then some (.sl k cs)else none
   |none=>none
  |none=>none
 |_=>none
def aV8 (args:List LV):Option LV:=match args with
 |[.sl k cs]=>match aDm cs with
  |some l=>match bE0 l with
   |some _=>bif Nat.beq k l.length && aH3 l then some (aPa l)else none
   |none=>none
  |none=>none
 |_=>none
theorem bE1 {args:List LV}{r:LV}(h:aV7 args=some r):PGd 215 args r:=by
 unfold aV7 at h;split at h
 ·rename_i k cs;split at h
  ·rename_i l hl;split at h
   ·rename_i n hn;obtain⟨m1,rfl⟩:=aPe hn
    cases hb:Nat.beq k (dJ n).length with
    |false=>rw[hb,cond_false]at h;cases h
    |true=>
     rw[hb,cond_true]at h
     cases h
     have e1:=Nat.eq_of_beq_eq_true hb;subst e1;rw[lN hl];exact(aLt m1).1
   ·cases h
  ·cases h
 ·cases h
theorem bE2 {args:List LV}{r:LV}(h:aV8 args=some r):PGd 214 args r:=by
 unfold aV8 at h;split at h
 ·rename_i k cs;split at h
  ·rename_i l hl;split at h
   ·rename_i n hn;obtain⟨m1,rfl⟩:=aPe hn
    cases hb:(Nat.beq k (dJ n).length && aH3 (dJ n))with
    |false=>rw[hb,cond_false]at h;cases h
    |true=>
     rw[hb,cond_true]at h
     cases h
     rw[Bool.and_eq_true]at hb
     have e1:=Nat.eq_of_beq_eq_true hb.1;subst e1;rw[lN hl,wR (List.all_eq_true.1 hb.2)];exact(aLt m1).2
   ·cases h
  ·cases h
 ·cases h
def cGi (f:FuncId) (args:List LV):Option LV:=bif Nat.beq f 217 then aV4 args else bif Nat.beq f 219 then aV6 args else bif Nat.beq f 215 then aV7 args else bif Nat.beq f 214 then aV8 args else bLe f args
theorem bLg:eV Tryz.prog cGi:=by
 intro f args r h;exact aR (f0:=217) (g:=aV4) (fun _ _ h=>bEv h) (aR (f0:=219) (g:=aV6) (fun _ _ h=>bEz h) (aR (f0:=215) (g:=aV7) (fun _ _ h=>bE1 h) (aR (f0:=214) (g:=aV8) (fun _ _ h=>bE2 h) aLq))) f args r h
end
section
open Go Go.Lg Go.Num
def okV (n:Nat) (v:List Nat):Bool:=Nat.beq v.length (od n).length && v.all fun e=>Nat.ble e 60
theorem aLu {n:Nat}{v:List Nat}(h:okV n v=true):v.length=(od n).length∧∀ i,v.getD i 0≤60:=by
 unfold okV at h;rw[Bool.and_eq_true,Nat.beq_eq,List.all_eq_true]at h
 exact⟨h.1,fun i=>aD5 (fun a ha=>Nat.le_of_ble_eq_true (h.2 a ha))⟩
def bVf (root q a:Nat):Nat:=bif Nat.beq (q % 2) 0 && Nat.beq (root+1) q then a % 4 / 2 else lgL root q (bif Nat.beq (q % 2) 0 && Nat.beq (a % 4) 3 then q-a else a) 64 1 0
theorem bLi (root q a:Nat):bVf root q a=lgA root q a:=by
 unfold bVf lgA lgS;by_cases h1:q % 2=0
 ·by_cases h2:root+1=q
  ·simp[h1,h2]
  ·by_cases h3:a % 4=3
   ·simp[h1,h2,h3,show Nat.beq (root+1) q=false from Bool.eq_false_iff.2 (fun e=>h2 (Nat.eq_of_beq_eq_true e))]
   ·simp[h1,h2,h3,show Nat.beq (root+1) q=false from Bool.eq_false_iff.2 (fun e=>h2 (Nat.eq_of_beq_eq_true e)),show Nat.beq (a % 4) 3=false from Bool.eq_false_iff.2 (fun e=>h3 (Nat.eq_of_beq_eq_true e))]
 ·simp[h1,show Nat.beq (q % 2) 0=false from Bool.eq_false_iff.2 (fun e=>h1 (Nat.eq_of_beq_eq_true e))]
def vK (n:Nat) (v:List Nat) (a:Int):Nat→Nat→Nat→Nat→Option (Nat×Nat)
 |0,_,x,y=>some (x,y)
 |f+1,i,x,y=>dC (pQ n i) fun q=>dC (rsd a q) fun r=>dC (bVf (pR n i) q r) fun l=>dC ((od n).getD i 0) fun o=>dC (x*o+v.getD i 0*l*y) fun N=>dC (y*o) fun D=>dC (Nat.gcd N D) fun g=>dC (D / g) fun y2=>dC (N / g % y2) fun x2=>vK n v a f (Nat.succ i) x2 y2
theorem bNy (n:Nat) (v:List Nat) (a:Int):∀ (f i:Nat),vK n v a f i (vf n v a i).1 (vf n v a i).2=some (vf n v a (i+f))
 |0,i=>rfl
 |f+1,i=>by
  unfold vK;simp only[cF,bLi];have:=bNy n v a f (i+1);rw[show i+1+f=i+(f+1)by omega]at this
  exact this
def bLj (n:Nat) (v:List Nat) (a:Int):Option LV:=bif Nat.beq (Nat.gcd a.natAbs n) 1 then(match vK n v a (od n).length 0 0 1 with
 |some (x,y)=>some (.agg [.lit (.bool false),.lit (.int .i64 (.ofNat x)),.lit (.int .i64 (.ofNat y))])
 |none=>none)else some (.agg [.lit (.bool true),.lit (.int .i64 0),.lit (.int .i64 0)])
theorem aV9 {n:Nat}{v:List Nat}{a:Int}{r:LV}(n1:1≤n) (n2:n≤60) (hv:okV n v=true) (ha: -4294967296≤a∧a≤4294967296) (h:bLj n v a=some r):PGd 77 [.agg [i64 n,.sl (nI v).length (ec (nI v))],i64 a] r:=by
 obtain⟨h1,h2⟩:=aLu hv;unfold bLj at h
 cases hb:Nat.beq (Nat.gcd a.natAbs n) 1 with
 |true=>
  rw[hb,cond_true]at h
  have e:=bNy n v a (od n).length 0;rw[Nat.zero_add]at e
  have e0:vf n v a 0=(0,1):=rfl;rw[e0]at e
  rw[e]at h
  cases h
  have hg:Int.gcd a n=1:=Nat.eq_of_beq_eq_true hb
  exact aZb n1 n2 h1 h2 a ha hg
 |false=>
  rw[hb,cond_false]at h
  cases h
  have hg:Int.gcd a n≠1:=fun e=>by
    have:Nat.beq (Nat.gcd a.natAbs n) 1=true:=by rw[Nat.beq_eq];exact e
    rw[this]at hb
    cases hb
  exact aZa (m:=n) (l:=nI v) ⟨by omega,by rw[cW,h1];have:=(tb (m:=n) n2).2.2.1;omega⟩ a ha (by omega) hg
def aWa (args:List LV):Option LV:=match args with
 |[.agg [.lit (.int .i64 (.ofNat n)),.sl k cs],.lit (.int .i64 a)]=>match vB cs with
  |some v=>bif Nat.ble 1 n && Nat.ble n 60 && Nat.beq k v.length && okV n v && Nat.ble a.natAbs 4294967296 then bLj n v a else none
  |none=>none
 |_=>none
theorem bE3 {args:List LV}{r:LV}(h:aWa args=some r):PGd 77 args r:=by
 unfold aWa at h;split at h
 ·rename_i n k cs a;split at h
  ·rename_i v hv;generalize hcond:(Nat.ble 1 n && Nat.ble n 60 && Nat.beq k v.length && okV n v && Nat.ble a.natAbs 4294967296)=q at h
   cases q with
   |false=>rw[cond_false]at h;cases h
   |true=>
    rw[cond_true]at h
    simp only[Bool.and_eq_true,Nat.ble_eq,Nat.beq_eq]at hcond;obtain⟨⟨⟨⟨c1,c2⟩,rfl⟩,c4⟩,c5⟩:=hcond;obtain⟨rfl,_⟩:=fZ hv;have:=aV9 c1 c2 c4 (by omega) h;rw[cW]at this
    exact this
  ·cases h
 ·cases h
def bLk (f:FuncId) (args:List LV):Option LV:=bif Nat.beq f 77 then aWa args else cGi f args
theorem aLv:eV Tryz.prog bLk:=aR (f0:=77) (g:=aWa) (fun _ _ h=>bE3 h) bLg
end
section
open Go Go.Lg Go.Num
def cGj:Nat→List Nat→List Nat→Nat
 |k,o::os,e::v=>dC (o / Nat.gcd o e) fun d=>dC (k / Nat.gcd k d*d) fun k=>cGj k os v
 |k,_,_=>k
def ordN (n:Nat) (v:List Nat):Nat:=cGj 1 (od n) v
noncomputable def bE4 (n:Nat) (v:List Nat):Bool:=Nat.ble 1 (ordN n v) && Nat.ble (ordN n v) 60 && (match evo bLk 56 [chV n v]with
 |some (.tup [.lit (.int .i64 (.ofNat k)),.lit (.int .i64 (.ofNat e))])=>Nat.beq k (ordN n v) && Nat.beq e 0
 |_=>false) && (match evo bLk 62 [chV n v]with
 |some (.lit (.int .i64 (.ofNat k)))=>Nat.beq k (ordN n v)
 |_=>false)
theorem bE5 {n:Nat}{v:List Nat}(h:bE4 n v=true):(1≤ordN n v∧ordN n v≤60)∧PGd 56 [.agg [i64 n,.sl (nI v).length (ec (nI v))]] (.tup [i64 (ordN n v),i64 0])∧PGd 62 [.agg [i64 n,.sl (nI v).length (ec (nI v))]] (i64 (ordN n v)):=by
 unfold bE4 at h;rw[Bool.and_eq_true,Bool.and_eq_true,Bool.and_eq_true,Nat.ble_eq,Nat.ble_eq]at h
 obtain⟨⟨h0,h⟩,h'⟩:=h;rw[← aB2];refine⟨h0,?_,?_⟩
 ·split at h
  ·rename_i k e he;rw[Bool.and_eq_true]at h
   have e1:=Nat.eq_of_beq_eq_true h.1;have e2:=Nat.eq_of_beq_eq_true h.2;rw[e1,e2]at he
   exact cV aLv he
  ·cases h
 ·split at h'
  ·rename_i k he;have e1:=Nat.eq_of_beq_eq_true h';rw[e1]at he
   exact cV aLv he
  ·cases h'
end
section
open Go Go.Lg Go.Num
def rtN (n d:Nat):Nat×Nat:=(n % d / Nat.gcd (n % d) d,d / Nat.gcd (n % d) d)
def tmN (a b:Nat×Nat):Nat×Nat:=rtN (a.1*b.2+b.1*a.2) (a.2*b.2)
def pwN (n g y:Nat):Nat→Nat
 |0=>y
 |k+1=>pwN n g y k*g % n
def yN (n:Nat) (t:List Nat):Nat→Nat
 |0=>1 % n
 |i+1=>pwN n ((gn n).getD i 0) (yN n t i) (t.getD i 0)
def wN (n:Nat) (v t:List Nat):Nat→Nat×Nat
 |0=>(0,1)
 |i+1=>tmN (wN n v t i) (rtN (t.getD i 0*v.getD i 0) ((od n).getD i 0))
def aZm (o:List Nat):Nat→List Nat→Nat→Option (List Nat)
 |0,_,_=>none
 |f+1,t,i=>if t.getD i 0+1=o.getD i 0 then aZm o f (t.set i 0) (i+1)else some (t.set i (t.getD i 0+1))
def bE6 (n:Nat) (v:List Nat) (r:Nat):Nat→List Nat→Option (Nat×Nat)
 |0,_=>none
 |f+1,t=>if yN n t (od n).length=r then some (wN n v t (od n).length)else match aZm (od n) (od n).length t 0 with
  |none=>some (wN n v t (od n).length)
  |some t'=>bE6 n v r f t'
theorem aS8 {n d:Nat}(hd:1≤d):(rtN n d).1<(rtN n d).2∧1≤(rtN n d).2∧(rtN n d).2≤d:=by
 have hg:0<Nat.gcd (n % d) d:=Nat.gcd_pos_of_pos_right _ hd;have hle:Nat.gcd (n % d) d≤d:=Nat.le_of_dvd hd (Nat.gcd_dvd_right _ _);have h2:0<d / Nat.gcd (n % d) d:=Nat.div_pos hle hg;have h3:=Nat.div_le_self d (Nat.gcd (n % d) d);refine⟨?_,h2,h3⟩;unfold rtN;simp only;rw[Nat.div_lt_iff_lt_mul hg,Nat.div_mul_cancel (Nat.gcd_dvd_right _ _)];exact Nat.mod_lt _ hd
theorem bVg {a b:Nat×Nat}{A:Nat}(ha:1≤a.2∧a.2≤A) (hb:1≤b.2∧b.2≤60):(tmN a b).1<(tmN a b).2∧1≤(tmN a b).2∧(tmN a b).2≤A*60:=by
 have h:=aS8 (n:=a.1*b.2+b.1*a.2) (d:=a.2*b.2) (Nat.mul_pos ha.1 hb.1);have h2:a.2*b.2≤A*60:=Nat.mul_le_mul ha.2 hb.2;exact⟨h.1,h.2.1,Nat.le_trans h.2.2 h2⟩
theorem bNz {n:Nat}(hn:n≤60) (v t:List Nat):∀ i,i≤(od n).length→(wN n v t i).1<(wN n v t i).2∧1≤(wN n v t i).2∧(wN n v t i).2≤60^i
 |0,_=>⟨Nat.zero_lt_one,Nat.le_refl _,Nat.le_refl _⟩
 |i+1,h=>by
  have ih:=bNz hn v t i (by omega);have ho:=aB1 hn (show i<(od n).length by omega);have hr:=aS8 (n:=t.getD i 0*v.getD i 0) ho.1;rw[wN,Nat.pow_succ];exact bVg ih.2 ⟨hr.2.1,by omega⟩
attribute [local irreducible] lrun lwp exThen exBlk keep goodPost ec pt gn od
theorem aS9 (a b c d:Nat) (ha:a≤1000000) (hb:1≤b∧b≤1000000) (hc:c≤1000) (hd:1≤d∧d≤1000):PGd 154 [.agg [.lit (.bool false),i64 a,i64 b],.agg [.lit (.bool false),i64 c,i64 d]] (.agg [.lit (.bool false),i64 ((tmN (a,b) (c,d)).1:Nat),i64 ((tmN (a,b) (c,d)).2:Nat)]):=by
 have m1:a*d≤1000000*1000:=Nat.mul_le_mul ha (by omega);have m2:c*b≤1000*1000000:=Nat.mul_le_mul (by omega) (by omega);have m3:b*d≤1000000*1000:=Nat.mul_le_mul (by omega) (by omega);have m4:1≤b*d:=Nat.mul_pos hb.1 hd.1;have g:=rK (a*d+c*b) (b*d) m4 (by omega) (by omega);unfold tmN rtN;simp only;have e1:(a:Int)*(d:Int)=((a*d:Nat):Int):=by simp
 have e2:(c:Int)*(b:Int)=((c*b:Nat):Int):=by simp
 have e3:(b:Int)*(d:Int)=((b*d:Nat):Int):=by simp
 have e4:((a*d:Nat):Int)+((c*b:Nat):Int)=((a*d+c*b:Nat):Int):=by simp
 generalize a*d=ad at*;generalize c*b=cb at*;generalize b*d=bd at*;generalize hs:ad+cb=s at*;generalize s % bd / Nat.gcd (s % bd) bd=x at*;generalize bd / Nat.gcd (s % bd) bd=y at*;simp only[i64]at*;refine aA aV Tryz.func154 rfl (by decide) (nt:=29) rfl (rs:=[.cell 4 89]) rfl (aW rfl) ?_;refine aBf (nd e1 (nd e2 (nd e3 e4))) ?_;exact aRl (nd e1 (nd e2 (nd e3 e4)))
theorem aTa {m:Int}{l:List Int}(hb:ChB m l) (a:Int) (ha: -4294967296≤a∧a≤4294967296) (hm:1≤m∧m≤60) (hg:Int.gcd a m≠1):PGd 68 [.agg [i64 m,.sl l.length (ec l)],i64 a] (.agg [bl true,i64 0,i64 0]):=by
 have gg:=oJ a m (by omega) (by omega);have h1:¬((Int.gcd a m:Nat):Int)=1:=by omega
 generalize Int.gcd a m=g at*;simp only[i64,bl]at*;refine aA aV Tryz.func68 rfl (by decide) (nt:=109) rfl (rs:=[.cell 4 89]) rfl (aW rfl) ?_;refine sA ?_;exact zQ2
end
section
open Go Go.Lg Go.Num
theorem bVh (t:List Nat) (i z:Nat):(nI t).set i (z:Int)=nI (t.set i z):=by simp[nI,List.map_set]
theorem bE7 (k:Nat):List.replicate k (0:Int)=nI (List.replicate k 0):=by simp[nI]
theorem bE8 {n g y:Nat}(hn:1≤n) (hy:y<n):∀ k,pwN n g y k<n
 |0=>hy
 |k+1=>Nat.mod_lt _ hn
theorem bN0 {n:Nat}(hn:1≤n) (t:List Nat):∀ i,yN n t i<n
 |0=>Nat.mod_lt _ hn
 |i+1=>bE8 hn (bN0 hn t i) _
attribute [local irreducible] lrun lwp exThen exBlk keep goodPost ec pt gn od
theorem aZn (a:Int) (m:Nat) (ha: -4294967296≤a∧a≤4294967296) (hm:1≤m∧m≤1000000):PGd 155 [i64 a,i64 m] (i64 (rsd a m)):=by
 have h1:=aAe a (m:=m) (by omega);have h2:=aLm a (b:=m) (by omega)
 have h3:((rsd a m:Nat):Int)=a % (m:Int):=by
  have:=Int.emod_nonneg a (show(m:Int)≠0 by omega);unfold rsd;omega
 rw[h3];by_cases h:a.tmod m<0
 ·rw[if_pos h]at h1
  rw[h1];clear h1 h3;simp only[i64];refine aA aV Tryz.func155 rfl (by decide) (nt:=15) rfl (rs:=[.tmp 4]) rfl (aW rfl) ?_;refine sA ?_;exact zQ2
 ·rw[if_neg h]at h1
  rw[h1];clear h1 h3;simp only[i64];refine aA aV Tryz.func155 rfl (by decide) (nt:=15) rfl (rs:=[.tmp 4]) rfl (aW rfl) ?_;refine sA ?_;exact zQ2
theorem aTb {n:Nat}{v:List Nat}(n1:1≤n) (n2:n≤60) (hv:v.length=(od n).length) (hv2:∀ i,v.getD i 0≤60) (a:Int) (ha: -4294967296≤a∧a≤4294967296) (hg:Int.gcd a n=1) {F x y:Nat}(hF:bE6 n v (rsd a n) F (List.replicate (od n).length 0)=some (x,y)):
  PGd 68 [.agg [i64 n,.sl (nI v).length (ec (nI v))],i64 a] (.agg [bl false,i64 x,i64 y]):=by
 have gg:=oJ a n (by omega) (by omega);rw[hg]at gg
 have gp:=aB0 n1 n2;rw[oK,oK]at gp
 have gm:=aZn a n ha (by omega);have r01:PGd 146 [i64 0,i64 1] (.agg [.lit (.bool false),i64 0,i64 1]):=rK 0 1 (by omega) (by omega) (by omega);obtain⟨t1,t2,t3,t4,t5,t6,t7,t8,t9⟩:=tb (m:=n) n2;have hvl:=cW v;have hgl:=cW (gn n);have hol:=cW (od n);have e1n:(1:Int) % (n:Int)=((1 % n:Nat):Int):=rfl;simp only[i64,bl]at gg gp gm r01⊢;rw[hvl,hv];generalize hk:(od n).length=k at*;generalize rsd a n=r at*;have hz:=bE7 k;refine aA aV Tryz.func68 rfl (by decide) (nt:=109) rfl (rs:=[.cell 4 89]) rfl (aW rfl) ?_
 (repeat(first|apply zO (by decide+kernel)|apply zP (by decide+kernel)|(apply zS;(case h=>constructor<;>decide))|((first|apply cB rfl|apply aS|apply zT rfl (by decide) rfl);(case hs=>(simp(disch:=first|omega|exact kD rfl|exact kX rfl) only[smY,simprocAttr,bl,i64,smE,rD,hz];exact rfl));first|refine bZ ?_|refine cA ?_|refine zq ?_|(case hg=>assumption))))
 refine aG (α:={s:Nat×List Nat // s.2.length=k∧(∀ i,i<k→s.2.getD i 0<(od n).getD i 0)∧bE6 n v r s.1 s.2=some (x,y)}) (fun s=>st 109 (lk [(1,i64 a),(2,.ptr 0 0),(4,.ptr 1 0),(5,i64 n),(6,.sl k (ec (nI (gn n)))),(7,.sl k (ec (nI (od n)))),(8,.own 2 0 k 1)]) (cG [(0,⟨25,[i64 n,.sl k (ec (nI v))],false⟩),(1,⟨89,[bl false,i64 0,i64 0],false⟩),(2,⟨3,ec (nI s.1.2),false⟩)]) 3) (fun s=>s.1.1) ⟨(F,List.replicate k 0),by simp,fun i hi=>by
  have h1:=aB1 (m:=n) n2 (show i<(od n).length by omega);have h2:(List.replicate k 0).getD i 0=0:=by simp[List.getD,List.getElem?_replicate,hi]
  simp only
  omega,hF⟩ ?_ ?_
 ·(refine fY [0,1,18] ?_ ?_ ?_;all_goals(first|(simp only[aB,aI,simprocAttr,bl,i64,smE,rD,hz];done) |(simp only[aI,simprocAttr,bl,i64,smE,rD,hz];try((repeat' apply And.intro);all_goals rfl)) |skip))
  all_goals(first |done |((repeat' apply And.intro);all_goals(first |trivial |rfl)))
 ·rintro⟨⟨f,t⟩,ht,hto,hf⟩;simp only at ht hto hf;simp only[st];refine jR e1n ?_;refine aG (α:={i:Nat // i≤k}) (fun i=>st 109 (lk [(1,i64 a),(2,.ptr 0 0),(4,.ptr 1 0),(5,i64 n),(6,.sl k (ec (nI (gn n)))),(7,.sl k (ec (nI (od n)))),(8,.own 2 0 k 1),(9,i64 (yN n t i.1:Nat)),(10,.ptr 3 0),(11,i64 i.1)]) (cG [(0,⟨25,[i64 n,.sl k (ec (nI v))],false⟩),(1,⟨89,[bl false,i64 0,i64 0],false⟩),(2,⟨3,ec (nI t),false⟩),(3,⟨89,[bl false,i64 ((wN n v t i.1).1:Nat),i64 ((wN n v t i.1).2:Nat)],false⟩)]) 4) (fun i=>k-i.1) ⟨0,by omega⟩ ?_ ?_
  ·
   exact aE7 e1n [0,1,2,6]
  ·rintro⟨i,hi⟩;simp only[st];by_cases hlt:i<k
   ·have hw:=bNz n2 v t i (by omega)
    have h60:(60:Nat)^i≤3600:=by
     have:i≤2:=by omega
     match i,this with
     |0,_=>decide
     |1,_=>decide
     |2,_=>decide
    have ho:=aB1 (m:=n) (i:=i) n2 (by omega);have hti:=hto i hlt;have hgi:(gn n).getD i 0≤60:=aD5 t5;have hvi:=hv2 i;have gv:=qN v i;have gt:=qN t i;have ggn:=qN (gn n) i;have god:=qN (od n) i;have htl:=cW t;have ylt:=bN0 n1 t i;have ys:yN n t (i+1)=pwN n ((gn n).getD i 0) (yN n t i) (t.getD i 0):=rfl;have ws:wN n v t (i+1)=tmN (wN n v t i) (rtN (t.getD i 0*v.getD i 0) ((od n).getD i 0)):=rfl;refine sA ?_;refine aG (α:={j:Nat // j≤t.getD i 0}) (fun j=>st 109 (lk [(1,i64 a),(2,.ptr 0 0),(4,.ptr 1 0),(5,i64 n),(6,.sl k (ec (nI (gn n)))),(7,.sl k (ec (nI (od n)))),(8,.own 2 0 k 1),(9,i64 (pwN n ((gn n).getD i 0) (yN n t i) j.1:Nat)),(10,.ptr 3 0),(11,i64 i),(12,i64 j.1)]) (cG [(0,⟨25,[i64 n,.sl k (ec (nI v))],false⟩),(1,⟨89,[bl false,i64 0,i64 0],false⟩),(2,⟨3,ec (nI t),false⟩),(3,⟨89,[bl false,i64 ((wN n v t i).1:Nat),i64 ((wN n v t i).2:Nat)],false⟩)]) 4) (fun j=>t.getD i 0-j.1) ⟨0,by omega⟩ ?_ ?_
    ·exact zL3 [0,1,2,3]
    ·rintro⟨j,hj⟩;simp only[st];have plt:=bE8 (g:=(gn n).getD i 0) n1 ylt j;by_cases hjl:j<t.getD i 0
     ·have ps:pwN n ((gn n).getD i 0) (yN n t i) (j+1)=pwN n ((gn n).getD i 0) (yN n t i) j*(gn n).getD i 0 % n:=rfl;have pb:pwN n ((gn n).getD i 0) (yN n t i) j*(gn n).getD i 0≤60*60:=Nat.mul_le_mul (by omega) hgi;have pc:((pwN n ((gn n).getD i 0) (yN n t i) j:Nat):Int)*(((gn n).getD i 0:Nat):Int)=((pwN n ((gn n).getD i 0) (yN n t i) j*(gn n).getD i 0:Nat):Int):=by simp
      have pd:((pwN n ((gn n).getD i 0) (yN n t i) j*(gn n).getD i 0:Nat):Int) % (n:Int)=((pwN n ((gn n).getD i 0) (yN n t i) j*(gn n).getD i 0 % n:Nat):Int):=rfl;rw[← ps]at pd
      generalize hp2:pwN n ((gn n).getD i 0) (yN n t i) (j+1)=p2 at*;generalize pwN n ((gn n).getD i 0) (yN n t i) j*(gn n).getD i 0=pm at*;generalize pwN n ((gn n).getD i 0) (yN n t i) j=p1 at*;refine jR (nd gt (nd ggn (nd pc (nd pd (nd htl (nd ht (nd hgl t2))))))) ?_;refine⟨⟨j+1,by omega⟩,?_,by simp only;omega⟩;exact aE7 hp2 [0,1,2,3]
     ·obtain rfl:j=t.getD i 0:=by omega
      rw[← ys];have rd:=aS8 (n:=t.getD i 0*v.getD i 0) ho.1;have tb1:t.getD i 0*v.getD i 0≤60*60:=Nat.mul_le_mul (by omega) hvi;have gr:=rK (t.getD i 0*v.getD i 0) ((od n).getD i 0) ho.1 (by omega) (by omega);have gr2:PGd 146 [i64 ((t.getD i 0*v.getD i 0:Nat):Int),i64 ((od n).getD i 0)] (.agg [.lit (.bool false),i64 ((rtN (t.getD i 0*v.getD i 0) ((od n).getD i 0)).1:Nat),i64 ((rtN (t.getD i 0*v.getD i 0) ((od n).getD i 0)).2:Nat)]):=gr;have gtm:=aS9 (wN n v t i).1 (wN n v t i).2 (rtN (t.getD i 0*v.getD i 0) ((od n).getD i 0)).1 (rtN (t.getD i 0*v.getD i 0) ((od n).getD i 0)).2 (by omega) (by omega) (by omega) (by omega);have hti2:((t.getD i 0:Nat):Int)*((v.getD i 0:Nat):Int)=((t.getD i 0*v.getD i 0:Nat):Int):=by simp
      have ws1:(wN n v t (i+1)).1=(tmN ((wN n v t i).1,(wN n v t i).2) ((rtN (t.getD i 0*v.getD i 0) ((od n).getD i 0)).1,(rtN (t.getD i 0*v.getD i 0) ((od n).getD i 0)).2)).1:=by rw[ws]
      have ws2:(wN n v t (i+1)).2=(tmN ((wN n v t i).1,(wN n v t i).2) ((rtN (t.getD i 0*v.getD i 0) ((od n).getD i 0)).1,(rtN (t.getD i 0*v.getD i 0) ((od n).getD i 0)).2)).2:=by rw[ws]
      clear gr ws;generalize tmN ((wN n v t i).1,(wN n v t i).2) ((rtN (t.getD i 0*v.getD i 0) ((od n).getD i 0)).1,(rtN (t.getD i 0*v.getD i 0) ((od n).getD i 0)).2)=w2 at*;generalize rtN (t.getD i 0*v.getD i 0) ((od n).getD i 0)=rr at*;generalize t.getD i 0*v.getD i 0=tv at*;generalize wN n v t i=w1 at*;simp only[i64]at gr2 gtm;refine jR (nd gt (nd gv (nd god (nd hti2 (nd htl (nd ht (nd hvl (nd hv hol)))))))) ?_;refine⟨⟨i+1,by omega⟩,?_,by simp only;omega⟩;exact aE7 (nd ws1 ws2) [0,1,2,3]
   ·obtain rfl:i=k:=by omega
    cases f with
    |zero=>cases hf
    |succ f=>
     rw[bE6,hk]at hf
     by_cases hy:yN n t i=r
     · rw[if_pos hy]at hf
       injection hf with hf;rw[hf,hy];refine sA ?_;exact zQ2
     · rw[if_neg hy]at hf
       have hy':¬((yN n t i:Nat):Int)=(r:Int):=by omega
       generalize yN n t i=yy at*;generalize wN n v t i=ww at*;have htl:=cW t;refine sA ?_;refine aG (α:={s:Nat×List Nat // s.1≤i∧s.2.length=i∧(∀ q,q<i→s.2.getD q 0<(od n).getD q 0)∧aZm (od n) i t 0=aZm (od n) (i-s.1) s.2 s.1}) (fun s=>st 109 (lk [(1,i64 a),(2,.ptr 0 0),(4,.ptr 1 0),(5,i64 n),(6,.sl i (ec (nI (gn n)))),(7,.sl i (ec (nI (od n)))),(8,.own 2 0 i 1),(10,.ptr 3 0),(13,i64 s.1.1)]) (cG [(0,⟨25,[i64 n,.sl i (ec (nI v))],false⟩),(1,⟨89,[bl false,i64 0,i64 0],false⟩),(2,⟨3,ec (nI s.1.2),false⟩),(3,⟨89,[bl false,i64 (ww.1:Nat),i64 (ww.2:Nat)],false⟩)]) 4) (fun s=>i-s.1.1) ⟨(0,t),by simp,ht,hto,by simp⟩ ?_ ?_
       · exact zL3 [0,1,2,3]
       · rintro⟨⟨j,u⟩,hj,hu,huo,hinc⟩;simp only at hj hu huo hinc;simp only[st];have gu:=qN u j;have god:=qN (od n) j;have hul:=cW u;by_cases hji:j<i
         · have ho:=aB1 (m:=n) (i:=j) n2 (by omega);have hsx:=bVh u j;obtain⟨d,hd⟩:∃ d,i-j=d+1:=⟨i-j-1,by omega⟩;rw[hd,aZm]at hinc
           by_cases hle:u.getD j 0+1=(od n).getD j 0
           · rw[if_pos hle]at hinc
             have h0:(nI u).set j 0=nI (u.set j 0):=hsx 0;refine jR (nd gu (nd god (nd hul (nd hu hol)))) ?_;refine⟨⟨(j+1,u.set j 0),by simp only;omega,by simp only;rw[List.length_set];exact hu,fun q hq=> ?_,by simp only;rw[show i-(j+1)=d by omega];exact hinc⟩,?_,by simp only;omega⟩
             · simp only;by_cases hqj:q=j
               · subst hqj;have:(u.set q 0).getD q 0=0:=by simp[show q<u.length by omega]
                 omega
               · have:(u.set j 0).getD q 0=u.getD q 0:=by simp[List.getD,List.getElem?_set,show¬j=q from fun e=>hqj e.symm]
                 rw[this];exact huo q hq
             · exact aE7 h0 [0,1,2,3]
           · rw[if_neg hle]at hinc
             have hub:u.getD j 0<60:=by have:=huo j hji;omega
             refine jR (nd gu (nd god (nd hul (nd hu hol)))) ?_;have h1:(nI u).set j ((u.getD j 0:Int)+1)=nI (u.set j (u.getD j 0+1)):=hsx (u.getD j 0+1);rw[hinc]at hf
             refine⟨⟨(f,u.set j (u.getD j 0+1)),by simp only;rw[List.length_set];exact hu,fun q hq=> ?_,hf⟩,?_,by simp only;omega⟩
             · simp only;by_cases hqj:q=j
               · subst hqj;have:(u.set q (u.getD q 0+1)).getD q 0=u.getD q 0+1:=by simp[show q<u.length by omega]
                 have:=huo q hq;omega
               · have:(u.set j (u.getD j 0+1)).getD q 0=u.getD q 0:=by simp[List.getD,List.getElem?_set,show¬j=q from fun e=>hqj e.symm]
                 rw[this];exact huo q hq
             · exact aE7 h1 [0,1,2]
         · obtain rfl:j=i:=by omega
           rw[Nat.sub_self,aZm]at hinc
           rw[hinc]at hf
           injection hf with hf;rw[hf];refine zA7 ?_;exact zQ6
end
section
open Go Go.Lg Go.Num
def aJp (args:List LV):Option LV:=match args with
 |[.agg [.lit (.int .i64 (.ofNat n)),.sl k cs],.lit (.int .i64 a)]=>match vB cs with
  |some v=>bif Nat.ble 1 n && Nat.ble n 60 && Nat.beq k v.length && okV n v && Nat.ble a.natAbs 4294967296 then(bif Nat.beq (Nat.gcd a.natAbs n) 1 then dC (rsd a n) fun r=>match bE6 n v r 64 (List.replicate (od n).length 0)with
   |some (x,y)=>some (.agg [.lit (.bool false),.lit (.int .i64 (.ofNat x)),.lit (.int .i64 (.ofNat y))])
   |none=>none
   else some (.agg [.lit (.bool true),.lit (.int .i64 0),.lit (.int .i64 0)]))else none
  |none=>none
 |_=>none
theorem aAi {args:List LV}{r:LV}(h:aJp args=some r):PGd 68 args r:=by
 unfold aJp at h;split at h
 ·rename_i n k cs a;split at h
  ·rename_i v hv;generalize hcond:(Nat.ble 1 n && Nat.ble n 60 && Nat.beq k v.length && okV n v && Nat.ble a.natAbs 4294967296)=q at h
   cases q with
   |false=>rw[cond_false]at h;cases h
   |true=>
    rw[cond_true]at h
    simp only[Bool.and_eq_true,Nat.ble_eq,Nat.beq_eq]at hcond;obtain⟨⟨⟨⟨c1,c2⟩,rfl⟩,c4⟩,c5⟩:=hcond;obtain⟨rfl,_⟩:=fZ hv;obtain⟨h1,h2⟩:=aLu c4
    cases hb:Nat.beq (Nat.gcd a.natAbs n) 1 with
    |true=>
     rw[hb,cond_true,cF]at h
     split at h
     · rename_i x y hF
       cases h
       have:=aTb c1 c2 h1 h2 a (by omega) (Nat.eq_of_beq_eq_true hb) hF;rw[cW]at this
       exact this
     · cases h
    |false=>
     rw[hb,cond_false]at h
     cases h
     have hg:Int.gcd a n≠1:=fun e=>by
       have:Nat.beq (Nat.gcd a.natAbs n) 1=true:=by rw[Nat.beq_eq];exact e
       rw[this]at hb
       cases hb
     have:=aTa (m:=n) (l:=nI v) ⟨by omega,by rw[cW,h1];have:=(tb (m:=n) c2).2.2.1;omega⟩ a (by omega) (by omega) hg;rw[cW]at this
     exact this
  ·cases h
 ·cases h
def cGk (f:FuncId) (args:List LV):Option LV:=bif Nat.beq f 68 then aJp args else bLk f args
theorem bLl:eV Tryz.prog cGk:=aR (f0:=68) (g:=aJp) (fun _ _ h=>aAi h) aLv
end
section
open Go Go.Lg Go.Num
attribute [local irreducible] lrun lwp exThen exBlk keep goodPost ec pt gn od rE
theorem aTc {m k x y:Int}{z:Bool}{l:List Int}(hb:ChB m l) (he:rE m l=0) (hk: -1073741824≤k∧k≤1073741824) (hv:PGd 77 [.agg [i64 m,.sl l.length (ec l)],i64 k] (.agg [.lit (.bool z),i64 x,i64 y])):PGd 44 [.agg [i64 m,.sl l.length (ec l)],i64 k] (.tup [.agg [.lit (.bool z),i64 x,i64 y],i64 0]):=by
 have g1:=aC7 m l hb.m1 hb.ln;rw[he]at g1
 simp only[i64,bl]at*;refine aA aV Tryz.func44 rfl (by decide) (nt:=23) rfl (rs:=[.cell 4 89,.tmp 5]) rfl (aW rfl) ?_;refine zA7 ?_;exact zQ6
attribute [local semireducible] rE od pt gn
def bLm (n:Nat) (v:List Nat):Bool:=okV n v && ((List.range v.length).all fun i=>Nat.blt (v.getD i 0) ((od n).getD i 0))
theorem aZo {n:Nat}{v:List Nat}(n1:1≤n) (n2:n≤60) (h:bLm n v=true):okV n v=true∧ChB (n:Int) (nI v)∧rE (n:Int) (nI v)=0:=by
 unfold bLm at h;rw[Bool.and_eq_true]at h
 obtain⟨h1,h2⟩:=h;obtain⟨v1,v2⟩:=aLu h1;refine⟨h1,⟨by omega,by rw[cW,v1];have:=(tb (m:=n) n2).2.2.1;omega⟩,?_⟩;unfold rE;rw[if_pos ⟨by omega,by omega⟩,Int.toNat_natCast,if_pos (by rw[cW,v1]),if_pos (fun i hi=> ?_)];rw[cW]at hi
 have:=Nat.le_of_ble_eq_true (List.all_eq_true.1 h2 i (List.mem_range.2 hi));rw[qN];omega
def aGl (args:List LV):Option LV:=match args with
 |[.agg [.lit (.int .i64 (.ofNat n)),.sl k cs],.lit (.int .i64 a)]=>match vB cs with
  |some v=>bif Nat.ble 1 n && Nat.ble n 60 && Nat.beq k v.length && bLm n v && Nat.ble a.natAbs 1073741824 then(match bLj n v a with
   |some (.agg [.lit (.bool z),.lit (.int .i64 x),.lit (.int .i64 y)])=>some (.tup [.agg [.lit (.bool z),.lit (.int .i64 x),.lit (.int .i64 y)],.lit (.int .i64 0)])
   |_=>none)else none
  |none=>none
 |_=>none
theorem aGm {args:List LV}{r:LV}(h:aGl args=some r):PGd 44 args r:=by
 unfold aGl at h;split at h
 ·rename_i n k cs a;split at h
  ·rename_i v hv;generalize hcond:(Nat.ble 1 n && Nat.ble n 60 && Nat.beq k v.length && bLm n v && Nat.ble a.natAbs 1073741824)=q at h
   cases q with
   |false=>rw[cond_false]at h;cases h
   |true=>
    rw[cond_true]at h
    simp only[Bool.and_eq_true,Nat.ble_eq,Nat.beq_eq]at hcond;obtain⟨⟨⟨⟨c1,c2⟩,rfl⟩,c4⟩,c5⟩:=hcond;obtain⟨rfl,_⟩:=fZ hv;obtain⟨o1,o2,o3⟩:=aZo c1 c2 c4;split at h
    · rename_i z x y hz
      cases h
      have g:=aV9 c1 c2 o1 (by omega) hz;have:=aTc o2 o3 (by omega) g;rw[cW]at this
      exact this
    · cases h
  ·cases h
 ·cases h
def rM (f:FuncId) (args:List LV):Option LV:=bif Nat.beq f 44 then aGl args else cGk f args
theorem gA:eV Tryz.prog rM:=aR (f0:=44) (g:=aGl) (fun _ _ h=>aGm h) bLl
end
end Go.Proofs.YtaidcaemdkncgaaGreatDoor
namespace Go.Num
section
def nC (f:List Rat) (x:Rat):Rat:=f.foldr (fun c acc=>acc*x+c) 0
def aTd (f:List Int) (x:Rat):Rat:=f.foldr (fun(c:Int) (acc:Rat)=>acc*x+(c:Rat)) 0
theorem aCb (c:Int) (f:List Int) (x:Rat):aTd (c::f) x=aTd f x*x+(c:Rat):=rfl
theorem yO (L:Int) (x:Rat):∀ l:List Int,nC (l.map fun u=>Rat.divInt u L) x=aTd l x*(L:Rat)⁻¹
 |[]=>by
  show(0:Rat)=0*_
  rw[Rat.zero_mul]
 |u::l=>by
  show nC (l.map fun u=>Rat.divInt u L) x*x+Rat.divInt u L=_;rw[yO L x l,aCb,Rat.divInt_eq_div,Rat.div_def];generalize (L:Rat)⁻¹=s
  grind
def ipB (n:Nat):List Int:=List.zipWith (fun(c:Nat) (u:Int)=>(c:Int)*u) (xB n) (bU.take (n+1)).reverse
theorem vE (n:Nat):(xB n).length=n+1:=by
 have h1:=iH n n;have h2:=iH n (n+1);rw[if_pos (Nat.le_refl _)]at h1
 rw[if_neg (by omega)]at h2
 obtain⟨h3,_⟩:=List.getElem?_eq_some_iff.1 h1;have:=List.getElem?_eq_none_iff.1 h2;omega
def yT (n:Nat):List Rat:=(List.range (n+1)).map fun j=>((ch n j:Int):Rat)*bq (n-j)
theorem bE9 {n:Nat}(hn:n≤60):yT n=(ipB n).map fun u=>Rat.divInt u bL:=by
 have hU:bU.length=61:=rfl;apply List.ext_getElem?;intro j;rw[yT,List.getElem?_map,List.getElem?_map,ipB,List.getElem?_zipWith,iH];by_cases hj:j≤n
 ·rw[if_pos hj,List.getElem?_range (by omega),List.getElem?_reverse (by rw[List.length_take,hU];omega),List.length_take,hU,Nat.min_eq_left (by omega),List.getElem?_take,if_pos (by omega)]
  have e:bU[n+1-1-j]? =some (bU.getD (n-j) 0):=by
   rw[show n+1-1-j=n-j by omega];simp[show n-j<bU.length by omega]
  rw[e];simp only[Option.map_some];congr 1;rw[bq,Rat.divInt_eq_div,Rat.divInt_eq_div,Rat.intCast_mul,Rat.div_def,Rat.div_def,Rat.mul_assoc]
 ·rw[if_neg hj,List.getElem?_eq_none (by simp;omega)];rfl
end
section
theorem aZp:((List.range 42).all fun n=>(ipB n).all fun u=>Nat.ble (u.natAbs+1) (2^255))=true:=by decide+kernel
theorem aWc {n:Nat}(hn:n≤41):∀ u∈ipB n,len u≤8:=by
 intro u hu;have h:=List.all_eq_true.1 (List.all_eq_true.1 aZp n (List.mem_range.2 (by omega))) u hu;exact bH (e:=8) (Nat.lt_of_lt_of_le (Nat.le_of_ble_eq_true h) (Nat.pow_le_pow_right (by omega) (by omega)))
theorem aJq {H D a d c:Rat}(hD:D≠0) (hd:d≠0):H / D*(a / d)+c=(H*a+c*(D*d)) / (D*d):=by
 rw[Rat.div_def,Rat.div_def,Rat.div_def];have h1:D*D⁻¹=1:=Rat.mul_inv_cancel _ hD;have h2:d*d⁻¹=1:=Rat.mul_inv_cancel _ hd
 have h3:(D*d)*(D*d)⁻¹=1:=Rat.mul_inv_cancel _ (fun e=>by
  rcases Rat.mul_eq_zero.1 e with h |h
  ·exact hD h
  ·exact hd h)
 have h4:(D*d)⁻¹=D⁻¹*d⁻¹:=by
  generalize (D*d)⁻¹=t at*;generalize D⁻¹=u at*;generalize d⁻¹=v at*
  grind
 rw[h4];generalize D⁻¹=u at*;generalize d⁻¹=v at*
 grind
theorem aJr {A C:Nat}{x:Rat}(h1:len x.num≤A) (h2:len (x.den:Int)≤A):∀ l:List Int,(∀ u∈l,len u≤C)→∃ H:Int,aTd l x=Rat.divInt H ((x.den:Int)^l.length)∧len H≤C+l.length*(A+1)+1
 |[],_=>⟨0,by rw[Rat.zero_divInt];rfl,by rw[show len 0=0 by simp[len,bD]];omega⟩
 |c::f,hC=>by
  obtain⟨H,e,hH⟩:=aJr h1 h2 f (fun u hu=>hC u (by simp[hu]));have hc:=hC c (by simp);refine⟨H*x.num+c*((x.den:Int)^f.length*(x.den:Int)),?_,?_⟩
  · rw[aCb,e]
    have hd:((x.den:Int):Rat)≠0:=by
      intro h;have:(x.den:Int)=0:=by exact_mod_cast h
      have:=x.den_nz;omega
    have hD:(((x.den:Int)^f.length:Int):Rat)≠0:=by
      intro h;have h5:(x.den:Int)^f.length=0:=by exact_mod_cast h
      have h6:(x.den:Int)≠0:=by have:=x.den_nz;omega
      exact Int.pow_ne_zero h6 h5
    conv=>lhs;arg 1;arg 2;rw[← Rat.num_divInt_den x]
    rw[List.length_cons,Int.pow_succ,Rat.divInt_eq_div,Rat.divInt_eq_div,Rat.divInt_eq_div,Rat.intCast_add,Rat.intCast_mul,Rat.intCast_mul,Rat.intCast_mul];exact aJq hD hd
  · have l1:=sH (H*x.num) (c*((x.den:Int)^f.length*(x.den:Int)));have l2:=cJ H x.num;have l3:=cJ c ((x.den:Int)^f.length*(x.den:Int));have l4:=cJ ((x.den:Int)^f.length) (x.den:Int);have l5:=jY (x.den:Int) f.length;have l6:f.length*len (x.den:Int)≤f.length*A:=Nat.mul_le_mul_left _ h2;rw[List.length_cons,Nat.succ_mul];rw[Nat.mul_add,Nat.mul_one]at hH⊢
    omega
theorem bLn {A C:Nat}{x:Rat}(hx:lq x≤A) (l:List Int) (hC:∀ u∈l,len u≤C):lq (aTd l x)≤C+l.length*(A+1)+1+(l.length*A+1):=by
 unfold lq at hx;obtain⟨H,e,hH⟩:=aJr (A:=A) (C:=C) (x:=x) (by omega) (by omega) l hC;have hd:(x.den:Int)^l.length≠0:=Int.pow_ne_zero (by have:=x.den_nz;omega);obtain⟨a1,a2⟩:=eQ (n:=H) hd;have l5:=jY (x.den:Int) l.length;have l6:l.length*len (x.den:Int)≤l.length*A:=Nat.mul_le_mul_left _ (by omega);rw[e];unfold lq;omega
theorem bFa:lq ((bL:Rat)⁻¹)≤10:=by decide+kernel
theorem aLw {A n k:Nat}{x:Rat}(hx:lq x≤A) (hA:A≤1000) (hn:n≤41):lq (nC ((yT n).drop k) x)≤100000:=by
 rw[bE9 (by omega),← List.map_drop,yO];have h1:=bLn hx ((ipB n).drop k) (C:=8) (fun u hu=>aWc hn u (List.mem_of_mem_drop hu));have h2:=jZ (aTd ((ipB n).drop k) x) ((bL:Rat)⁻¹);have h3:=bFa
 have hl:((ipB n).drop k).length≤42:=by
  have:(ipB n).length≤42:=by
   rw[ipB,List.length_zipWith,vE];omega
  rw[List.length_drop];omega
 have h4:((ipB n).drop k).length*(A+1)≤42*1001:=Nat.mul_le_mul hl (by omega);have h5:((ipB n).drop k).length*A≤42*1000:=Nat.mul_le_mul hl hA;omega
end
section
theorem len_two {z:Int}{a e:Nat}(hz:z.natAbs≤2^a) (h:a<32*e):len z≤e:=
 bH (Nat.lt_of_le_of_lt hz (Nat.pow_lt_pow_right (by omega) h))
theorem aPf {n k:Nat}(hn:n≤16384) (hk:k≤41):len ((n:Int)^k)≤20:=by
 have h1:n^k≤(2^14)^k:=Nat.pow_le_pow_left (by omega) k;rw[← Nat.pow_mul]at h1
 exact len_two (a:=14*k) (by rw[Int.natAbs_pow,Int.natAbs_natCast];exact h1) (by omega)
end
section
theorem bLo (q:Rat) (n:Nat):lq (q^n)≤n*lq q+2:=by
 unfold lq;rw[Rat.num_pow,Rat.den_pow,Int.natCast_pow,Nat.mul_add];have h1:=jY q.num n;have h2:=jY (q.den:Int) n;omega
theorem aGn {A C:Nat}{a d:Int}(hd0:d≠0) (h1:len a≤A) (h2:len d≤A):∀ l:List Int,(∀ u∈l,len u≤C)→∃ H:Int,aTd l (Rat.divInt a d)=Rat.divInt H (d^l.length)∧len H≤C+l.length*(A+1)+1
 |[],_=>⟨0,by rw[Rat.zero_divInt];rfl,by rw[show len 0=0 by simp[len,bD]];omega⟩
 |c::f,hC=>by
  obtain⟨H,e,hH⟩:=aGn hd0 h1 h2 f (fun u hu=>hC u (by simp[hu]));have hc:=hC c (by simp);refine⟨H*a+c*(d^f.length*d),?_,?_⟩
  · rw[aCb,e]
    have hd:(d:Rat)≠0:=by
      intro h;exact hd0 (by exact_mod_cast h)
    have hD:((d^f.length:Int):Rat)≠0:=by
      intro h;have h5:d^f.length=0:=by exact_mod_cast h
      exact Int.pow_ne_zero hd0 h5
    rw[List.length_cons,Int.pow_succ,Rat.divInt_eq_div,Rat.divInt_eq_div,Rat.divInt_eq_div,Rat.intCast_add,Rat.intCast_mul,Rat.intCast_mul,Rat.intCast_mul];exact aJq hD hd
  · have l1:=sH (H*a) (c*(d^f.length*d));have l2:=cJ H a;have l3:=cJ c (d^f.length*d);have l4:=cJ (d^f.length) d;have l5:=jY d f.length;have l6:f.length*len d≤f.length*A:=Nat.mul_le_mul_left _ h2;rw[List.length_cons,Nat.succ_mul];rw[Nat.mul_add,Nat.mul_one]at hH⊢
    omega
def tS (k f j:Nat):Rat:=((f:Int):Rat)^(k-1)*nC (yT k) (Rat.divInt ((j+1:Nat):Int) (f:Int))
def aCc (k f:Nat):Int:=(f:Int)^(k+1)*bL
theorem aTe {k:Nat}(hk:k≤60):(ipB k).length=k+1:=by
 have hU:bU.length=61:=rfl;rw[ipB,List.length_zipWith,vE,List.length_reverse,List.length_take,hU];omega
theorem aGo {k f j:Nat}(hk:k≤40) (hf:1≤f) (hf2:f≤60) (hj:j<f):∃ H:Int,tS k f j=Rat.divInt H (aCc k f)∧len H≤200:=by
 have la:len ((j+1:Nat):Int)≤1:=bH (e:=1) (by omega);have lf:len (f:Int)≤1:=bH (e:=1) (by omega);obtain⟨H,e,hH⟩:=aGn (A:=1) (C:=8) (a:=((j+1:Nat):Int)) (d:=(f:Int)) (by omega) la lf (ipB k) (fun u hu=>aWc (by omega) u hu);rw[aTe (by omega)]at e hH
 refine⟨(f:Int)^(k-1)*H,?_,?_⟩
 ·rw[tS,aCc,bE9 (by omega),yO,e,Rat.divInt_eq_div,Rat.divInt_eq_div,Rat.div_def,Rat.div_def,Rat.intCast_mul,Rat.intCast_mul,Rat.intCast_pow,Rat.inv_mul_rev,Rat.mul_assoc,Rat.mul_assoc];congr 2;all_goals(first |exact(Rat.intCast_pow _ _).symm |exact Rat.mul_comm _ _ |trace_state)
 ·have l1:=cJ ((f:Int)^(k-1)) H;have l2:=jY (f:Int) (k-1);have l3:(k-1)*len (f:Int)≤(k-1)*1:=Nat.mul_le_mul_left _ lf;omega
theorem sX {k f:Nat}(hf:1≤f):aCc k f≠0:=Int.mul_ne_zero (Int.pow_ne_zero (by omega)) bDl
theorem oT {k f:Nat}(hk:k≤40) (hf2:f≤60):len (aCc k f)≤60:=by
 have lf:len (f:Int)≤1:=bH (e:=1) (by omega);have l1:=cJ ((f:Int)^(k+1)) bL;have l2:=jY (f:Int) (k+1);have l3:(k+1)*len (f:Int)≤(k+1)*1:=Nat.mul_le_mul_left _ lf;have:=aSk;rw[aCc];omega
theorem bFb {k f j:Nat}(hk:k≤40) (hf:1≤f) (hf2:f≤60) (hj:j<f):lq (tS k f j)≤300:=by
 obtain⟨H,e,hH⟩:=aGo hk hf hf2 hj;have h1:=eQ (n:=H) (sX (k:=k) hf);have h2:=oT hk hf2;rw[e];unfold lq;omega
def aPg (c:Nat→Int) (k f:Nat):Nat→Rat
 |0=>0
 |n+1=>aPg c k f n+(c n:Rat)*tS k f n
theorem aCd (c:Nat→Int) (k f n:Nat):aPg c k f (n+1)=aPg c k f n+(c n:Rat)*tS k f n:=rfl
theorem bLp {c:Int}(hc:c=1∨c=0∨c= -1) (H:Int):len (c*H)≤len H:=by
 rcases hc with rfl |rfl |rfl
 ·rw[Int.one_mul];exact Nat.le_refl _
 ·rw[Int.zero_mul,show len 0=0 by simp[len,bD]];omega
 ·rw[Int.neg_mul,Int.one_mul,mW];exact Nat.le_refl _
theorem aJs {c:Nat→Int}{k f:Nat}(hc:∀ j,j<f→c j=1∨c j=0∨c j= -1) (hk:k≤40) (hf:1≤f) (hf2:f≤60):∀ n,n≤f→∃ N:Int,aPg c k f n=Rat.divInt N (aCc k f)∧len N≤200+n
 |0,_=>⟨0,by rw[Rat.zero_divInt];rfl,by rw[show len 0=0 by simp[len,bD]];omega⟩
 |n+1,h=>by
  obtain⟨N,e,hN⟩:=aJs hc hk hf hf2 n (by omega);obtain⟨H,e2,hH⟩:=aGo hk hf hf2 (j:=n) (by omega);have l1:=sH N (c n*H);have l2:=bLp (hc n (by omega)) H;exact⟨N+c n*H,by rw[aCd,e,e2,yI],by omega⟩
def smd (k f n:Nat):List Rat:=(List.range n).map (tS k f)
theorem sY (k f n:Nat):(smd k f n).length=n:=by simp[smd]
theorem bFc (k f n:Nat):smd k f (n+1)=smd k f n++[tS k f n]:=by simp[smd,List.range_succ]
theorem bFd {k f n j:Nat}(h:j<n):(smd k f n).getD j 0=tS k f j:=by simp[smd,h]
end
section
def mE (D:Int) (L:Nat) (q:Rat):Prop:=∃ z:Int,q=Rat.divInt z D∧len z≤L
theorem aAj (D:Int) (L:Nat):mE D L 0:=⟨0,by rw[Rat.zero_divInt],by rw[show len 0=0 by simp[len,bD]];omega⟩
theorem mE.mono {D:Int}{L M:Nat}{q:Rat}(h:mE D L q) (hM:L≤M):mE D M q:=by
 obtain⟨z,e,hz⟩:=h;exact⟨z,e,by omega⟩
theorem mE.lq {D:Int}{L K:Nat}{q:Rat}(h:mE D L q) (hD:D≠0) (hK:len D≤K):lq q≤L+K:=by
 obtain⟨z,e,hz⟩:=h;obtain⟨h1,h2⟩:=eQ (n:=z) hD;rw[e];unfold Go.Num.lq;omega
theorem mE.neg {D:Int}{L:Nat}{q:Rat}(h:mE D L q):mE D L (-q):=by
 obtain⟨z,e,hz⟩:=h;exact⟨-z,by rw[e,Rat.neg_divInt],by rw[mW];exact hz⟩
theorem mE.add {D:Int}{L:Nat}{p q:Rat}(h:mE D L p) (k:mE D L q):mE D (L+1) (p+q):=by
 obtain⟨z,e,hz⟩:=h;obtain⟨w,f,hw⟩:=k;have h1:=sH z w;refine⟨z+w,?_,by omega⟩;have:=yI z 1 w D;rw[Int.one_mul]at this
 rw[this,e,f,Rat.intCast_one,Rat.one_mul]
def aGp (b:Rat):Prop:=b=1∨b=0∨b= -1
theorem mE.mul1 {D:Int}{L:Nat}{c b:Rat}(h:mE D L c) (hb:aGp b):mE D L (c*b):=by
 rcases hb with rfl |rfl |rfl
 ·rw[Rat.mul_one];exact h
 ·rw[Rat.mul_zero];exact aAj D L
 ·rw[Rat.mul_neg,Rat.mul_one];exact h.neg
theorem mE.sub1 {D:Int}{L:Nat}{a c b:Rat}(h:mE D L a) (k:mE D L c) (hb:aGp b):mE D (L+1) (a-c*b):=by
 rw[Rat.sub_eq_add_neg];exact h.add (k.mul1 hb).neg
def gH (c:Rat):List Rat→List Rat→Nat→List Rat
 |[],r,_=>r
 |b::g,r,i=>gH c g (r.set i (r.getD i 0-c*b)) (i+1)
def eX (g:List Rat):Nat→List Rat→List Rat
 |0,r=>r
 |k+1,r=>eX g k (gH (r.getD (k+g.length-1) 0) g r k)
theorem vF (c:Rat):∀ (g r:List Rat) (i:Nat),(gH c g r i).length=r.length
 |[],r,_=>rfl
 |b::g,r,i=>by rw[gH,vF c g,List.length_set]
theorem kE (g:List Rat):∀ (k:Nat) (r:List Rat),(eX g k r).length=r.length
 |0,r=>rfl
 |k+1,r=>by rw[eX,kE g k,vF]
theorem xJ {r:List Rat}{i j:Nat}{x:Rat}(P:Rat→Prop) (hx:P x) (h:P (r.getD j 0)):P ((r.set i x).getD j 0):=by
 by_cases hj:j<r.length
 ·by_cases e:i=j
  ·subst e;simpa[List.getD,hj]using hx
  ·have:(r.set i x).getD j 0=r.getD j 0:=by simp[List.getD,List.getElem?_set,e]
   rw[this];exact h
 ·have:(r.set i x).getD j 0=r.getD j 0:=by simp[List.getD,Nat.le_of_not_lt hj]
  rw[this];exact h
theorem vG {r:List Rat}{i j:Nat}{x:Rat}(h:i≠j):(r.set i x).getD j 0=r.getD j 0:=by simp[List.getD,List.getElem?_set,h]
theorem aAk {D:Int}{L:Nat}{c:Rat}(hc:mE D L c):∀ (g r:List Rat) (i:Nat),(∀ b∈g,aGp b)→(∀ j,j<i→mE D (L+1) (r.getD j 0))→(∀ j,i≤j→mE D L (r.getD j 0))→∀ j,mE D (L+1) ((gH c g r i).getD j 0)
 |[],r,i,_,h1,h2,j=>by
  rcases Nat.lt_or_ge j i with h |h
  · exact h1 j h
  · exact(h2 j h).mono (by omega)
 |b::g,r,i,hg,h1,h2,j=>by
  rw[gH];have hi:=(h2 i (Nat.le_refl _)).sub1 hc (hg b (by simp));refine aAk hc g _ (i+1) (fun b hb=>hg b (by simp[hb])) (fun j hj=> ?_) (fun j hj=> ?_) j
  · refine xJ _ hi ?_;rcases Nat.lt_or_ge j i with h |h
    · exact h1 j h
    · exact(h2 j h).mono (by omega)
  · rw[vG (by omega)];exact h2 j (by omega)
theorem aGq {D:Int}{g:List Rat}(hg:∀ b∈g,aGp b):∀ (k L:Nat) (r:List Rat),(∀ j,mE D L (r.getD j 0))→∀ j,mE D (L+k) ((eX g k r).getD j 0)
 |0,L,r,h,j=>h j
 |k+1,L,r,h,j=>by
  rw[eX];have:=aGq hg k (L+1) (gH (r.getD (k+g.length-1) 0) g r k) (aAk (h (k+g.length-1)) g r k hg (fun j _=>(h j).mono (by omega)) (fun j _=>h j)) j;exact this.mono (by omega)
def sml (q:Rat):Bool:=decide (lq q≤5000)
theorem aCe {q:Rat}(h:sml q=true):lq q≤5000:=of_decide_eq_true h
theorem aGr {q:Rat}(h:lq q≤5000):sml q=true:=decide_eq_true h
def aGs (c:Rat):List Rat→List Rat→Nat→Option (List Rat)
 |[],r,_=>some r
 |b::g,r,i=>bif sml (c*b) && sml (r.getD i 0-c*b)then aGs c g (r.set i (r.getD i 0-c*b)) (i+1)else none
def aDn (g:List Rat) (gl:Rat):Nat→List (Option Rat)→List Rat→Option (List (Option Rat)×List Rat)
 |0,q,r=>some (q,r)
 |k+1,q,r=>bif sml (r.getD (k+g.length-1) 0 / gl)then(if r.getD (k+g.length-1) 0 / gl=0 then aDn g gl k (q.set k (some (r.getD (k+g.length-1) 0 / gl))) r else match aGs (r.getD (k+g.length-1) 0 / gl) g r k with
  |some r'=>aDn g gl k (q.set k (some (r.getD (k+g.length-1) 0 / gl))) r'
  |none=>none)else none
theorem aWe {D:Int}{L:Nat}{c:Rat}(hD:D≠0) (hK:len D≤60) (hL:L≤4000) (hc:mE D L c):∀ (g r:List Rat) (i:Nat),(∀ b∈g,aGp b)→(∀ j,i≤j→mE D L (r.getD j 0))→aGs c g r i=some (gH c g r i)
 |[],r,i,_,_=>rfl
 |b::g,r,i,hg,h2=>by
  have hb:=hg b (by simp);have s1:=aGr (q:=c*b) (by have:=(hc.mul1 hb).lq hD hK;omega);have s2:=aGr (q:=r.getD i 0-c*b) (by have:=((h2 i (Nat.le_refl _)).sub1 hc hb).lq hD hK;omega);rw[aGs,gH,s1,s2];simp only[Bool.and_self,cond_true]
  exact aWe hD hK hL hc g _ (i+1) (fun b hb=>hg b (by simp[hb])) (fun j hj=>by
    rw[vG (by omega)]
    exact h2 j (by omega))
theorem bFe {r:List Rat}{i:Nat}:r.set i (r.getD i 0)=r:=by
 refine List.ext_getElem (by simp) (fun j h1 h2=> ?_);rw[List.getElem_set];split
 ·rename_i e;subst e;simp[List.getD,h2]
 ·rfl
theorem aCf:∀ (g r:List Rat) (i:Nat),gH 0 g r i=r
 |[],r,_=>rfl
 |b::g,r,i=>by rw[gH,Rat.zero_mul,Rat.sub_eq_add_neg,Rat.neg_zero,Rat.add_zero,bFe,aCf g r]
theorem aLx {D:Int}{g:List Rat}(hD:D≠0) (hK:len D≤60) (hg:∀ b∈g,aGp b):∀ (k L:Nat) (q:List (Option Rat)) (r:List Rat),L+k≤4000→(∀ j,mE D L (r.getD j 0))→(∀ j,k≤j→j<q.length→q.getD j none≠none)→
  ∃ q',aDn g 1 k q r=some (q',eX g k r)∧q'.length=q.length∧∀ j,j<q.length→q'.getD j none≠none
 |0,L,q,r,_,_,hq=>⟨q,rfl,rfl,fun j hj=>hq j (Nat.zero_le _) hj⟩
 |k+1,L,q,r,hL,hr,hq=>by
  have e1:r.getD (k+g.length-1) 0 / 1=r.getD (k+g.length-1) 0:=by
    rw[Rat.div_def,show(1:Rat)⁻¹=1 by decide+kernel,Rat.mul_one]
  have hc:=hr (k+g.length-1);have s1:=aGr (q:=r.getD (k+g.length-1) 0) (by have:=hc.lq hD hK;omega)
  have hq':∀ j,k≤j→j<(q.set k (some (r.getD (k+g.length-1) 0))).length→(q.set k (some (r.getD (k+g.length-1) 0))).getD j none≠none:=fun j h1 h2=>by
    rw[List.length_set]at h2
    by_cases e:k=j
    · subst e;simp[List.getD,h2]
    · have:(q.set k (some (r.getD (k+g.length-1) 0))).getD j none=q.getD j none:=by simp[List.getD,List.getElem?_set,e]
      rw[this];exact hq j (by omega) h2
  rw[aDn,e1,s1,cond_true,eX];split
  · rename_i h0;rw[h0]at hq'
    rw[h0,aCf];obtain⟨q',h1,h2,h3⟩:=aLx hD hK hg k L _ r (by omega) hr hq';exact⟨q',h1,by rw[h2,List.length_set],fun j hj=>h3 j (by rw[List.length_set];exact hj)⟩
  · rw[aWe hD hK (by omega) hc g r k hg (fun j _=>hr j)];obtain⟨q',h1,h2,h3⟩:=aLx hD hK hg k (L+1) _ _ (by omega) (aAk hc g r k hg (fun j _=>(hr j).mono (by omega)) (fun j _=>hr j)) hq';exact⟨q',h1,by rw[h2,List.length_set],fun j hj=>h3 j (by rw[List.length_set];exact hj)⟩
theorem aJt {q:List (Option Rat)}(h:∀ j,j<q.length→q.getD j none≠none):∃ Q:List Rat,q=Q.map some∧Q.length=q.length:=by
 refine⟨q.map fun o=>o.getD 0,?_,by simp⟩;refine List.ext_getElem (by simp) (fun j h1 h2=> ?_);have:=h j h1;simp only[List.getD,List.getElem?_eq_getElem h1,Option.getD_some]at this
 cases hj:q[j]with
 |none=>exact absurd hj this
 |some x=>simp[hj]
end
end Go.Num
namespace Go.Proofs.YtaidcaemdkncgaaGreatDoor
section
open Go Go.Lg Go.Num
def aH5 (l:List Rat):Prop:=∀ q∈l,sml q=true
theorem aAl {l:List Rat}(h:aH5 l) {i:Nat}(hi:i<l.length):lq (l.getD i 0)≤5000:=by
 have:l.getD i 0=l[i]:=by simp[hi]
 rw[this];exact aCe (h _ (List.getElem_mem hi))
theorem bFf {l:List Rat}(h:aH5 l) {i:Nat}{q:Rat}(hq:sml q=true):aH5 (l.set i q):=by
 intro x hx;rcases List.mem_or_eq_of_mem_set hx with h1 |rfl
 ·exact h x h1
 ·exact hq
theorem aZq (g:List Rat) (gl:Rat) (q:List (Option Rat)) (r:List Rat):aDn g gl 0 q r=some (q,r):=rfl
theorem aZr {g:List Rat}{gl:Rat}{k:Nat}{q:List (Option Rat)}{r:List Rat}{x:List (Option Rat)×List Rat}(h:aDn g gl (k+1) q r=some x):sml (r.getD (k+g.length-1) 0 / gl)=true∧(r.getD (k+g.length-1) 0 / gl=0∧aDn g gl k (q.set k (some (r.getD (k+g.length-1) 0 / gl))) r=some x∨r.getD (k+g.length-1) 0 / gl≠0∧∃ r',aGs (r.getD (k+g.length-1) 0 / gl) g r k=some r'∧aDn g gl k (q.set k (some (r.getD (k+g.length-1) 0 / gl))) r'=some x):=by
 rw[aDn]at h
 cases ht:sml (r.getD (k+g.length-1) 0 / gl)with
 |false=>rw[ht,cond_false]at h;cases h
 |true=>
  rw[ht,cond_true]at h
  refine⟨rfl,?_⟩;split at h
  · rename_i hz;exact .inl ⟨hz,h⟩
  · rename_i hz;split at h
    · rename_i r' hr;exact .inr ⟨hz,r',hr,h⟩
    · cases h
theorem bFg (c:Rat) (r:List Rat) (i:Nat):aGs c [] r i=some r:=rfl
theorem aZs {c b:Rat}{g r r':List Rat}{i:Nat}(h:aGs c (b::g) r i=some r'):sml (c*b)=true∧sml (r.getD i 0-c*b)=true∧aGs c g (r.set i (r.getD i 0-c*b)) (i+1)=some r':=by
 rw[aGs]at h
 cases ht:(sml (c*b) && sml (r.getD i 0-c*b))with
 |false=>rw[ht,cond_false]at h;cases h
 |true=>
  rw[ht,cond_true]at h
  rw[Bool.and_eq_true]at ht
  exact⟨ht.1,ht.2,h⟩
attribute [local irreducible] lrun lwp exThen exBlk keep goodPost sg mg sml aGs aDn oc
theorem aPh (f g:List Rat) (lf:tP f) (tf:aH5 f) (hl:f.length<g.length) (hg:g.length≤1000):PGd 286 [encF f,encF g] (.tup [.sl 0 [],encF f]):=by
 have gn:=jQ f (by omega) (fun c hc=>by have:=aCe (tf c hc);omega);rw[lI lf]at gn
 simp only[bE]at*;refine aA aV Tryz.func286 rfl (by decide) (nt:=87) rfl (rs:=[.tmp 4,.tmp 5]) rfl (aW rfl) ?_;refine dP ?_;exact lU
theorem aTg (f g Q R:List Rat) (D:Nat) (lf:tP f) (tf:aH5 f) (tg:aH5 g) (hG:1≤g.length) (hg:g.length≤1000) (hf:f.length≤1000) (hD:f.length+1=D+g.length) (hD1:1≤D) (h0:g.getD (g.length-1) 0≠0)
  (h:aDn g (g.getD (g.length-1) 0) D (List.replicate D none) f=some (Q.map some,R)) (hQ:Q.length≤1000) (hR:R.length≤1000):PGd 286 [encF f,encF g] (.tup [encF (bQ Q),encF (bQ R)]):=by
 have gn:=aGe f lf (by omega) (fun c hc=>by have:=aCe (tf c hc);omega);have t1:=iJ Q (by omega);have t2:=iJ R (by omega);have hDz:((f.length:Int)-(g.length:Int)+1).toNat=D:=by omega
 have lgl:=aAl tg (i:=g.length-1) (by omega);simp only[bE]at*;refine aA aV Tryz.func286 rfl (by decide) (nt:=87) rfl (rs:=[.tmp 4,.tmp 5]) rfl (aW rfl) ?_;refine dP ?_;refine wB (by simp only[List.size_toArray,List.length_cons,List.length_nil,Nat.reduceAdd,Nat.max_def,Nat.reduceLeDiff,↓reduceIte];exact rfl) rfl rfl rfl (by decide) rfl (by simp(disch:=first|omega|exact kD rfl|exact kX rfl) only[smY,simprocAttr,bl,i64,smT];try exact rfl) gn (by simp[aB]) (by simp[dE]) ?_;refine tW hDz ?_;refine aG (α:={x:Nat×List (Option Rat)×List Rat // x.1≤D∧x.2.1.length=D∧x.2.2.length=f.length∧aH5 x.2.2∧aDn g (g.getD (g.length-1) 0) x.1 x.2.1 x.2.2=some (Q.map some,R)}) (fun x=>st 87 (lk [(0,.sl f.length (qc f)),(1,.sl g.length (qc g)),(4,.own 0 0 D 4),(5,.own 1 0 f.length 4),(6,i64 ((x.1.1:Int)-1))]) (cG [(0,⟨47,oc x.1.2.1,false⟩),(1,⟨47,qc x.1.2.2,false⟩)]) 2) (fun x=>x.1.1) ⟨(D,List.replicate D none,f),Nat.le_refl _,by simp,rfl,tf,h⟩ ?_ ?_
 ·(refine fY [17,5] ?_ ?_ ?_;all_goals(first|(simp only[aB,aI,simprocAttr,bl,i64,smT,smO,hDz];done) |(simp only[aI,simprocAttr,bl,i64,smT,smO,hDz];try((repeat' apply And.intro);all_goals rfl)) |skip))
  all_goals(first |done |((repeat' apply And.intro);all_goals(first |trivial |rfl)))
 ·rintro⟨⟨k,q,r⟩,hk,hq,hr,tr,hd⟩;simp only at hk hq hr tr hd;simp only[st];by_cases hk0:k=0
  ·subst hk0;rw[aZq]at hd
   injection hd with hd;injection hd with hd1 hd2;subst hd1 hd2;rw[List.length_map]at hq
   rw[wO];rw[hq]at t1
   rw[hr]at t2
   refine zA4 ?_;exact zQ5
  ·obtain⟨k,rfl⟩:∃ j,k=j+1:=⟨k-1,by omega⟩;obtain⟨tc,hd⟩:=aZr hd;have la:=aAl tr (i:=k+g.length-1) (by omega);have gq:=uT (r.getD (k+g.length-1) 0) (g.getD (g.length-1) 0) h0 (by omega) (by omega);have gz:=sW (r.getD (k+g.length-1) 0 / g.getD (g.length-1) 0) (by have:=aCe tc;omega);have lc:=aCe tc;generalize hc:r.getD (k+g.length-1) 0 / g.getD (g.length-1) 0=c at*;generalize ha:r.getD (k+g.length-1) 0=a at*;generalize hgl:g.getD (g.length-1) 0=gl at*;have hk1:((k+1:Nat):Int)-1=k:=by omega
   have hset:=lH (l:=q) (j:=k) (by omega) c;have hgs:(q.set k (some c)).getD k none=some c:=by simp[show k<q.length by omega]
   have hql:(q.set k (some c)).length=D:=by simp[hq]
   simp only[aH]at gq gz;rcases hd with⟨c0,hd⟩ |⟨c0,r',hs,hd⟩
   ·rw[nS c0]at gz
    simp only[i64,bl]at*;refine tW (nd ha (nd hgl (nd hk1 (nd hset hgs)))) ?_;refine⟨⟨(k,q.set k (some c),r),by simp only;omega,by simp only;exact hql,hr,tr,hd⟩,?_,by simp only;omega⟩;exact zL1 [0,1]
   ·rw[nT c0]at gz
    simp only[i64,bl]at*;refine tW (nd ha (nd hgl (nd hk1 (nd hset hgs)))) ?_;refine aG (α:={x:Nat×List Rat // x.1≤g.length∧x.2.length=f.length∧aH5 x.2∧aGs c (g.drop x.1) x.2 (k+x.1)=some r'}) (fun x=>st 87 (lk [(0,.sl f.length (qc f)),(1,.sl g.length (qc g)),(4,.own 0 0 D 4),(5,.own 1 0 f.length 4),(6,i64 k),(57,.sl g.length (qc g)),(58,i64 g.length),(59,i64 x.1.1)]) (cG [(0,⟨47,oc (q.set k (some c)),false⟩),(1,⟨47,qc x.1.2,false⟩)]) 2) (fun x=>g.length-x.1.1) ⟨(0,r),by simp,hr,tr,hs⟩ ?_ ?_
    ·exact zL1 [0,1]
    ·rintro⟨⟨j,y⟩,hj,hy,ty,hsub⟩;simp only at hj hy ty hsub;simp only[st];by_cases hlt:j<g.length
     ·rw[List.drop_eq_getElem_cons hlt]at hsub
      obtain⟨u1,u2,u3⟩:=aZs hsub;have hgj:g.getD j 0=g[j]:=by simp[hlt]
      rw[← hgj]at u1 u2 u3
      have lb:=aAl tg hlt;have ly:=aAl ty (i:=k+j) (by omega);have lm:=aCe u1;have gm:=gS c (g.getD j 0) (by omega) (by omega);have gs:=nL (y.getD (k+j) 0) (c*g.getD j 0) (by omega) (by omega);have hys:=aGf (l:=y) (j:=k+j) (by omega) (y.getD (k+j) 0-c*g.getD j 0);have hyl:(y.set (k+j) (y.getD (k+j) 0-c*g.getD j 0)).length=f.length:=by simp[hy]
      have tys:=bFf (i:=k+j) ty u2;have hkj:((k:Int)+(j:Int))=((k+j:Nat):Int):=by simp
      have hkb:k+j<y.length:=by omega
      have hgd:(qc (y.set (k+j) (y.getD (k+j) 0-c*g.getD j 0))).length=f.length*4:=by rw[gV,hyl]
      generalize hv:y.getD (k+j) 0-c*g.getD j 0=v at*;generalize hmm:c*g.getD j 0=mm at*;generalize hb:g.getD j 0=b at*;generalize hx:y.getD (k+j) 0=x at*;simp only[aH]at gm gs;refine tW (nd hb (nd hx (nd hgs (nd hkj hys)))) ?_;refine⟨⟨(j+1,y.set (k+j) v),by simp only;omega,by simp only;exact hyl,tys,by simp only;exact u3⟩,?_,by simp only;omega⟩;exact zL1 [0,1]
     ·obtain rfl:j=g.length:=by omega
      rw[List.drop_length,bFg]at hsub
      injection hsub with hsub;subst hsub;refine zA4 ?_;refine⟨⟨(k,q.set k (some c),y),by simp only;omega,by simp only;exact hql,hy,ty,hd⟩,?_,by simp only;omega⟩;exact zL1 [0,1]
end
section
open Go Go.Lg Go.Num
attribute [local irreducible] lrun lwp exThen exBlk keep goodPost sg mg oc mC
theorem bFh {P:Program}[Laid P] {f:FuncId}{args:List LV}{n sz:Nat}{ty:TypeId}{cells:List LV}(h:jX P f args n sz ty cells) (m:Nat):jX P f args n sz ty (cells.take m):=by
 obtain⟨hen,hpl,hgood⟩:=h;refine⟨hen,fun c hc=>hpl c (List.mem_of_mem_take hc),fun w St vs hSt hLd hvs=> ?_⟩;refine(hgood w St vs hSt hLd hvs).mono ?_;rintro e w' ⟨v,St',g,cs,rfl,hv,hge,hlt,hns,hg,hle,hr,h1,hrest⟩;have hl:(cells.take m).length≤cells.length:=by rw[List.length_take];omega
 have et:cs.toList.take (cells.take m).length=(cs.toList.take cells.length).take (cells.take m).length:=by
  rw[List.take_take,Nat.min_eq_left hl]
 have e2:cells.take m=cells.take (cells.take m).length:=by rw[List.length_take,← List.take_take,List.take_length]
 refine⟨v,St',g,cs,rfl,hv,hge,hlt,hns,hg,by omega,?_,fun u hu=>h1 u ?_,hrest⟩
 ·rw[et];refine⟨?_,fun i c u hc hu=> ?_⟩
  ·have:=hr.1;rw[List.length_take,List.length_take];omega
  ·rw[List.getElem?_take]at hu hc
   split at hu
   ·split at hc
    ·exact hr.2 i c u hc hu
    ·cases hc
   ·cases hu
 ·rw[et]at hu
  exact List.mem_of_mem_take hu
theorem eP {L:List Rat}{m:Nat}(h:m<L.length):L.take (m+1)=L.take m++[L.getD m 0]:=by
 rw[List.take_succ_eq_append_getElem h];simp[List.getD,h]
theorem rN (L:List Rat) (m:Nat):(qc L).take (m*4)=qc (L.take m):=by
 rcases Nat.lt_or_ge m L.length with h |h
 ·have e:qc L=qc (L.take m)++qc (L.drop m):=by
   conv=>lhs;rw[← List.take_append_drop m L]
   simp only[qc,List.flatMap_append]
  have hl:(qc (L.take m)).length=m*4:=by rw[gV,List.length_take];omega
  rw[e,← hl,List.take_left]
 ·rw[List.take_of_length_le h,List.take_of_length_le (by rw[gV];omega)]
theorem kF (L:List Rat):∃ m,m≤L.length∧bQ L=L.take m∧(∀ j,m≤j→L.getD j 0=0)∧(0<m→L.getD (m-1) 0≠0):=by
 obtain⟨n,hn⟩:∃ n,L.length=n:=⟨_,rfl⟩
 induction n generalizing L with
 |zero=>
  have:L=[]:=List.length_eq_zero_iff.1 hn;subst this
  exact⟨0,Nat.le_refl _,rfl,fun j _=>by simp,fun h=>by omega⟩
 |succ n ih=>
  have e:L=L.take n++[L.getD n 0]:=by
    rw[← eP (by omega),List.take_of_length_le (by omega)]
  by_cases hz:L.getD n 0=0
  · have hl:(L.take n).length=n:=by rw[List.length_take];omega
    obtain⟨m,h1,h2,h3,h4⟩:=ih (L.take n) hl;have hg:∀ j,j<n→(L.take n).getD j 0=L.getD j 0:=fun j hj=>by simp[List.getD,hj]
    refine⟨m,by omega,?_,fun j hj=> ?_,fun hm=> ?_⟩
    · have e2:bQ L=bQ (L.take n):=by
        conv=>lhs;rw[e,hz]
        exact kC _
      rw[e2,h2,List.take_take,Nat.min_eq_left (by omega)]
    · rcases Nat.lt_or_ge j n with h |h
      · rw[← hg j h];exact h3 j hj
      · by_cases hjn:j=n
        · subst hjn;exact hz
        · simp[List.getD,show L.length≤j by omega]
    · rw[← hg (m-1) (by omega)];exact h4 hm
  · refine⟨n+1,by omega,?_,fun j hj=>by simp[List.getD,show L.length≤j by omega],fun _=>hz⟩;rw[List.take_of_length_le (by omega)]
    conv=>lhs;rw[e]
    conv=>rhs;rw[e]
    exact gT _ hz
theorem vH (L:List Rat) (hl:L.length≤100000) (hf:∀ j,j<L.length→lq (L.getD j 0)≤100000):PGd 72 [encF L] (encF (bQ L)):=by
 obtain⟨k,hk0,hkt,hk1,hk2⟩:=kF L;obtain⟨N,hlen⟩:∃ N,L.length=N:=⟨_,rfl⟩;have hkl:(bQ L).length=k:=by rw[hkt,List.length_take];omega
 rw[bE,bE,hkl,hkt,hlen];rw[hlen]at hk0 hl hf
 refine aA aV Tryz.func72 rfl (by decide) (nt:=38) rfl (rs:=[.tmp 2]) rfl (aW rfl) ?_;refine dP ?_;refine aG (α:={m:Nat // m≤N}) (fun m=>st 38 (lk [(0,.sl N (qc L)),(3,nV 0 m.1),(4,i64 m.1)]) (cG (nB 0 m.1 (qc (L.take m.1)))) 1) (fun m=>N-m.1) ⟨0,by omega⟩ ?_ ?_
 ·simp only[mZ,nA]
  (refine Sub.plain ?_;simp only[aI,simprocAttr,bl,i64,smT])
  all_goals(first |done |simp)
 ·rintro⟨m,hm⟩;simp only[st];by_cases hlt:m<N
  ·have g2:=eN (L.getD m 0) (by have:=hf m (by omega);omega);have happ:=eP (L:=L) (m:=m) (by omega);have htl:(L.take m).length=m:=by rw[List.length_take];omega
   generalize hq:L.getD m 0=q at*;simp only[aH]at g2;by_cases h0:m=0
   ·simp only[oN h0,oO h0];refine cZ hq ?_;refine⟨⟨m+1,by omega⟩,?_,by simp only;omega⟩;subst h0;simp only[dW,dX]
    (refine fY [12] ?_ ?_ ?_;all_goals(first|(simp only[aB,aI,simprocAttr,bl,i64,smT];done) |(simp only[aI,simprocAttr,bl,i64,smT];try((repeat' apply And.intro);all_goals rfl)) |skip))
    have e:L.take 1=[q]:=happ;all_goals(first |done |(rw[e,← jK]))
   ·simp only[lY h0,lZ h0];refine cZ hq ?_;refine⟨⟨m+1,by omega⟩,?_,by simp only;omega⟩;simp only[dW,dX]
    (refine fY [12] ?_ ?_ ?_;all_goals(first|(simp only[aB,aI,simprocAttr,bl,i64,smT];done) |(simp only[aI,simprocAttr,bl,i64,smT];try((repeat' apply And.intro);all_goals rfl)) |skip))
    all_goals(first |done |(rw[happ,← iI]))
  ·obtain rfl:m=N:=by omega
   have htL:L.take m=L:=List.take_of_length_le (by omega);rw[htL];by_cases h0:m=0
   ·simp only[oN h0,oO h0];obtain rfl:k=0:=by omega
    subst h0
    (refine dP ?_;refine aG (α:=Unit) (fun _=>st 38 (lk [(3,nilL),(5,i64 0)]) (cG []) 0) (fun _=>0) () (by(refine Sub.plain ?_;simp only[aI,simprocAttr,bl,i64,smT]);all_goals done) (fun _=> ?_);simp only[st];refine dP ?_;refine fX rfl (by decide) rfl ?_;refine dP ?_;((first|apply dI|apply dK);case hres=>(simp only[gW];simp(disch:=first|omega|exact kD rfl|exact kX rfl) only[smY,simprocAttr,bl,i64,smT];exact rfl));simp(disch:=first|omega|exact kD rfl|exact kX rfl) only[smY,simprocAttr,bl,i64,smT];first |done |rfl)
   ·simp only[lY h0,lZ h0];refine dP ?_;refine aG (α:={j:Nat // k≤j∧j≤m}) (fun j=>st 38 (lk [(3,.own 0 0 m 4),(5,i64 j.1)]) (cG [(0,⟨47,qc L,false⟩)]) 1) (fun j=>j.1) ⟨m,by omega,Nat.le_refl _⟩ ?_ ?_
    ·exact zL0 [0]
    ·rintro⟨j,hj1,hj2⟩;simp only[st];rcases j with _ |j
     ·obtain rfl:k=0:=by omega
      refine dP ?_;refine fX rfl (by decide) rfl ?_;refine dP ?_
      (((first|apply dI|apply dK);case hres=>(simp only[gW];simp(disch:=first|omega|exact kD rfl|exact kX rfl) only[smY,simprocAttr,bl,i64,smT];exact rfl));simp(disch:=first|omega|exact kD rfl|exact kX rfl) only[smY,simprocAttr,bl,i64,smT];first |done |rfl |(simp only[rN];simp(disch:=first|omega|exact kD rfl|exact kX rfl) only[smY,simprocAttr,bl,i64,smT];done) |(simp only[rN];simp(disch:=first|omega|exact kD rfl|exact kX rfl) only[smY,simprocAttr,bl,i64,smT];rfl))
     ·have g3:=aC8 (L.getD j 0) (by have:=hf j (by omega);omega);have e3:((j+1:Nat):Int)-1=(j:Int):=by omega
      have hqc:(qc L).length=m*4:=by rw[gV,hlen]
      by_cases hjk:k=j+1
      ·have hnz:¬(L.getD j 0).num.sign=0:=fun e=>by
        have:=hk2 (by omega);rw[hjk,Nat.add_sub_cancel]at this
        exact this (Rat.num_eq_zero.1 (Int.sign_eq_zero_iff_zero.1 e))
       subst hjk;generalize hq:L.getD j 0=q at*;generalize q.num.sign=s at*;simp only[aH,i64]at g3;refine cZ (nd hq e3) ?_
       (((first|apply dI|apply dK);case hres=>(simp only[gW];simp(disch:=first|omega|exact kD rfl|exact kX rfl) only[smY,simprocAttr,bl,i64,smT,hq,e3];exact rfl));simp(disch:=first|omega|exact kD rfl|exact kX rfl) only[smY,simprocAttr,bl,i64,smT,hq,e3];first |done |rfl |(simp only[rN];simp(disch:=first|omega|exact kD rfl|exact kX rfl) only[smY,simprocAttr,bl,i64,smT,hq,e3];done) |(simp only[rN];simp(disch:=first|omega|exact kD rfl|exact kX rfl) only[smY,simprocAttr,bl,i64,smT,hq,e3];rfl))
      ·have hz:(L.getD j 0).num.sign=0:=by
        rw[hk1 j (by omega)];rfl
       rw[hz]at g3
       generalize hq:L.getD j 0=q at*;simp only[aH,i64]at g3;refine cZ (nd hq e3) ?_;refine⟨⟨j,by omega,by omega⟩,?_,by simp only;omega⟩;exact zL0 [0]
end
end Go.Proofs.YtaidcaemdkncgaaGreatDoor
