/- Contracts of functions of the program, and what proves them (texts: Q16 Q17 Q18 Num7 Num8 Num9 Num10 NumDv Q2s BC3 BC2 BC6 D2 D5 D7p D8p NumBC BC5 BC7 BC8 BC9 EAo E7e). -/
import Derived.Test.YtaidcaemdkncgaaGreatDoorZAM
import Derived.Test.YtaidcaemdkncgaaGreatDoorZFinSeriesAA
import Derived.Test.YtaidcaemdkncgaaGreatDoorZFinSeriesAB
set_option linter.all false
set_option maxRecDepth 100000
set_option maxHeartbeats 8000000
namespace Go.Proofs.YtaidcaemdkncgaaGreatDoor
section
open Go Go.Lg Go.Num
theorem bVv (t:List Nat) (i z:Nat):(nI t).set i (z:Int)=nI (t.set i z):=by simp[nI,List.map_set]
theorem bCo (k:Nat):List.replicate k (0:Int)=nI (List.replicate k 0):=by simp[nI]
theorem bCp {n g y:Nat}(hn:1≤n) (hy:y<n):∀ k,pwN n g y k<n
 |0=>hy
 |k+1=>Nat.mod_lt _ hn
theorem bOd {n:Nat}(hn:1≤n) (t:List Nat):∀ i,yN n t i<n
 |0=>Nat.mod_lt _ hn
 |i+1=>bCp hn (bOd hn t i) _
attribute [local irreducible] lrun lwp exThen exBlk keep goodPost ec pt gn od
theorem aW1 (a:Int) (m:Nat) (ha: -4294967296≤a∧a≤4294967296) (hm:1≤m∧m≤1000000):PureGood Tryz.prog 155 [i64 a,i64 m] (i64 (rsd a m)):=by
 have h1:=yV a (m:=m) (by omega)
 have h2:=aJx a (b:=m) (by omega)
 have h3:((rsd a m:Nat):Int)=a % (m:Int):=by
  have:=Int.emod_nonneg a (show(m:Int)≠0 by omega)
  unfold rsd
  omega
 rw[h3]
 by_cases h:a.tmod m<0
 ·rw[if_pos h]at h1
  rw[h1]
  clear h1 h3
  simp only[i64]
  refine aA bC Tryz.func155 rfl (by decide) (nt:=15) rfl (rs:=[.tmp 4]) rfl (aZ rfl) ?_
  refine xM ?_
  exact zQ3
 ·rw[if_neg h]at h1
  rw[h1]
  clear h1 h3
  simp only[i64]
  refine aA bC Tryz.func155 rfl (by decide) (nt:=15) rfl (rs:=[.tmp 4]) rfl (aZ rfl) ?_
  refine xM ?_
  exact zQ3
theorem aQ3 {n:Nat}{v:List Nat}(n1:1≤n) (n2:n≤60) (hv:v.length=(od n).length) (hv2:∀ i,v.getD i 0≤60) (a:Int) (ha: -4294967296≤a∧a≤4294967296) (hg:Int.gcd a n=1) {F x y:Nat}(hF:bCn n v (rsd a n) F (List.replicate (od n).length 0)=some (x,y)):
  PureGood Tryz.prog 68 [.agg [i64 n,.sl (nI v).length (ec (nI v))],i64 a] (.agg [bl false,i64 x,i64 y]):=by
 have gg:=nY a n (by omega) (by omega)
 rw[hg]at gg
 have gp:=aAz n1 n2
 rw[nZ,nZ]at gp
 have gm:=aW1 a n ha (by omega)
 have r01:PureGood Tryz.prog 146 [i64 0,i64 1] (.agg [.lit (.bool false),i64 0,i64 1]):=qM 0 1 (by omega) (by omega) (by omega)
 obtain⟨t1,t2,t3,t4,t5,t6,t7,t8,t9⟩:=tb (m:=n) n2
 have hvl:=dW v
 have hgl:=dW (gn n)
 have hol:=dW (od n)
 have e1n:(1:Int) % (n:Int)=((1 % n:Nat):Int):=rfl
 simp only[i64,bl]at gg gp gm r01⊢
 rw[hvl,hv]
 generalize hk:(od n).length=k at*
 generalize rsd a n=r at*
 have hz:=bCo k
 refine aA bC Tryz.func68 rfl (by decide) (nt:=109) rfl (rs:=[.cell 4 89]) rfl (aZ rfl) ?_
 (repeat(first|apply zO (by decide+kernel)|apply zP (by decide+kernel)|(apply zS;(case h=>constructor<;>decide))|((first|apply cD rfl|apply aR|apply zT rfl (by decide) rfl);(case hs=>(simp(disch:=first|omega|exact kD rfl|exact kX rfl) only[smY,simprocAttr,bl,i64,smE,lP,hz];exact rfl));first|refine cB ?_|refine cC ?_|refine zq ?_|(case hg=>assumption))))
 refine aI (α:={s:Nat×List Nat // s.2.length=k∧(∀ i,i<k→s.2.getD i 0<(od n).getD i 0)∧bCn n v r s.1 s.2=some (x,y)}) (fun s=>st 109 (lk [(1,i64 a),(2,.ptr 0 0),(4,.ptr 1 0),(5,i64 n),(6,.sl k (ec (nI (gn n)))),(7,.sl k (ec (nI (od n)))),(8,.own 2 0 k 1)]) (cP [(0,⟨25,[i64 n,.sl k (ec (nI v))],false⟩),(1,⟨89,[bl false,i64 0,i64 0],false⟩),(2,⟨3,ec (nI s.1.2),false⟩)]) 3) (fun s=>s.1.1) ⟨(F,List.replicate k 0),by simp,fun i hi=>by
  have h1:=aA0 (m:=n) n2 (show i<(od n).length by omega)
  have h2:(List.replicate k 0).getD i 0=0:=by simp[List.getD,List.getElem?_replicate,hi]
  simp only
  omega,hF⟩ ?_ ?_
 ·(refine Sub.heapL [0,1,18] rfl (by decide) ?_ (by simp only[fB];decide) ?_ ?_;all_goals(first|(simp only[aB,aG,dg,renL,renLs,simprocAttr,bl,i64,smE,lP,hz];done) |(simp only[aG,dg,renL,renLs,simprocAttr,bl,i64,smE,lP,hz];(repeat' apply And.intro);all_goals rfl) |(simp only[aG,dg,renL,renLs,simprocAttr,bl,i64,smE,lP,hz]) |skip))
  all_goals(first |done |((repeat' apply And.intro);all_goals(first |trivial |rfl)))
 ·rintro⟨⟨f,t⟩,ht,hto,hf⟩
  simp only at ht hto hf
  simp only[st]
  refine wR e1n ?_
  refine aI (α:={i:Nat // i≤k}) (fun i=>st 109 (lk [(1,i64 a),(2,.ptr 0 0),(4,.ptr 1 0),(5,i64 n),(6,.sl k (ec (nI (gn n)))),(7,.sl k (ec (nI (od n)))),(8,.own 2 0 k 1),(9,i64 (yN n t i.1:Nat)),(10,.ptr 3 0),(11,i64 i.1)]) (cP [(0,⟨25,[i64 n,.sl k (ec (nI v))],false⟩),(1,⟨89,[bl false,i64 0,i64 0],false⟩),(2,⟨3,ec (nI t),false⟩),(3,⟨89,[bl false,i64 ((wN n v t i.1).1:Nat),i64 ((wN n v t i.1).2:Nat)],false⟩)]) 4) (fun i=>k-i.1) ⟨0,by omega⟩ ?_ ?_
  ·
   exact aZ0 e1n [0,1,2,6]
  ·rintro⟨i,hi⟩
   simp only[st]
   by_cases hlt:i<k
   ·have hw:=bOc n2 v t i (by omega)
    have h60:(60:Nat)^i≤3600:=by
     have:i≤2:=by omega
     match i,this with
     |0,_=>decide
     |1,_=>decide
     |2,_=>decide
    have ho:=aA0 (m:=n) (i:=i) n2 (by omega)
    have hti:=hto i hlt
    have hgi:(gn n).getD i 0≤60:=aC0 t5
    have hvi:=hv2 i
    have gv:=rU v i
    have gt:=rU t i
    have ggn:=rU (gn n) i
    have god:=rU (od n) i
    have htl:=dW t
    have ylt:=bOd n1 t i
    have ys:yN n t (i+1)=pwN n ((gn n).getD i 0) (yN n t i) (t.getD i 0):=rfl
    have ws:wN n v t (i+1)=tmN (wN n v t i) (rtN (t.getD i 0*v.getD i 0) ((od n).getD i 0)):=rfl
    refine xM ?_
    refine aI (α:={j:Nat // j≤t.getD i 0}) (fun j=>st 109 (lk [(1,i64 a),(2,.ptr 0 0),(4,.ptr 1 0),(5,i64 n),(6,.sl k (ec (nI (gn n)))),(7,.sl k (ec (nI (od n)))),(8,.own 2 0 k 1),(9,i64 (pwN n ((gn n).getD i 0) (yN n t i) j.1:Nat)),(10,.ptr 3 0),(11,i64 i),(12,i64 j.1)]) (cP [(0,⟨25,[i64 n,.sl k (ec (nI v))],false⟩),(1,⟨89,[bl false,i64 0,i64 0],false⟩),(2,⟨3,ec (nI t),false⟩),(3,⟨89,[bl false,i64 ((wN n v t i).1:Nat),i64 ((wN n v t i).2:Nat)],false⟩)]) 4) (fun j=>t.getD i 0-j.1) ⟨0,by omega⟩ ?_ ?_
    ·exact zL3 [0,1,2,3]
    ·rintro⟨j,hj⟩
     simp only[st]
     have plt:=bCp (g:=(gn n).getD i 0) n1 ylt j
     by_cases hjl:j<t.getD i 0
     ·have ps:pwN n ((gn n).getD i 0) (yN n t i) (j+1)=pwN n ((gn n).getD i 0) (yN n t i) j*(gn n).getD i 0 % n:=rfl
      have pb:pwN n ((gn n).getD i 0) (yN n t i) j*(gn n).getD i 0≤60*60:=Nat.mul_le_mul (by omega) hgi
      have pc:((pwN n ((gn n).getD i 0) (yN n t i) j:Nat):Int)*(((gn n).getD i 0:Nat):Int)=((pwN n ((gn n).getD i 0) (yN n t i) j*(gn n).getD i 0:Nat):Int):=by simp
      have pd:((pwN n ((gn n).getD i 0) (yN n t i) j*(gn n).getD i 0:Nat):Int) % (n:Int)=((pwN n ((gn n).getD i 0) (yN n t i) j*(gn n).getD i 0 % n:Nat):Int):=rfl
      rw[← ps]at pd
      generalize hp2:pwN n ((gn n).getD i 0) (yN n t i) (j+1)=p2 at*
      generalize pwN n ((gn n).getD i 0) (yN n t i) j*(gn n).getD i 0=pm at*
      generalize pwN n ((gn n).getD i 0) (yN n t i) j=p1 at*
      refine wR (nd gt (nd ggn (nd pc (nd pd (nd htl (nd ht (nd hgl t2))))))) ?_
      refine⟨⟨j+1,by omega⟩,?_,by simp only;omega⟩
      exact aZ0 hp2 [0,1,2,3]
     ·obtain rfl:j=t.getD i 0:=by omega
      rw[← ys]
      have rd:=aQ0 (n:=t.getD i 0*v.getD i 0) ho.1
      have tb1:t.getD i 0*v.getD i 0≤60*60:=Nat.mul_le_mul (by omega) hvi
      have gr:=qM (t.getD i 0*v.getD i 0) ((od n).getD i 0) ho.1 (by omega) (by omega)
      have gr2:PureGood Tryz.prog 146 [i64 ((t.getD i 0*v.getD i 0:Nat):Int),i64 ((od n).getD i 0)] (.agg [.lit (.bool false),i64 ((rtN (t.getD i 0*v.getD i 0) ((od n).getD i 0)).1:Nat),i64 ((rtN (t.getD i 0*v.getD i 0) ((od n).getD i 0)).2:Nat)]):=gr
      have gtm:=aQ1 (wN n v t i).1 (wN n v t i).2 (rtN (t.getD i 0*v.getD i 0) ((od n).getD i 0)).1 (rtN (t.getD i 0*v.getD i 0) ((od n).getD i 0)).2 (by omega) (by omega) (by omega) (by omega)
      have hti2:((t.getD i 0:Nat):Int)*((v.getD i 0:Nat):Int)=((t.getD i 0*v.getD i 0:Nat):Int):=by simp
      have ws1:(wN n v t (i+1)).1=(tmN ((wN n v t i).1,(wN n v t i).2) ((rtN (t.getD i 0*v.getD i 0) ((od n).getD i 0)).1,(rtN (t.getD i 0*v.getD i 0) ((od n).getD i 0)).2)).1:=by rw[ws]
      have ws2:(wN n v t (i+1)).2=(tmN ((wN n v t i).1,(wN n v t i).2) ((rtN (t.getD i 0*v.getD i 0) ((od n).getD i 0)).1,(rtN (t.getD i 0*v.getD i 0) ((od n).getD i 0)).2)).2:=by rw[ws]
      clear gr ws
      generalize tmN ((wN n v t i).1,(wN n v t i).2) ((rtN (t.getD i 0*v.getD i 0) ((od n).getD i 0)).1,(rtN (t.getD i 0*v.getD i 0) ((od n).getD i 0)).2)=w2 at*
      generalize rtN (t.getD i 0*v.getD i 0) ((od n).getD i 0)=rr at*
      generalize t.getD i 0*v.getD i 0=tv at*
      generalize wN n v t i=w1 at*
      simp only[i64]at gr2 gtm
      refine wR (nd gt (nd gv (nd god (nd hti2 (nd htl (nd ht (nd hvl (nd hv hol)))))))) ?_
      refine⟨⟨i+1,by omega⟩,?_,by simp only;omega⟩
      exact aZ0 (nd ws1 ws2) [0,1,2,3]
   ·obtain rfl:i=k:=by omega
    cases f with
    |zero=>cases hf
    |succ f=>
     rw[bCn,hk]at hf
     by_cases hy:yN n t i=r
     · rw[if_pos hy]at hf
       injection hf with hf
       rw[hf,hy]
       refine xM ?_
       exact zQ3
     · rw[if_neg hy]at hf
       have hy':¬((yN n t i:Nat):Int)=(r:Int):=by omega
       generalize yN n t i=yy at*
       generalize wN n v t i=ww at*
       have htl:=dW t
       refine xM ?_
       refine aI (α:={s:Nat×List Nat // s.1≤i∧s.2.length=i∧(∀ q,q<i→s.2.getD q 0<(od n).getD q 0)∧aW0 (od n) i t 0=aW0 (od n) (i-s.1) s.2 s.1}) (fun s=>st 109 (lk [(1,i64 a),(2,.ptr 0 0),(4,.ptr 1 0),(5,i64 n),(6,.sl i (ec (nI (gn n)))),(7,.sl i (ec (nI (od n)))),(8,.own 2 0 i 1),(10,.ptr 3 0),(13,i64 s.1.1)]) (cP [(0,⟨25,[i64 n,.sl i (ec (nI v))],false⟩),(1,⟨89,[bl false,i64 0,i64 0],false⟩),(2,⟨3,ec (nI s.1.2),false⟩),(3,⟨89,[bl false,i64 (ww.1:Nat),i64 (ww.2:Nat)],false⟩)]) 4) (fun s=>i-s.1.1) ⟨(0,t),by simp,ht,hto,by simp⟩ ?_ ?_
       · exact zL3 [0,1,2,3]
       · rintro⟨⟨j,u⟩,hj,hu,huo,hinc⟩
         simp only at hj hu huo hinc
         simp only[st]
         have gu:=rU u j
         have god:=rU (od n) j
         have hul:=dW u
         by_cases hji:j<i
         · have ho:=aA0 (m:=n) (i:=j) n2 (by omega)
           have hsx:=bVv u j
           obtain⟨d,hd⟩:∃ d,i-j=d+1:=⟨i-j-1,by omega⟩
           rw[hd,aW0]at hinc
           by_cases hle:u.getD j 0+1=(od n).getD j 0
           · rw[if_pos hle]at hinc
             have h0:(nI u).set j 0=nI (u.set j 0):=hsx 0
             refine wR (nd gu (nd god (nd hul (nd hu hol)))) ?_
             refine⟨⟨(j+1,u.set j 0),by simp only;omega,by simp only;rw[List.length_set];exact hu,fun q hq=> ?_,by simp only;rw[show i-(j+1)=d by omega];exact hinc⟩,?_,by simp only;omega⟩
             · simp only
               by_cases hqj:q=j
               · subst hqj
                 have:(u.set q 0).getD q 0=0:=by simp[show q<u.length by omega]
                 omega
               · have:(u.set j 0).getD q 0=u.getD q 0:=by simp[List.getD,List.getElem?_set,show¬j=q from fun e=>hqj e.symm]
                 rw[this]
                 exact huo q hq
             · exact aZ0 h0 [0,1,2,3]
           · rw[if_neg hle]at hinc
             have hub:u.getD j 0<60:=by have:=huo j hji;omega
             refine wR (nd gu (nd god (nd hul (nd hu hol)))) ?_
             have h1:(nI u).set j ((u.getD j 0:Int)+1)=nI (u.set j (u.getD j 0+1)):=hsx (u.getD j 0+1)
             rw[hinc]at hf
             refine⟨⟨(f,u.set j (u.getD j 0+1)),by simp only;rw[List.length_set];exact hu,fun q hq=> ?_,hf⟩,?_,by simp only;omega⟩
             · simp only
               by_cases hqj:q=j
               · subst hqj
                 have:(u.set q (u.getD q 0+1)).getD q 0=u.getD q 0+1:=by simp[show q<u.length by omega]
                 have:=huo q hq
                 omega
               · have:(u.set j (u.getD j 0+1)).getD q 0=u.getD q 0:=by simp[List.getD,List.getElem?_set,show¬j=q from fun e=>hqj e.symm]
                 rw[this]
                 exact huo q hq
             · exact aZ0 h1 [0,1,2]
         · obtain rfl:j=i:=by omega
           rw[Nat.sub_self,aW0]at hinc
           rw[hinc]at hf
           injection hf with hf
           rw[hf]
           refine zA5 ?_
           exact zQ2
end
section
open Go Go.Lg Go.Num
def aH2 (args:List LV):Option LV:=match args with
 |[.agg [.lit (.int .i64 (.ofNat n)),.sl k cs],.lit (.int .i64 a)]=>match aNf cs with
  |some v=>bif Nat.ble 1 n && Nat.ble n 60 && Nat.beq k v.length && okV n v && Nat.ble a.natAbs 4294967296 then(bif Nat.beq (Nat.gcd a.natAbs n) 1 then eB (rsd a n) fun r=>match bCn n v r 64 (List.replicate (od n).length 0)with
   |some (x,y)=>some (.agg [.lit (.bool false),.lit (.int .i64 (.ofNat x)),.lit (.int .i64 (.ofNat y))])
   |none=>none
   else some (.agg [.lit (.bool true),.lit (.int .i64 0),.lit (.int .i64 0)]))else none
  |none=>none
 |_=>none
theorem yZ {args:List LV}{r:LV}(h:aH2 args=some r):PureGood Tryz.prog 68 args r:=by
 unfold aH2 at h
 split at h
 ·rename_i n k cs a
  split at h
  ·rename_i v hv
   generalize hcond:(Nat.ble 1 n && Nat.ble n 60 && Nat.beq k v.length && okV n v && Nat.ble a.natAbs 4294967296)=q at h
   cases q with
   |false=>rw[cond_false]at h;cases h
   |true=>
    rw[cond_true]at h
    simp only[Bool.and_eq_true,Nat.ble_eq,Nat.beq_eq]at hcond
    obtain⟨⟨⟨⟨c1,c2⟩,rfl⟩,c4⟩,c5⟩:=hcond
    obtain⟨rfl,_⟩:=vC hv
    obtain⟨h1,h2⟩:=aJ5 c4
    cases hb:Nat.beq (Nat.gcd a.natAbs n) 1 with
    |true=>
     rw[hb,cond_true,cR]at h
     split at h
     · rename_i x y hF
       cases h
       have:=aQ3 c1 c2 h1 h2 a (by omega) (Nat.eq_of_beq_eq_true hb) hF
       rw[dW]at this
       exact this
     · cases h
    |false=>
     rw[hb,cond_false]at h
     cases h
     have hg:Int.gcd a n≠1:=fun e=>by
       have:Nat.beq (Nat.gcd a.natAbs n) 1=true:=by rw[Nat.beq_eq];exact e
       rw[this]at hb
       cases hb
     have:=aQ2 (m:=n) (l:=nI v) ⟨by omega,by rw[dW,h1];have:=(tb (m:=n) c2).2.2.1;omega⟩ a (by omega) (by omega) hg
     rw[dW]at this
     exact this
  ·cases h
 ·cases h
def cF9 (f:FuncId) (args:List LV):Option LV:=bif Nat.beq f 68 then aH2 args else bIq f args
theorem bIr:fR Tryz.prog cF9:=aU (f0:=68) (g:=aH2) (fun _ _ h=>yZ h) aJ6
end
section
open Go Go.Lg Go.Num
attribute [local irreducible] lrun lwp exThen exBlk keep goodPost ec pt gn od jU
theorem aQ4 {m k x y:Int}{z:Bool}{l:List Int}(hb:ChB m l) (he:jU m l=0) (hk: -1073741824≤k∧k≤1073741824) (hv:PureGood Tryz.prog 77 [.agg [i64 m,.sl l.length (ec l)],i64 k] (.agg [.lit (.bool z),i64 x,i64 y])):PureGood Tryz.prog 44 [.agg [i64 m,.sl l.length (ec l)],i64 k] (.tup [.agg [.lit (.bool z),i64 x,i64 y],i64 0]):=by
 have g1:=uA m l hb.m1 hb.ln
 rw[he]at g1
 simp only[i64,bl]at*
 refine aA bC Tryz.func44 rfl (by decide) (nt:=23) rfl (rs:=[.cell 4 89,.tmp 5]) rfl (aZ rfl) ?_
 refine zA5 ?_
 exact zQ2
attribute [local semireducible] jU od pt gn
def bIs (n:Nat) (v:List Nat):Bool:=okV n v && ((List.range v.length).all fun i=>Nat.blt (v.getD i 0) ((od n).getD i 0))
theorem aW2 {n:Nat}{v:List Nat}(n1:1≤n) (n2:n≤60) (h:bIs n v=true):okV n v=true∧ChB (n:Int) (nI v)∧jU (n:Int) (nI v)=0:=by
 unfold bIs at h
 rw[Bool.and_eq_true]at h
 obtain⟨h1,h2⟩:=h
 obtain⟨v1,v2⟩:=aJ5 h1
 refine⟨h1,⟨by omega,by rw[dW,v1];have:=(tb (m:=n) n2).2.2.1;omega⟩,?_⟩
 unfold jU
 rw[if_pos ⟨by omega,by omega⟩,Int.toNat_natCast,if_pos (by rw[dW,v1]),if_pos (fun i hi=> ?_)]
 rw[dW]at hi
 have:=Nat.le_of_ble_eq_true (List.all_eq_true.1 h2 i (List.mem_range.2 hi))
 rw[rU]
 omega
def aFc (args:List LV):Option LV:=match args with
 |[.agg [.lit (.int .i64 (.ofNat n)),.sl k cs],.lit (.int .i64 a)]=>match aNf cs with
  |some v=>bif Nat.ble 1 n && Nat.ble n 60 && Nat.beq k v.length && bIs n v && Nat.ble a.natAbs 1073741824 then(match bIp n v a with
   |some (.agg [.lit (.bool z),.lit (.int .i64 x),.lit (.int .i64 y)])=>some (.tup [.agg [.lit (.bool z),.lit (.int .i64 x),.lit (.int .i64 y)],.lit (.int .i64 0)])
   |_=>none)else none
  |none=>none
 |_=>none
theorem aFd {args:List LV}{r:LV}(h:aFc args=some r):PureGood Tryz.prog 44 args r:=by
 unfold aFc at h
 split at h
 ·rename_i n k cs a
  split at h
  ·rename_i v hv
   generalize hcond:(Nat.ble 1 n && Nat.ble n 60 && Nat.beq k v.length && bIs n v && Nat.ble a.natAbs 1073741824)=q at h
   cases q with
   |false=>rw[cond_false]at h;cases h
   |true=>
    rw[cond_true]at h
    simp only[Bool.and_eq_true,Nat.ble_eq,Nat.beq_eq]at hcond
    obtain⟨⟨⟨⟨c1,c2⟩,rfl⟩,c4⟩,c5⟩:=hcond
    obtain⟨rfl,_⟩:=vC hv
    obtain⟨o1,o2,o3⟩:=aW2 c1 c2 c4
    split at h
    · rename_i z x y hz
      cases h
      have g:=aTv c1 c2 o1 (by omega) hz
      have:=aQ4 o2 o3 (by omega) g
      rw[dW]at this
      exact this
    · cases h
  ·cases h
 ·cases h
def aW3 (f:FuncId) (args:List LV):Option LV:=bif Nat.beq f 44 then aFc args else cF9 f args
theorem zA:fR Tryz.prog aW3:=aU (f0:=44) (g:=aFc) (fun _ _ h=>aFd h) bIr
end
end Go.Proofs.YtaidcaemdkncgaaGreatDoor
namespace Go.Num
section
def mW (f:List Rat) (x:Rat):Rat:=f.foldr (fun c acc=>acc*x+c) 0
def aQ5 (f:List Int) (x:Rat):Rat:=f.foldr (fun(c:Int) (acc:Rat)=>acc*x+(c:Rat)) 0
theorem aBa (c:Int) (f:List Int) (x:Rat):aQ5 (c::f) x=aQ5 f x*x+(c:Rat):=rfl
theorem xJ (L:Int) (x:Rat):∀ l:List Int,mW (l.map fun u=>Rat.divInt u L) x=aQ5 l x*(L:Rat)⁻¹
 |[]=>by
  show(0:Rat)=0*_
  rw[Rat.zero_mul]
 |u::l=>by
  show mW (l.map fun u=>Rat.divInt u L) x*x+Rat.divInt u L=_
  rw[xJ L x l,aBa,Rat.divInt_eq_div,Rat.div_def]
  generalize (L:Rat)⁻¹=s
  grind
def ipB (n:Nat):List Int:=List.zipWith (fun(c:Nat) (u:Int)=>(c:Int)*u) (vU n) (bU.take (n+1)).reverse
theorem uD (n:Nat):(vU n).length=n+1:=by
 have h1:=gX n n
 have h2:=gX n (n+1)
 rw[if_pos (Nat.le_refl _)]at h1
 rw[if_neg (by omega)]at h2
 obtain⟨h3,_⟩:=List.getElem?_eq_some_iff.1 h1
 have:=List.getElem?_eq_none_iff.1 h2
 omega
def xN (n:Nat):List Rat:=(List.range (n+1)).map fun j=>((ch n j:Int):Rat)*bq (n-j)
theorem bCq {n:Nat}(hn:n≤60):xN n=(ipB n).map fun u=>Rat.divInt u bL:=by
 have hU:bU.length=61:=rfl
 apply List.ext_getElem?
 intro j
 rw[xN,List.getElem?_map,List.getElem?_map,ipB,List.getElem?_zipWith,gX]
 by_cases hj:j≤n
 ·rw[if_pos hj,List.getElem?_range (by omega),List.getElem?_reverse (by rw[List.length_take,hU];omega),List.length_take,hU,Nat.min_eq_left (by omega),List.getElem?_take,if_pos (by omega)]
  have e:bU[n+1-1-j]? =some (bU.getD (n-j) 0):=by
   rw[show n+1-1-j=n-j by omega]
   simp[show n-j<bU.length by omega]
  rw[e]
  simp only[Option.map_some]
  congr 1
  rw[bq,Rat.divInt_eq_div,Rat.divInt_eq_div,Rat.intCast_mul,Rat.div_def,Rat.div_def,Rat.mul_assoc]
 ·rw[if_neg hj,List.getElem?_eq_none (by simp;omega)]
  rfl
end
section
theorem aW4:((List.range 42).all fun n=>(ipB n).all fun u=>Nat.ble (u.natAbs+1) (2^255))=true:=by decide+kernel
theorem aTy {n:Nat}(hn:n≤41):∀ u∈ipB n,len u≤8:=by
 intro u hu
 have h:=List.all_eq_true.1 (List.all_eq_true.1 aW4 n (List.mem_range.2 (by omega))) u hu
 exact bG (e:=8) (Nat.lt_of_lt_of_le (Nat.le_of_ble_eq_true h) (Nat.pow_le_pow_right (by omega) (by omega)))
theorem aH3 {H D a d c:Rat}(hD:D≠0) (hd:d≠0):H / D*(a / d)+c=(H*a+c*(D*d)) / (D*d):=by
 rw[Rat.div_def,Rat.div_def,Rat.div_def]
 have h1:D*D⁻¹=1:=Rat.mul_inv_cancel _ hD
 have h2:d*d⁻¹=1:=Rat.mul_inv_cancel _ hd
 have h3:(D*d)*(D*d)⁻¹=1:=Rat.mul_inv_cancel _ (fun e=>by
  rcases Rat.mul_eq_zero.1 e with h |h
  ·exact hD h
  ·exact hd h)
 have h4:(D*d)⁻¹=D⁻¹*d⁻¹:=by
  generalize (D*d)⁻¹=t at*
  generalize D⁻¹=u at*
  generalize d⁻¹=v at*
  grind
 rw[h4]
 generalize D⁻¹=u at*
 generalize d⁻¹=v at*
 grind
theorem aH4 {A C:Nat}{x:Rat}(h1:len x.num≤A) (h2:len (x.den:Int)≤A):∀ l:List Int,(∀ u∈l,len u≤C)→∃ H:Int,aQ5 l x=Rat.divInt H ((x.den:Int)^l.length)∧len H≤C+l.length*(A+1)+1
 |[],_=>⟨0,by rw[Rat.zero_divInt];rfl,by rw[show len 0=0 by simp[len,aX]];omega⟩
 |c::f,hC=>by
  obtain⟨H,e,hH⟩:=aH4 h1 h2 f (fun u hu=>hC u (by simp[hu]))
  have hc:=hC c (by simp)
  refine⟨H*x.num+c*((x.den:Int)^f.length*(x.den:Int)),?_,?_⟩
  · rw[aBa,e]
    have hd:((x.den:Int):Rat)≠0:=by
      intro h
      have:(x.den:Int)=0:=by exact_mod_cast h
      have:=x.den_nz
      omega
    have hD:(((x.den:Int)^f.length:Int):Rat)≠0:=by
      intro h
      have h5:(x.den:Int)^f.length=0:=by exact_mod_cast h
      have h6:(x.den:Int)≠0:=by have:=x.den_nz;omega
      exact Int.pow_ne_zero h6 h5
    conv=>lhs;arg 1;arg 2;rw[← Rat.num_divInt_den x]
    rw[List.length_cons,Int.pow_succ,Rat.divInt_eq_div,Rat.divInt_eq_div,Rat.divInt_eq_div,Rat.intCast_add,Rat.intCast_mul,Rat.intCast_mul,Rat.intCast_mul]
    exact aH3 hD hd
  · have l1:=rE (H*x.num) (c*((x.den:Int)^f.length*(x.den:Int)))
    have l2:=cH H x.num
    have l3:=cH c ((x.den:Int)^f.length*(x.den:Int))
    have l4:=cH ((x.den:Int)^f.length) (x.den:Int)
    have l5:=jR (x.den:Int) f.length
    have l6:f.length*len (x.den:Int)≤f.length*A:=Nat.mul_le_mul_left _ h2
    rw[List.length_cons,Nat.succ_mul]
    rw[Nat.mul_add,Nat.mul_one]at hH⊢
    omega
theorem bIt {A C:Nat}{x:Rat}(hx:lq x≤A) (l:List Int) (hC:∀ u∈l,len u≤C):lq (aQ5 l x)≤C+l.length*(A+1)+1+(l.length*A+1):=by
 unfold lq at hx
 obtain⟨H,e,hH⟩:=aH4 (A:=A) (C:=C) (x:=x) (by omega) (by omega) l hC
 have hd:(x.den:Int)^l.length≠0:=Int.pow_ne_zero (by have:=x.den_nz;omega)
 obtain⟨a1,a2⟩:=eK (n:=H) hd
 have l5:=jR (x.den:Int) l.length
 have l6:l.length*len (x.den:Int)≤l.length*A:=Nat.mul_le_mul_left _ (by omega)
 rw[e]
 unfold lq
 omega
theorem bCr:lq ((bL:Rat)⁻¹)≤10:=by decide+kernel
theorem aJ7 {A n k:Nat}{x:Rat}(hx:lq x≤A) (hA:A≤1000) (hn:n≤41):lq (mW ((xN n).drop k) x)≤100000:=by
 rw[bCq (by omega),← List.map_drop,xJ]
 have h1:=bIt hx ((ipB n).drop k) (C:=8) (fun u hu=>aTy hn u (List.mem_of_mem_drop hu))
 have h2:=kK (aQ5 ((ipB n).drop k) x) ((bL:Rat)⁻¹)
 have h3:=bCr
 have hl:((ipB n).drop k).length≤42:=by
  have:(ipB n).length≤42:=by
   rw[ipB,List.length_zipWith,uD]
   omega
  rw[List.length_drop]
  omega
 have h4:((ipB n).drop k).length*(A+1)≤42*1001:=Nat.mul_le_mul hl (by omega)
 have h5:((ipB n).drop k).length*A≤42*1000:=Nat.mul_le_mul hl hA
 omega
end
section
theorem len_two {z:Int}{a e:Nat}(hz:z.natAbs≤2^a) (h:a<32*e):len z≤e:=
 bG (Nat.lt_of_le_of_lt hz (Nat.pow_lt_pow_right (by omega) h))
theorem aNq {n k:Nat}(hn:n≤16384) (hk:k≤41):len ((n:Int)^k)≤20:=by
 have h1:n^k≤(2^14)^k:=Nat.pow_le_pow_left (by omega) k
 rw[← Nat.pow_mul]at h1
 exact len_two (a:=14*k) (by rw[Int.natAbs_pow,Int.natAbs_natCast];exact h1) (by omega)
end
section
theorem bIu (q:Rat) (n:Nat):lq (q^n)≤n*lq q+2:=by
 unfold lq
 rw[Rat.num_pow,Rat.den_pow,Int.natCast_pow,Nat.mul_add]
 have h1:=jR q.num n
 have h2:=jR (q.den:Int) n
 omega
theorem aFe {A C:Nat}{a d:Int}(hd0:d≠0) (h1:len a≤A) (h2:len d≤A):∀ l:List Int,(∀ u∈l,len u≤C)→∃ H:Int,aQ5 l (Rat.divInt a d)=Rat.divInt H (d^l.length)∧len H≤C+l.length*(A+1)+1
 |[],_=>⟨0,by rw[Rat.zero_divInt];rfl,by rw[show len 0=0 by simp[len,aX]];omega⟩
 |c::f,hC=>by
  obtain⟨H,e,hH⟩:=aFe hd0 h1 h2 f (fun u hu=>hC u (by simp[hu]))
  have hc:=hC c (by simp)
  refine⟨H*a+c*(d^f.length*d),?_,?_⟩
  · rw[aBa,e]
    have hd:(d:Rat)≠0:=by
      intro h
      exact hd0 (by exact_mod_cast h)
    have hD:((d^f.length:Int):Rat)≠0:=by
      intro h
      have h5:d^f.length=0:=by exact_mod_cast h
      exact Int.pow_ne_zero hd0 h5
    rw[List.length_cons,Int.pow_succ,Rat.divInt_eq_div,Rat.divInt_eq_div,Rat.divInt_eq_div,Rat.intCast_add,Rat.intCast_mul,Rat.intCast_mul,Rat.intCast_mul]
    exact aH3 hD hd
  · have l1:=rE (H*a) (c*(d^f.length*d))
    have l2:=cH H a
    have l3:=cH c (d^f.length*d)
    have l4:=cH (d^f.length) d
    have l5:=jR d f.length
    have l6:f.length*len d≤f.length*A:=Nat.mul_le_mul_left _ h2
    rw[List.length_cons,Nat.succ_mul]
    rw[Nat.mul_add,Nat.mul_one]at hH⊢
    omega
def sR (k f j:Nat):Rat:=((f:Int):Rat)^(k-1)*mW (xN k) (Rat.divInt ((j+1:Nat):Int) (f:Int))
def aBb (k f:Nat):Int:=(f:Int)^(k+1)*bL
theorem aQ6 {k:Nat}(hk:k≤60):(ipB k).length=k+1:=by
 have hU:bU.length=61:=rfl
 rw[ipB,List.length_zipWith,uD,List.length_reverse,List.length_take,hU]
 omega
theorem aFf {k f j:Nat}(hk:k≤40) (hf:1≤f) (hf2:f≤60) (hj:j<f):∃ H:Int,sR k f j=Rat.divInt H (aBb k f)∧len H≤200:=by
 have la:len ((j+1:Nat):Int)≤1:=bG (e:=1) (by omega)
 have lf:len (f:Int)≤1:=bG (e:=1) (by omega)
 obtain⟨H,e,hH⟩:=aFe (A:=1) (C:=8) (a:=((j+1:Nat):Int)) (d:=(f:Int)) (by omega) la lf (ipB k) (fun u hu=>aTy (by omega) u hu)
 rw[aQ6 (by omega)]at e hH
 refine⟨(f:Int)^(k-1)*H,?_,?_⟩
 ·rw[sR,aBb,bCq (by omega),xJ,e,Rat.divInt_eq_div,Rat.divInt_eq_div,Rat.div_def,Rat.div_def,Rat.intCast_mul,Rat.intCast_mul,Rat.intCast_pow,Rat.inv_mul_rev,Rat.mul_assoc,Rat.mul_assoc]
  congr 2
  all_goals(first |exact(Rat.intCast_pow _ _).symm |exact Rat.mul_comm _ _ |trace_state)
 ·have l1:=cH ((f:Int)^(k-1)) H
  have l2:=jR (f:Int) (k-1)
  have l3:(k-1)*len (f:Int)≤(k-1)*1:=Nat.mul_le_mul_left _ lf
  omega
theorem vJ {k f:Nat}(hf:1≤f):aBb k f≠0:=Int.mul_ne_zero (Int.pow_ne_zero (by omega)) bA0
theorem qN {k f:Nat}(hk:k≤40) (hf2:f≤60):len (aBb k f)≤60:=by
 have lf:len (f:Int)≤1:=bG (e:=1) (by omega)
 have l1:=cH ((f:Int)^(k+1)) bL
 have l2:=jR (f:Int) (k+1)
 have l3:(k+1)*len (f:Int)≤(k+1)*1:=Nat.mul_le_mul_left _ lf
 have:=aQg
 rw[aBb]
 omega
theorem bCs {k f j:Nat}(hk:k≤40) (hf:1≤f) (hf2:f≤60) (hj:j<f):lq (sR k f j)≤300:=by
 obtain⟨H,e,hH⟩:=aFf hk hf hf2 hj
 have h1:=eK (n:=H) (vJ (k:=k) hf)
 have h2:=qN hk hf2
 rw[e]
 unfold lq
 omega
def aNr (c:Nat→Int) (k f:Nat):Nat→Rat
 |0=>0
 |n+1=>aNr c k f n+(c n:Rat)*sR k f n
theorem aBc (c:Nat→Int) (k f n:Nat):aNr c k f (n+1)=aNr c k f n+(c n:Rat)*sR k f n:=rfl
theorem bIv {c:Int}(hc:c=1∨c=0∨c= -1) (H:Int):len (c*H)≤len H:=by
 rcases hc with rfl |rfl |rfl
 ·rw[Int.one_mul];exact Nat.le_refl _
 ·rw[Int.zero_mul,show len 0=0 by simp[len,aX]];omega
 ·rw[Int.neg_mul,Int.one_mul,mR];exact Nat.le_refl _
theorem aH5 {c:Nat→Int}{k f:Nat}(hc:∀ j,j<f→c j=1∨c j=0∨c j= -1) (hk:k≤40) (hf:1≤f) (hf2:f≤60):∀ n,n≤f→∃ N:Int,aNr c k f n=Rat.divInt N (aBb k f)∧len N≤200+n
 |0,_=>⟨0,by rw[Rat.zero_divInt];rfl,by rw[show len 0=0 by simp[len,aX]];omega⟩
 |n+1,h=>by
  obtain⟨N,e,hN⟩:=aH5 hc hk hf hf2 n (by omega)
  obtain⟨H,e2,hH⟩:=aFf hk hf hf2 (j:=n) (by omega)
  have l1:=rE N (c n*H)
  have l2:=bIv (hc n (by omega)) H
  exact⟨N+c n*H,by rw[aBc,e,e2,xG],by omega⟩
def smd (k f n:Nat):List Rat:=(List.range n).map (sR k f)
theorem rZ (k f n:Nat):(smd k f n).length=n:=by simp[smd]
theorem bCt (k f n:Nat):smd k f (n+1)=smd k f n++[sR k f n]:=by simp[smd,List.range_succ]
theorem bCu {k f n j:Nat}(h:j<n):(smd k f n).getD j 0=sR k f j:=by simp[smd,h]
end
section
def lW (D:Int) (L:Nat) (q:Rat):Prop:=∃ z:Int,q=Rat.divInt z D∧len z≤L
theorem zB (D:Int) (L:Nat):lW D L 0:=⟨0,by rw[Rat.zero_divInt],by rw[show len 0=0 by simp[len,aX]];omega⟩
theorem lW.mono {D:Int}{L M:Nat}{q:Rat}(h:lW D L q) (hM:L≤M):lW D M q:=by
 obtain⟨z,e,hz⟩:=h
 exact⟨z,e,by omega⟩
theorem lW.lq {D:Int}{L K:Nat}{q:Rat}(h:lW D L q) (hD:D≠0) (hK:len D≤K):lq q≤L+K:=by
 obtain⟨z,e,hz⟩:=h
 obtain⟨h1,h2⟩:=eK (n:=z) hD
 rw[e]
 unfold Go.Num.lq
 omega
theorem lW.neg {D:Int}{L:Nat}{q:Rat}(h:lW D L q):lW D L (-q):=by
 obtain⟨z,e,hz⟩:=h
 exact⟨-z,by rw[e,Rat.neg_divInt],by rw[mR];exact hz⟩
theorem lW.add {D:Int}{L:Nat}{p q:Rat}(h:lW D L p) (k:lW D L q):lW D (L+1) (p+q):=by
 obtain⟨z,e,hz⟩:=h
 obtain⟨w,f,hw⟩:=k
 have h1:=rE z w
 refine⟨z+w,?_,by omega⟩
 have:=xG z 1 w D
 rw[Int.one_mul]at this
 rw[this,e,f,Rat.intCast_one,Rat.one_mul]
def aFg (b:Rat):Prop:=b=1∨b=0∨b= -1
theorem lW.mul1 {D:Int}{L:Nat}{c b:Rat}(h:lW D L c) (hb:aFg b):lW D L (c*b):=by
 rcases hb with rfl |rfl |rfl
 ·rw[Rat.mul_one];exact h
 ·rw[Rat.mul_zero];exact zB D L
 ·rw[Rat.mul_neg,Rat.mul_one];exact h.neg
theorem lW.sub1 {D:Int}{L:Nat}{a c b:Rat}(h:lW D L a) (k:lW D L c) (hb:aFg b):lW D (L+1) (a-c*b):=by
 rw[Rat.sub_eq_add_neg]
 exact h.add (k.mul1 hb).neg
def fX (c:Rat):List Rat→List Rat→Nat→List Rat
 |[],r,_=>r
 |b::g,r,i=>fX c g (r.set i (r.getD i 0-c*b)) (i+1)
def eU (g:List Rat):Nat→List Rat→List Rat
 |0,r=>r
 |k+1,r=>eU g k (fX (r.getD (k+g.length-1) 0) g r k)
theorem uE (c:Rat):∀ (g r:List Rat) (i:Nat),(fX c g r i).length=r.length
 |[],r,_=>rfl
 |b::g,r,i=>by rw[fX,uE c g,List.length_set]
theorem jW (g:List Rat):∀ (k:Nat) (r:List Rat),(eU g k r).length=r.length
 |0,r=>rfl
 |k+1,r=>by rw[eU,jW g k,uE]
theorem wD {r:List Rat}{i j:Nat}{x:Rat}(P:Rat→Prop) (hx:P x) (h:P (r.getD j 0)):P ((r.set i x).getD j 0):=by
 by_cases hj:j<r.length
 ·by_cases e:i=j
  ·subst e
   simpa[List.getD,hj]using hx
  ·have:(r.set i x).getD j 0=r.getD j 0:=by simp[List.getD,List.getElem?_set,e]
   rw[this];exact h
 ·have:(r.set i x).getD j 0=r.getD j 0:=by simp[List.getD,Nat.le_of_not_lt hj]
  rw[this];exact h
theorem uF {r:List Rat}{i j:Nat}{x:Rat}(h:i≠j):(r.set i x).getD j 0=r.getD j 0:=by simp[List.getD,List.getElem?_set,h]
theorem zC {D:Int}{L:Nat}{c:Rat}(hc:lW D L c):∀ (g r:List Rat) (i:Nat),(∀ b∈g,aFg b)→(∀ j,j<i→lW D (L+1) (r.getD j 0))→(∀ j,i≤j→lW D L (r.getD j 0))→∀ j,lW D (L+1) ((fX c g r i).getD j 0)
 |[],r,i,_,h1,h2,j=>by
  rcases Nat.lt_or_ge j i with h |h
  · exact h1 j h
  · exact(h2 j h).mono (by omega)
 |b::g,r,i,hg,h1,h2,j=>by
  rw[fX]
  have hi:=(h2 i (Nat.le_refl _)).sub1 hc (hg b (by simp))
  refine zC hc g _ (i+1) (fun b hb=>hg b (by simp[hb])) (fun j hj=> ?_) (fun j hj=> ?_) j
  · refine wD _ hi ?_
    rcases Nat.lt_or_ge j i with h |h
    · exact h1 j h
    · exact(h2 j h).mono (by omega)
  · rw[uF (by omega)]
    exact h2 j (by omega)
theorem aFh {D:Int}{g:List Rat}(hg:∀ b∈g,aFg b):∀ (k L:Nat) (r:List Rat),(∀ j,lW D L (r.getD j 0))→∀ j,lW D (L+k) ((eU g k r).getD j 0)
 |0,L,r,h,j=>h j
 |k+1,L,r,h,j=>by
  rw[eU]
  have:=aFh hg k (L+1) (fX (r.getD (k+g.length-1) 0) g r k) (zC (h (k+g.length-1)) g r k hg (fun j _=>(h j).mono (by omega)) (fun j _=>h j)) j
  exact this.mono (by omega)
def sml (q:Rat):Bool:=decide (lq q≤5000)
theorem aBd {q:Rat}(h:sml q=true):lq q≤5000:=of_decide_eq_true h
theorem aFi {q:Rat}(h:lq q≤5000):sml q=true:=decide_eq_true h
def aFj (c:Rat):List Rat→List Rat→Nat→Option (List Rat)
 |[],r,_=>some r
 |b::g,r,i=>bif sml (c*b) && sml (r.getD i 0-c*b)then aFj c g (r.set i (r.getD i 0-c*b)) (i+1)else none
def aCj (g:List Rat) (gl:Rat):Nat→List (Option Rat)→List Rat→Option (List (Option Rat)×List Rat)
 |0,q,r=>some (q,r)
 |k+1,q,r=>bif sml (r.getD (k+g.length-1) 0 / gl)then(if r.getD (k+g.length-1) 0 / gl=0 then aCj g gl k (q.set k (some (r.getD (k+g.length-1) 0 / gl))) r else match aFj (r.getD (k+g.length-1) 0 / gl) g r k with
  |some r'=>aCj g gl k (q.set k (some (r.getD (k+g.length-1) 0 / gl))) r'
  |none=>none)else none
theorem aT0 {D:Int}{L:Nat}{c:Rat}(hD:D≠0) (hK:len D≤60) (hL:L≤4000) (hc:lW D L c):∀ (g r:List Rat) (i:Nat),(∀ b∈g,aFg b)→(∀ j,i≤j→lW D L (r.getD j 0))→aFj c g r i=some (fX c g r i)
 |[],r,i,_,_=>rfl
 |b::g,r,i,hg,h2=>by
  have hb:=hg b (by simp)
  have s1:=aFi (q:=c*b) (by have:=(hc.mul1 hb).lq hD hK;omega)
  have s2:=aFi (q:=r.getD i 0-c*b) (by have:=((h2 i (Nat.le_refl _)).sub1 hc hb).lq hD hK;omega)
  rw[aFj,fX,s1,s2]
  simp only[Bool.and_self,cond_true]
  exact aT0 hD hK hL hc g _ (i+1) (fun b hb=>hg b (by simp[hb])) (fun j hj=>by
    rw[uF (by omega)]
    exact h2 j (by omega))
theorem bCv {r:List Rat}{i:Nat}:r.set i (r.getD i 0)=r:=by
 refine List.ext_getElem (by simp) (fun j h1 h2=> ?_)
 rw[List.getElem_set]
 split
 ·rename_i e;subst e;simp[List.getD,h2]
 ·rfl
theorem aBe:∀ (g r:List Rat) (i:Nat),fX 0 g r i=r
 |[],r,_=>rfl
 |b::g,r,i=>by rw[fX,Rat.zero_mul,Rat.sub_eq_add_neg,Rat.neg_zero,Rat.add_zero,bCv,aBe g r]
theorem aJ8 {D:Int}{g:List Rat}(hD:D≠0) (hK:len D≤60) (hg:∀ b∈g,aFg b):∀ (k L:Nat) (q:List (Option Rat)) (r:List Rat),L+k≤4000→(∀ j,lW D L (r.getD j 0))→(∀ j,k≤j→j<q.length→q.getD j none≠none)→
  ∃ q',aCj g 1 k q r=some (q',eU g k r)∧q'.length=q.length∧∀ j,j<q.length→q'.getD j none≠none
 |0,L,q,r,_,_,hq=>⟨q,rfl,rfl,fun j hj=>hq j (Nat.zero_le _) hj⟩
 |k+1,L,q,r,hL,hr,hq=>by
  have e1:r.getD (k+g.length-1) 0 / 1=r.getD (k+g.length-1) 0:=by
    rw[Rat.div_def,show(1:Rat)⁻¹=1 by decide+kernel,Rat.mul_one]
  have hc:=hr (k+g.length-1)
  have s1:=aFi (q:=r.getD (k+g.length-1) 0) (by have:=hc.lq hD hK;omega)
  have hq':∀ j,k≤j→j<(q.set k (some (r.getD (k+g.length-1) 0))).length→(q.set k (some (r.getD (k+g.length-1) 0))).getD j none≠none:=fun j h1 h2=>by
    rw[List.length_set]at h2
    by_cases e:k=j
    · subst e;simp[List.getD,h2]
    · have:(q.set k (some (r.getD (k+g.length-1) 0))).getD j none=q.getD j none:=by simp[List.getD,List.getElem?_set,e]
      rw[this]
      exact hq j (by omega) h2
  rw[aCj,e1,s1,cond_true,eU]
  split
  · rename_i h0
    rw[h0]at hq'
    rw[h0,aBe]
    obtain⟨q',h1,h2,h3⟩:=aJ8 hD hK hg k L _ r (by omega) hr hq'
    exact⟨q',h1,by rw[h2,List.length_set],fun j hj=>h3 j (by rw[List.length_set];exact hj)⟩
  · rw[aT0 hD hK (by omega) hc g r k hg (fun j _=>hr j)]
    obtain⟨q',h1,h2,h3⟩:=aJ8 hD hK hg k (L+1) _ _ (by omega) (zC hc g r k hg (fun j _=>(hr j).mono (by omega)) (fun j _=>hr j)) hq'
    exact⟨q',h1,by rw[h2,List.length_set],fun j hj=>h3 j (by rw[List.length_set];exact hj)⟩
theorem aH6 {q:List (Option Rat)}(h:∀ j,j<q.length→q.getD j none≠none):∃ Q:List Rat,q=Q.map some∧Q.length=q.length:=by
 refine⟨q.map fun o=>o.getD 0,?_,by simp⟩
 refine List.ext_getElem (by simp) (fun j h1 h2=> ?_)
 have:=h j h1
 simp only[List.getD,List.getElem?_eq_getElem h1,Option.getD_some]at this
 cases hj:q[j]with
 |none=>exact absurd hj this
 |some x=>simp[hj]
end
end Go.Num
namespace Go.Proofs.YtaidcaemdkncgaaGreatDoor
section
open Go Go.Lg Go.Num
def aGj (l:List Rat):Prop:=∀ q∈l,sml q=true
theorem zD {l:List Rat}(h:aGj l) {i:Nat}(hi:i<l.length):lq (l.getD i 0)≤5000:=by
 have:l.getD i 0=l[i]:=by simp[hi]
 rw[this]
 exact aBd (h _ (List.getElem_mem hi))
theorem bCw {l:List Rat}(h:aGj l) {i:Nat}{q:Rat}(hq:sml q=true):aGj (l.set i q):=by
 intro x hx
 rcases List.mem_or_eq_of_mem_set hx with h1 |rfl
 ·exact h x h1
 ·exact hq
theorem aW5 (g:List Rat) (gl:Rat) (q:List (Option Rat)) (r:List Rat):aCj g gl 0 q r=some (q,r):=rfl
theorem aW6 {g:List Rat}{gl:Rat}{k:Nat}{q:List (Option Rat)}{r:List Rat}{x:List (Option Rat)×List Rat}(h:aCj g gl (k+1) q r=some x):sml (r.getD (k+g.length-1) 0 / gl)=true∧(r.getD (k+g.length-1) 0 / gl=0∧aCj g gl k (q.set k (some (r.getD (k+g.length-1) 0 / gl))) r=some x∨r.getD (k+g.length-1) 0 / gl≠0∧∃ r',aFj (r.getD (k+g.length-1) 0 / gl) g r k=some r'∧aCj g gl k (q.set k (some (r.getD (k+g.length-1) 0 / gl))) r'=some x):=by
 rw[aCj]at h
 cases ht:sml (r.getD (k+g.length-1) 0 / gl)with
 |false=>rw[ht,cond_false]at h;cases h
 |true=>
  rw[ht,cond_true]at h
  refine⟨rfl,?_⟩
  split at h
  · rename_i hz
    exact .inl ⟨hz,h⟩
  · rename_i hz
    split at h
    · rename_i r' hr
      exact .inr ⟨hz,r',hr,h⟩
    · cases h
theorem bCx (c:Rat) (r:List Rat) (i:Nat):aFj c [] r i=some r:=rfl
theorem aW7 {c b:Rat}{g r r':List Rat}{i:Nat}(h:aFj c (b::g) r i=some r'):sml (c*b)=true∧sml (r.getD i 0-c*b)=true∧aFj c g (r.set i (r.getD i 0-c*b)) (i+1)=some r':=by
 rw[aFj]at h
 cases ht:(sml (c*b) && sml (r.getD i 0-c*b))with
 |false=>rw[ht,cond_false]at h;cases h
 |true=>
  rw[ht,cond_true]at h
  rw[Bool.and_eq_true]at ht
  exact⟨ht.1,ht.2,h⟩
attribute [local irreducible] lrun lwp exThen exBlk keep goodPost sg mg sml aFj aCj oc
theorem aNs (f g:List Rat) (lf:sQ f) (tf:aGj f) (hl:f.length<g.length) (hg:g.length≤1000):PureGood Tryz.prog 286 [encF f,encF g] (.tup [.sl 0 [],encF f]):=by
 have gn:=jJ f (by omega) (fun c hc=>by have:=aBd (tf c hc);omega)
 rw[kU lf]at gn
 simp only[bD]at*
 refine aA bC Tryz.func286 rfl (by decide) (nt:=87) rfl (rs:=[.tmp 4,.tmp 5]) rfl (aZ rfl) ?_
 refine dM ?_
 exact mJ
theorem aQ8 (f g Q R:List Rat) (D:Nat) (lf:sQ f) (tf:aGj f) (tg:aGj g) (hG:1≤g.length) (hg:g.length≤1000) (hf:f.length≤1000) (hD:f.length+1=D+g.length) (hD1:1≤D) (h0:g.getD (g.length-1) 0≠0)
  (h:aCj g (g.getD (g.length-1) 0) D (List.replicate D none) f=some (Q.map some,R)) (hQ:Q.length≤1000) (hR:R.length≤1000):PureGood Tryz.prog 286 [encF f,encF g] (.tup [encF (bQ Q),encF (bQ R)]):=by
 have gn:=aE5 f lf (by omega) (fun c hc=>by have:=aBd (tf c hc);omega)
 have t1:=gZ Q (by omega)
 have t2:=gZ R (by omega)
 have hDz:((f.length:Int)-(g.length:Int)+1).toNat=D:=by omega
 have lgl:=zD tg (i:=g.length-1) (by omega)
 simp only[bD]at*
 refine aA bC Tryz.func286 rfl (by decide) (nt:=87) rfl (rs:=[.tmp 4,.tmp 5]) rfl (aZ rfl) ?_
 refine dM ?_
 refine uV (by simp only[List.size_toArray,List.length_cons,List.length_nil,Nat.reduceAdd,Nat.max_def,Nat.reduceLeDiff,↓reduceIte];exact rfl) rfl rfl rfl (by decide) rfl (by simp(disch:=first|omega|exact kD rfl|exact kX rfl) only[smY,simprocAttr,bl,i64,smT];try exact rfl) gn (by simp[aB]) (by simp[dA]) ?_
 refine sU hDz ?_
 refine aI (α:={x:Nat×List (Option Rat)×List Rat // x.1≤D∧x.2.1.length=D∧x.2.2.length=f.length∧aGj x.2.2∧aCj g (g.getD (g.length-1) 0) x.1 x.2.1 x.2.2=some (Q.map some,R)}) (fun x=>st 87 (lk [(0,.sl f.length (qc f)),(1,.sl g.length (qc g)),(4,.own 0 0 D 4),(5,.own 1 0 f.length 4),(6,i64 ((x.1.1:Int)-1))]) (cP [(0,⟨47,oc x.1.2.1,false⟩),(1,⟨47,qc x.1.2.2,false⟩)]) 2) (fun x=>x.1.1) ⟨(D,List.replicate D none,f),Nat.le_refl _,by simp,rfl,tf,h⟩ ?_ ?_
 ·(refine Sub.heapL [17,5] rfl (by decide) ?_ (by simp only[fB];decide) ?_ ?_;all_goals(first|(simp only[aB,aG,dg,renL,renLs,simprocAttr,bl,i64,smT,smO,hDz];done) |(simp only[aG,dg,renL,renLs,simprocAttr,bl,i64,smT,smO,hDz];(repeat' apply And.intro);all_goals rfl) |(simp only[aG,dg,renL,renLs,simprocAttr,bl,i64,smT,smO,hDz]) |skip))
  all_goals(first |done |((repeat' apply And.intro);all_goals(first |trivial |rfl)))
 ·rintro⟨⟨k,q,r⟩,hk,hq,hr,tr,hd⟩
  simp only at hk hq hr tr hd
  simp only[st]
  by_cases hk0:k=0
  ·subst hk0
   rw[aW5]at hd
   injection hd with hd
   injection hd with hd1 hd2
   subst hd1 hd2
   rw[List.length_map]at hq
   rw[vH]
   rw[hq]at t1
   rw[hr]at t2
   refine zU ?_
   exact zQ5
  ·obtain⟨k,rfl⟩:∃ j,k=j+1:=⟨k-1,by omega⟩
   obtain⟨tc,hd⟩:=aW6 hd
   have la:=zD tr (i:=k+g.length-1) (by omega)
   have gq:=tP (r.getD (k+g.length-1) 0) (g.getD (g.length-1) 0) h0 (by omega) (by omega)
   have gz:=rY (r.getD (k+g.length-1) 0 / g.getD (g.length-1) 0) (by have:=aBd tc;omega)
   have lc:=aBd tc
   generalize hc:r.getD (k+g.length-1) 0 / g.getD (g.length-1) 0=c at*
   generalize ha:r.getD (k+g.length-1) 0=a at*
   generalize hgl:g.getD (g.length-1) 0=gl at*
   have hk1:((k+1:Nat):Int)-1=k:=by omega
   have hset:=kT (l:=q) (j:=k) (by omega) c
   have hgs:(q.set k (some c)).getD k none=some c:=by simp[show k<q.length by omega]
   have hql:(q.set k (some c)).length=D:=by simp[hq]
   simp only[aH]at gq gz
   rcases hd with⟨c0,hd⟩ |⟨c0,r',hs,hd⟩
   ·rw[qA c0]at gz
    simp only[i64,bl]at*
    refine sU (nd ha (nd hgl (nd hk1 (nd hset hgs)))) ?_
    refine⟨⟨(k,q.set k (some c),r),by simp only;omega,by simp only;exact hql,hr,tr,hd⟩,?_,by simp only;omega⟩
    exact zL1 [0,1]
   ·rw[nJ c0]at gz
    simp only[i64,bl]at*
    refine sU (nd ha (nd hgl (nd hk1 (nd hset hgs)))) ?_
    refine aI (α:={x:Nat×List Rat // x.1≤g.length∧x.2.length=f.length∧aGj x.2∧aFj c (g.drop x.1) x.2 (k+x.1)=some r'}) (fun x=>st 87 (lk [(0,.sl f.length (qc f)),(1,.sl g.length (qc g)),(4,.own 0 0 D 4),(5,.own 1 0 f.length 4),(6,i64 k),(57,.sl g.length (qc g)),(58,i64 g.length),(59,i64 x.1.1)]) (cP [(0,⟨47,oc (q.set k (some c)),false⟩),(1,⟨47,qc x.1.2,false⟩)]) 2) (fun x=>g.length-x.1.1) ⟨(0,r),by simp,hr,tr,hs⟩ ?_ ?_
    ·exact zL1 [0,1]
    ·rintro⟨⟨j,y⟩,hj,hy,ty,hsub⟩
     simp only at hj hy ty hsub
     simp only[st]
     by_cases hlt:j<g.length
     ·rw[List.drop_eq_getElem_cons hlt]at hsub
      obtain⟨u1,u2,u3⟩:=aW7 hsub
      have hgj:g.getD j 0=g[j]:=by simp[hlt]
      rw[← hgj]at u1 u2 u3
      have lb:=zD tg hlt
      have ly:=zD ty (i:=k+j) (by omega)
      have lm:=aBd u1
      have gm:=gE c (g.getD j 0) (by omega) (by omega)
      have gs:=nC (y.getD (k+j) 0) (c*g.getD j 0) (by omega) (by omega)
      have hys:=aE6 (l:=y) (j:=k+j) (by omega) (y.getD (k+j) 0-c*g.getD j 0)
      have hyl:(y.set (k+j) (y.getD (k+j) 0-c*g.getD j 0)).length=f.length:=by simp[hy]
      have tys:=bCw (i:=k+j) ty u2
      have hkj:((k:Int)+(j:Int))=((k+j:Nat):Int):=by simp
      have hkb:k+j<y.length:=by omega
      have hgd:(qc (y.set (k+j) (y.getD (k+j) 0-c*g.getD j 0))).length=f.length*4:=by rw[gH,hyl]
      generalize hv:y.getD (k+j) 0-c*g.getD j 0=v at*
      generalize hmm:c*g.getD j 0=mm at*
      generalize hb:g.getD j 0=b at*
      generalize hx:y.getD (k+j) 0=x at*
      simp only[aH]at gm gs
      refine sU (nd hb (nd hx (nd hgs (nd hkj hys)))) ?_
      refine⟨⟨(j+1,y.set (k+j) v),by simp only;omega,by simp only;exact hyl,tys,by simp only;exact u3⟩,?_,by simp only;omega⟩
      exact zL1 [0,1]
     ·obtain rfl:j=g.length:=by omega
      rw[List.drop_length,bCx]at hsub
      injection hsub with hsub
      subst hsub
      refine zU ?_
      refine⟨⟨(k,q.set k (some c),y),by simp only;omega,by simp only;exact hql,hy,ty,hd⟩,?_,by simp only;omega⟩
      exact zL1 [0,1]
end
section
open Go Go.Lg Go.Num
attribute [local irreducible] lrun lwp exThen exBlk keep goodPost sg mg oc mC
theorem bCy {P:Program}[Laid P] {f:FuncId}{args:List LV}{n sz:Nat}{ty:TypeId}{cells:List LV}(h:jQ P f args n sz ty cells) (m:Nat):jQ P f args n sz ty (cells.take m):=by
 obtain⟨hen,hpl,hgood⟩:=h
 refine⟨hen,fun c hc=>hpl c (List.mem_of_mem_take hc),fun w St vs hSt hLd hvs=> ?_⟩
 refine(hgood w St vs hSt hLd hvs).mono ?_
 rintro e w' ⟨v,St',g,cs,rfl,hv,hge,hlt,hns,hg,hle,hr,h1,hrest⟩
 have hl:(cells.take m).length≤cells.length:=by rw[List.length_take];omega
 have et:cs.toList.take (cells.take m).length=(cs.toList.take cells.length).take (cells.take m).length:=by
  rw[List.take_take,Nat.min_eq_left hl]
 have e2:cells.take m=cells.take (cells.take m).length:=by rw[List.length_take,← List.take_take,List.take_length]
 refine⟨v,St',g,cs,rfl,hv,hge,hlt,hns,hg,by omega,?_,fun u hu=>h1 u ?_,hrest⟩
 ·rw[et]
  refine⟨?_,fun i c u hc hu=> ?_⟩
  ·have:=hr.1
   rw[List.length_take,List.length_take]
   omega
  ·rw[List.getElem?_take]at hu hc
   split at hu
   ·split at hc
    ·exact hr.2 i c u hc hu
    ·cases hc
   ·cases hu
 ·rw[et]at hu
  exact List.mem_of_mem_take hu
theorem eJ {L:List Rat}{m:Nat}(h:m<L.length):L.take (m+1)=L.take m++[L.getD m 0]:=by
 rw[List.take_succ_eq_append_getElem h]
 simp[List.getD,h]
theorem uG (L:List Rat) (m:Nat):(qc L).take (m*4)=qc (L.take m):=by
 rcases Nat.lt_or_ge m L.length with h |h
 ·have e:qc L=qc (L.take m)++qc (L.drop m):=by
   conv=>lhs;rw[← List.take_append_drop m L]
   simp only[qc,List.flatMap_append]
  have hl:(qc (L.take m)).length=m*4:=by rw[gH,List.length_take];omega
  rw[e,← hl,List.take_left]
 ·rw[List.take_of_length_le h,List.take_of_length_le (by rw[gH];omega)]
theorem jX (L:List Rat):∃ m,m≤L.length∧bQ L=L.take m∧(∀ j,m≤j→L.getD j 0=0)∧(0<m→L.getD (m-1) 0≠0):=by
 obtain⟨n,hn⟩:∃ n,L.length=n:=⟨_,rfl⟩
 induction n generalizing L with
 |zero=>
  have:L=[]:=List.length_eq_zero_iff.1 hn
  subst this
  exact⟨0,Nat.le_refl _,rfl,fun j _=>by simp,fun h=>by omega⟩
 |succ n ih=>
  have e:L=L.take n++[L.getD n 0]:=by
    rw[← eJ (by omega),List.take_of_length_le (by omega)]
  by_cases hz:L.getD n 0=0
  · have hl:(L.take n).length=n:=by rw[List.length_take];omega
    obtain⟨m,h1,h2,h3,h4⟩:=ih (L.take n) hl
    have hg:∀ j,j<n→(L.take n).getD j 0=L.getD j 0:=fun j hj=>by simp[List.getD,hj]
    refine⟨m,by omega,?_,fun j hj=> ?_,fun hm=> ?_⟩
    · have e2:bQ L=bQ (L.take n):=by
        conv=>lhs;rw[e,hz]
        exact jV _
      rw[e2,h2,List.take_take,Nat.min_eq_left (by omega)]
    · rcases Nat.lt_or_ge j n with h |h
      · rw[← hg j h];exact h3 j hj
      · by_cases hjn:j=n
        · subst hjn;exact hz
        · simp[List.getD,show L.length≤j by omega]
    · rw[← hg (m-1) (by omega)];exact h4 hm
  · refine⟨n+1,by omega,?_,fun j hj=>by simp[List.getD,show L.length≤j by omega],fun _=>hz⟩
    rw[List.take_of_length_le (by omega)]
    conv=>lhs;rw[e]
    conv=>rhs;rw[e]
    exact gG _ hz
theorem uH (L:List Rat) (hl:L.length≤100000) (hf:∀ j,j<L.length→lq (L.getD j 0)≤100000):PureGood Tryz.prog 72 [encF L] (encF (bQ L)):=by
 obtain⟨k,hk0,hkt,hk1,hk2⟩:=jX L
 obtain⟨N,hlen⟩:∃ N,L.length=N:=⟨_,rfl⟩
 have hkl:(bQ L).length=k:=by rw[hkt,List.length_take];omega
 rw[bD,bD,hkl,hkt,hlen]
 rw[hlen]at hk0 hl hf
 refine aA bC Tryz.func72 rfl (by decide) (nt:=38) rfl (rs:=[.tmp 2]) rfl (aZ rfl) ?_
 refine dM ?_
 refine aI (α:={m:Nat // m≤N}) (fun m=>st 38 (lk [(0,.sl N (qc L)),(3,nV 0 m.1),(4,i64 m.1)]) (cP (nB 0 m.1 (qc (L.take m.1)))) 1) (fun m=>N-m.1) ⟨0,by omega⟩ ?_ ?_
 ·simp only[mU,mV]
  (refine Sub.plain ?_;simp only[aG,dg,renL,renLs,simprocAttr,bl,i64,smT])
  all_goals(first |done |simp)
 ·rintro⟨m,hm⟩
  simp only[st]
  by_cases hlt:m<N
  ·have g2:=eH (L.getD m 0) (by have:=hf m (by omega);omega)
   have happ:=eJ (L:=L) (m:=m) (by omega)
   have htl:(L.take m).length=m:=by rw[List.length_take];omega
   generalize hq:L.getD m 0=q at*
   simp only[aH]at g2
   by_cases h0:m=0
   ·simp only[oA h0,oB h0]
    refine cW hq ?_
    refine⟨⟨m+1,by omega⟩,?_,by simp only;omega⟩
    subst h0
    simp only[dR,dS]
    (refine Sub.heapL [12] rfl (by decide) ?_ (by simp only[fB];decide) ?_ ?_;all_goals(first|(simp only[aB,aG,dg,renL,renLs,simprocAttr,bl,i64,smT];done) |(simp only[aG,dg,renL,renLs,simprocAttr,bl,i64,smT];(repeat' apply And.intro);all_goals rfl) |(simp only[aG,dg,renL,renLs,simprocAttr,bl,i64,smT]) |skip))
    have e:L.take 1=[q]:=happ
    all_goals(first |done |(rw[e,← jB]))
   ·simp only[lQ h0,lR h0]
    refine cW hq ?_
    refine⟨⟨m+1,by omega⟩,?_,by simp only;omega⟩
    simp only[dR,dS]
    (refine Sub.heapL [12] rfl (by decide) ?_ (by simp only[fB];decide) ?_ ?_;all_goals(first|(simp only[aB,aG,dg,renL,renLs,simprocAttr,bl,i64,smT];done) |(simp only[aG,dg,renL,renLs,simprocAttr,bl,i64,smT];(repeat' apply And.intro);all_goals rfl) |(simp only[aG,dg,renL,renLs,simprocAttr,bl,i64,smT]) |skip))
    all_goals(first |done |(rw[happ,← gY]))
  ·obtain rfl:m=N:=by omega
   have htL:L.take m=L:=List.take_of_length_le (by omega)
   rw[htL]
   by_cases h0:m=0
   ·simp only[oA h0,oB h0]
    obtain rfl:k=0:=by omega
    subst h0
    (refine dM ?_;refine aI (α:=Unit) (fun _=>st 38 (lk [(3,nilL),(5,i64 0)]) (cP []) 0) (fun _=>0) () (by(refine Sub.plain ?_;simp only[aG,dg,renL,renLs,simprocAttr,bl,i64,smT]);all_goals done) (fun _=> ?_);simp only[st];refine dM ?_;refine kZ rfl (by decide) rfl ?_;refine dM ?_;((first|apply dG|apply dI);case hres=>(simp only[iC];simp(disch:=first|omega|exact kD rfl|exact kX rfl) only[smY,simprocAttr,bl,i64,smT];exact rfl));simp(disch:=first|omega|exact kD rfl|exact kX rfl) only[smY,simprocAttr,bl,i64,smT];first |done |rfl)
   ·simp only[lQ h0,lR h0]
    refine dM ?_
    refine aI (α:={j:Nat // k≤j∧j≤m}) (fun j=>st 38 (lk [(3,.own 0 0 m 4),(5,i64 j.1)]) (cP [(0,⟨47,qc L,false⟩)]) 1) (fun j=>j.1) ⟨m,by omega,Nat.le_refl _⟩ ?_ ?_
    ·exact zL0 [0]
    ·rintro⟨j,hj1,hj2⟩
     simp only[st]
     rcases j with _ |j
     ·obtain rfl:k=0:=by omega
      refine dM ?_
      refine kZ rfl (by decide) rfl ?_
      refine dM ?_
      (((first|apply dG|apply dI);case hres=>(simp only[iC];simp(disch:=first|omega|exact kD rfl|exact kX rfl) only[smY,simprocAttr,bl,i64,smT];exact rfl));simp(disch:=first|omega|exact kD rfl|exact kX rfl) only[smY,simprocAttr,bl,i64,smT];first |done |rfl |(simp only[uG];simp(disch:=first|omega|exact kD rfl|exact kX rfl) only[smY,simprocAttr,bl,i64,smT];done) |(simp only[uG];simp(disch:=first|omega|exact kD rfl|exact kX rfl) only[smY,simprocAttr,bl,i64,smT];rfl))
     ·have g3:=aB6 (L.getD j 0) (by have:=hf j (by omega);omega)
      have e3:((j+1:Nat):Int)-1=(j:Int):=by omega
      have hqc:(qc L).length=m*4:=by rw[gH,hlen]
      by_cases hjk:k=j+1
      ·have hnz:¬(L.getD j 0).num.sign=0:=fun e=>by
        have:=hk2 (by omega)
        rw[hjk,Nat.add_sub_cancel]at this
        exact this (Rat.num_eq_zero.1 (Int.sign_eq_zero_iff_zero.1 e))
       subst hjk
       generalize hq:L.getD j 0=q at*
       generalize q.num.sign=s at*
       simp only[aH,i64]at g3
       refine cW (nd hq e3) ?_
       (((first|apply dG|apply dI);case hres=>(simp only[iC];simp(disch:=first|omega|exact kD rfl|exact kX rfl) only[smY,simprocAttr,bl,i64,smT,hq,e3];exact rfl));simp(disch:=first|omega|exact kD rfl|exact kX rfl) only[smY,simprocAttr,bl,i64,smT,hq,e3];first |done |rfl |(simp only[uG];simp(disch:=first|omega|exact kD rfl|exact kX rfl) only[smY,simprocAttr,bl,i64,smT,hq,e3];done) |(simp only[uG];simp(disch:=first|omega|exact kD rfl|exact kX rfl) only[smY,simprocAttr,bl,i64,smT,hq,e3];rfl))
      ·have hz:(L.getD j 0).num.sign=0:=by
        rw[hk1 j (by omega)]
        rfl
       rw[hz]at g3
       generalize hq:L.getD j 0=q at*
       simp only[aH,i64]at g3
       refine cW (nd hq e3) ?_
       refine⟨⟨j,by omega,by omega⟩,?_,by simp only;omega⟩
       exact zL0 [0]
end
section
open Go Go.Lg Go.Num
theorem lD {h:Nat→Option Blk}{ok:Nat→Bool}{k:Nat}:∀ l:List (Option Rat),fG h ok (k+1) (oc l)=some (op l,[])
 |[]=>rfl
 |none::l=>by
  have e1:oc (none::l)= .lit (.bool false):: .lit (.slice none 0 0):: .lit (.bool false):: .lit (.slice none 0 0)::oc l:=rfl
  rw[e1]
  simp only[jN,lD l,xZ,aIv,Option.bind_some,Option.map_some]
  rfl
 |some q::l=>by
  have e1:oc (some q::l)=sg q.num::mg q.num::sg (q.den:Int)::mg (q.den:Int)::oc l:=by
    show cZ q++oc l=_
    rw[dK];rfl
  have e2:op (some q::l)=sg q.num::mg q.num::sg (q.den:Int)::mg (q.den:Int)::op l:=by
    show cZ q++op l=_
    rw[dK];rfl
  rw[e1,e2]
  simp only[jN,lD l,qY (rQ _),qY (rR _),Option.bind_some,Option.map_some]
  rfl
theorem iA {l:List (Option Rat)}{m:Nat}(h:m=l.length*4):(oc l).take m=oc l:=List.take_of_length_le (by rw[aA4];omega)
def oQ (g t:List Rat):List Rat:=bQ (eU g (t.length+1-g.length) t)
theorem aFk {g t:List Rat}(h:t.length<g.length):oQ g t=bQ t:=by
 unfold oQ
 rw[show t.length+1-g.length=0 by omega,eU]
theorem aFl (f:List Rat):sQ (bQ f):=by
 obtain⟨n,hn⟩:∃ n,f.length=n:=⟨_,rfl⟩
 induction n generalizing f with
 |zero=>
  have:f=[]:=List.length_eq_zero_iff.1 hn
  subst this
  intro h
  simp[aHv]at h
 |succ n ih=>
  have e:f=f.take n++[f.getD n 0]:=by
    have h1:=List.take_succ_eq_append_getElem (l:=f) (i:=n) (by omega)
    have h2:f.getD n 0=f[n]:=by simp[List.getD,show n<f.length by omega]
    rw[h2,← h1,List.take_of_length_le (by omega)]
  have hl:(f.take n).length=n:=by rw[List.length_take];omega
  by_cases hz:f.getD n 0=0
  · rw[e,hz,jV]
    exact ih _ hl
  · rw[e,gG _ hz]
    intro _
    simp only[List.length_append,List.length_cons,List.length_nil,Nat.add_sub_cancel]
    simpa[List.getD,hl]using hz
theorem jC (f:List Rat) (j:Nat):(bQ f).getD j 0=f.getD j 0:=by
 obtain⟨n,hn⟩:∃ n,f.length=n:=⟨_,rfl⟩
 induction n generalizing f with
 |zero=>
  have:f=[]:=List.length_eq_zero_iff.1 hn
  subst this
  rfl
 |succ n ih=>
  have e:f=f.take n++[f.getD n 0]:=by
    have h1:=List.take_succ_eq_append_getElem (l:=f) (i:=n) (by omega)
    have h2:f.getD n 0=f[n]:=by simp[List.getD,show n<f.length by omega]
    rw[h2,← h1,List.take_of_length_le (by omega)]
  have hl:(f.take n).length=n:=by rw[List.length_take];omega
  by_cases hz:f.getD n 0=0
  · have e1:bQ f=bQ (f.take n):=by
      conv=>lhs;rw[e,hz]
      exact jV _
    rw[e1,ih _ hl]
    rcases Nat.lt_trichotomy j n with h |h |h
    · simp[List.getD,h]
    · subst h;rw[hz];simp[List.getD,hl]
    · have h3:(f.take n).length≤j:=by omega
      simp only[List.getD,List.getElem?_eq_none h3,List.getElem?_eq_none (show f.length≤j by omega)]
  · have e1:bQ f=f:=by
      conv=>lhs;rw[e]
      rw[gG _ hz,← e]
    rw[e1]
theorem uI (f:List Rat):(bQ f).length≤f.length:=by
 unfold bQ
 rw[List.length_reverse]
 have h:=(List.dropWhile_sublist (l:=f.reverse) (· ==0)).length_le
 rwa [List.length_reverse]at h
theorem bIw {D:Int}{L:Nat}{f:List Rat}(hD:D≠0) (hK:len D≤60) (hL:L≤4000) (h:∀ j,lW D L (f.getD j 0)):aGj f:=by
 intro q hq
 obtain⟨j,hj,rfl⟩:=List.getElem_of_mem hq
 have:=h j
 rw[show f.getD j 0=f[j]by simp[List.getD,hj]]at this
 exact aFi (by have:=this.lq hD hK;omega)
attribute [local irreducible] lrun lwp exThen exBlk keep goodPost sg mg oc op
theorem bCz (F:List (Option Rat)) (g:List Rat) {D:Int}{L:Nat}(hD:D≠0) (hK:len D≤60) (hL:L≤3000) (hF:F.length≤500) (hf:∀ j,lW D L ((ov F).getD j 0)) (hq:∀ q,some q∈F→lq q≤100000) (hg:∀ b∈g,aFg b) (hg1:1≤g.length) (hg2:g.length≤500) (hm:g.getD (g.length-1) 0=1):
  ∃ Q:List Rat,PureGood Tryz.prog 230 [.sl F.length (op F),encF g] (.tup [encF Q,encF (oQ g (bQ (ov F))),i64 0]):=by
 have lg:sQ g:=fun _=>by rw[hm];decide
 have hsg:∀ c∈g,lq c≤100000:=fun c hc=>by
  rcases hg c hc with rfl |rfl |rfl
  all_goals decide+kernel
 have sgl:aGj g:=fun c hc=>aFi (by
  rcases hg c hc with rfl |rfl |rfl
  all_goals decide+kernel)
 have gn1:=jJ g (by omega) hsg
 rw[kU lg]at gn1
 have gn2:=aH0 F (by omega) hq
 have lt:=aFl (ov F)
 have ht:∀ j,lW D L ((bQ (ov F)).getD j 0):=fun j=>by rw[jC];exact hf j
 have htl:=uI (ov F)
 rw[aA9]at htl
 have st:=bIw hD hK (by omega) ht
 generalize bQ (ov F)=t at*
 by_cases hs:t.length<g.length
 ·have gd:=aNs t g lt st hs (by omega)
  refine⟨[],?_⟩
  rw[aFk hs,kU lt]
  have e0:encF []= .sl 0 []:=by rw[bD];rfl
  rw[e0]
  simp only[bD,i64]at*
  refine aA bC Tryz.func230 rfl (by decide) (nt:=21) rfl (rs:=[.tmp 4,.tmp 5,.tmp 6]) rfl (aZ rfl) ?_
  refine dM ?_
  exact mJ
 ·obtain⟨q',h1,h2,h3⟩:=aJ8 hD hK hg (t.length+1-g.length) L (List.replicate (t.length+1-g.length) none) t (by omega) ht (fun j h1 h2=>by rw[List.length_replicate]at h2;omega)
  obtain⟨Q,rfl,hQl⟩:=aH6 (q:=q') (fun j hj=>h3 j (by omega))
  rw[List.length_map,List.length_replicate]at h2
  have hR:=jW g (t.length+1-g.length) t
  have gd:=aQ8 t g Q (eU g (t.length+1-g.length) t) (t.length+1-g.length) lt st sgl hg1 (by omega) (by omega) (by omega) (by omega) (by rw[hm];decide) (by rw[hm];exact h1) (by omega) (by omega)
  refine⟨bQ Q,?_⟩
  unfold oQ
  generalize bQ Q=tQ at*
  generalize bQ (eU g (t.length+1-g.length) t)=tR at*
  simp only[bD,i64]at*
  refine aA bC Tryz.func230 rfl (by decide) (nt:=21) rfl (rs:=[.tmp 4,.tmp 5,.tmp 6]) rfl (aZ rfl) ?_
  refine dM ?_
  exact mJ
theorem aW8 (q:Rat) (h:lq q≤100000):PureGood Tryz.prog 216 [bF q,bF q] (i64 0):=by
 have g1:=nC q q (by omega) (by omega)
 rw[Rat.sub_self]at g1
 have g2:=kM 0 (by decide+kernel)
 rw[show(0:Rat).num.sign=0 from rfl]at g2
 simp only[aH,i64]at*
 refine aA bC Tryz.func216 rfl (by decide) (nt:=9) rfl (rs:=[.tmp 4]) rfl (aZ rfl) ?_
 refine dM ?_
 exact mJ
theorem bVw {n:Nat}(hn:n∈qS) (h1:1≤(dF n).length-1) (h2:(dF n).length≤13) (hm:(rz (dF n)).getD ((dF n).length-1) 0=1) (H:Nat→Option Blk):
  mI Tryz.prog 126 [.agg [.sl (dF n).length (mB (dF n))]] H 10 (.tup [.ptr 40 0,i64 0]) (dA (dA H 10 (some ⟨101,[.sl (dF n).length (mB (dF n))],false⟩)) 40 (some ⟨253,[.sl (dF n).length (qc (rz (dF n))),i64 ((dF n).length-1:Nat)],false⟩)) 100:=by
 obtain⟨z1,z2⟩:=aJ4 hn
 have r1:=gW 1 (by omega)
 have r2:=aW8 1 (by decide+kernel)
 have hl:=bX (dF n)
 rw[bD,hl]at z2
 have e1:(((dF n).length:Int)-1).toNat=(dF n).length-1:=by omega
 have e2:((dF n).length:Int)-1=(((dF n).length-1:Nat):Int):=by omega
 refine lJ bC Tryz.func126 rfl (by decide) (nt:=32) rfl (rs:=[.tmp 2,.tmp 3]) rfl (aZ rfl) ?_
 simp only[aH,i64]at*
 (repeat(first|apply zO (by decide+kernel)|apply zP (by decide+kernel)|(apply zS;(case h=>constructor<;>decide))|((first|apply cD rfl|apply aR|apply zT rfl (by decide) rfl);(case hs=>(simp(disch:=first|omega|exact kD rfl|exact kX rfl) only[smY,simprocAttr,bl,i64,smT,e1,e2,hm];exact rfl));first|refine cB ?_|refine cC ?_|refine zq ?_|(case hg=>assumption))))
 exact⟨by simp only[iC];try rfl,rfl,by simp only[List.length_cons,List.length_nil];omega⟩
theorem aW9 (F:List (Option Rat)) (g:List Rat) (Q R:List Rat) (hd:PureGood Tryz.prog 230 [.sl F.length (op F),encF g] (.tup [encF Q,encF R,i64 0])) (x:LV) (nb:Nat) (H:Nat→Option Blk) (b:Nat) (hb:H b=some ⟨253,[.sl g.length (qc g),x],false⟩):
  mI Tryz.prog 143 [.ptr b 0,.sl F.length (op F)] H nb (encF R) H (nb+100):=by
 refine lJ bC Tryz.func143 rfl (by decide) (nt:=19) rfl (rs:=[.tmp 4]) rfl (aZ rfl) ?_
 simp only[bD,i64]at*
 refine cW hb ?_
 exact⟨by simp only[iC];try rfl,rfl,by simp only[List.length_cons,List.length_nil];omega⟩
def cyB (n:Nat):Bool:=((dF n).all fun z=>z==0 ||z==1 ||z== -1) && Nat.ble 2 (dF n).length && Nat.ble (dF n).length 13 && ((dF n).getD ((dF n).length-1) 0==1)
theorem bVx:qS.all cyB=true:=by decide+kernel
theorem wE {n:Nat}(h:n∈qS):(∀ b∈rz (dF n),aFg b)∧2≤(dF n).length∧(dF n).length≤13∧(rz (dF n)).getD ((dF n).length-1) 0=1:=by
 have h1:=List.all_eq_true.1 bVx n h
 unfold cyB at h1
 simp only[Bool.and_eq_true,Nat.ble_eq,beq_iff_eq,List.all_eq_true,Bool.or_eq_true]at h1
 obtain⟨⟨⟨h2,h3⟩,h4⟩,h5⟩:=h1
 refine⟨fun b hb=> ?_,h3,h4,by rw[mD,h5];rfl⟩
 obtain⟨z,hz,rfl⟩:=List.mem_map.1 hb
 rcases h2 z hz with(rfl |rfl) |rfl
 ·exact .inr (.inl rfl)
 ·exact .inl rfl
 ·exact .inr (.inr rfl)
theorem wF {n:Nat}(hn:n∈qS) (F:List (Option Rat)) {D:Int}{L:Nat}(hD:D≠0) (hK:len D≤60) (hL:L≤3000) (hF:F.length≤500) (hf:∀ j,lW D L ((ov F).getD j 0)) (hq:∀ q,some q∈F→lq q≤100000):
  PureGood Tryz.prog 60 [.agg [.sl (dF n).length (mB (dF n))],.sl F.length (op F)] (.tup [encF (oQ (rz (dF n)) (bQ (ov F))),i64 0]):=by
 obtain⟨c1,c2,c3,c4⟩:=wE hn
 have hl:=bX (dF n)
 obtain⟨Q,gd⟩:=bCz F (rz (dF n)) hD hK hL hF hf hq c1 (by omega) (by omega) (by rw[hl];exact c4)
 have gh:=aW9 F (rz (dF n)) Q _ gd
 rw[hl]at gh
 generalize oQ (rz (dF n)) (bQ (ov F))=R at*
 have go:=bVw hn (by omega) c3 c4
 have hop:=op_len F
 simp only[bD,i64]at*
 refine aA bC Tryz.func60 rfl (by decide) (nt:=19) rfl (rs:=[.tmp 4,.tmp 5]) rfl (aZ rfl) ?_
 refine bPl ?_
 refine aE4 rfl rfl rfl rfl (by decide) rfl (by simp(disch:=first|omega|exact kD rfl|exact kX rfl) only[smY,simprocAttr,bl,i64,smT,@op_take,op_len];try exact rfl) (go _) (by decide) ?_
 refine bPl ?_
 refine aE4 (by simp only[List.size_toArray,List.length_cons,List.length_nil,Nat.reduceAdd,Nat.max_def,Nat.reduceLeDiff,↓reduceIte];exact rfl) rfl rfl rfl (by decide) rfl (by simp(disch:=first|omega|exact kD rfl|exact kX rfl) only[smY,simprocAttr,bl,i64,smT,@op_take,op_len];try exact rfl) (gh _ _ _ 40 (by simp(disch:=first|omega|exact kD rfl|exact kX rfl) only[smY,simprocAttr,bl,i64,smT,@op_take,op_len];try exact rfl)) (by decide) ?_
 refine bPl ?_
 ((first|apply dG|apply dI);case hres=>(simp only[iC];simp(disch:=first|omega|exact kD rfl|exact kX rfl) only[smY,simprocAttr,bl,i64,smT,@op_take,op_len];exact rfl))
 simp(disch:=first|omega|exact kD rfl|exact kX rfl) only[smY,simprocAttr,bl,i64,smT,@op_take,op_len]
end
section
open Go Go.Lg Go.Num
theorem aXa (Q:List Rat):oc (Q.map some)=qc Q:=vH Q
theorem aXb (c b:Rat) (g r:List Rat) (i:Nat):fX c (b::g) r i=fX c g (r.set i (r.getD i 0-c*b)) (i+1):=rfl
theorem bC0 (c:Rat) (r:List Rat) (i:Nat):fX c [] r i=r:=rfl
theorem aXc (g:List Rat) (k:Nat) (r:List Rat):eU g (k+1) r=eU g k (fX (r.getD (k+g.length-1) 0) g r k):=rfl
theorem aXd (g r:List Rat):eU g 0 r=r:=rfl
theorem div_one (q:Rat):q / 1=q:=by
 rw[Rat.div_def,show(1:Rat)⁻¹=1 by decide+kernel,Rat.mul_one]
theorem uJ {D:Int}{L M:Nat}{q:Rat}(h:lW D L q) (hD:D≠0) (hK:len D≤60) (hL:L+60≤M):lq q≤M:=by
 have:=h.lq hD hK
 omega
def aJ9 (g:List Rat):Nat→List (Option Rat)→List Rat→List (Option Rat)
 |0,q,_=>q
 |k+1,q,r=>aJ9 g k (q.set k (some (r.getD (k+g.length-1) 0))) (fX (r.getD (k+g.length-1) 0) g r k)
theorem aXe (g:List Rat) (q:List (Option Rat)) (r:List Rat):aJ9 g 0 q r=q:=rfl
theorem aXf (g:List Rat) (k:Nat) (q:List (Option Rat)) (r:List Rat):aJ9 g (k+1) q r=aJ9 g k (q.set k (some (r.getD (k+g.length-1) 0))) (fX (r.getD (k+g.length-1) 0) g r k):=rfl
theorem aT1 {D:Int}{g:List Rat}(hD:D≠0) (hK:len D≤60) (hg:∀ b∈g,aFg b):∀ (k L:Nat) (q:List (Option Rat)) (r:List Rat),L+k≤4000→(∀ j,lW D L (r.getD j 0))→(∀ j,k≤j→j<q.length→∃ x,q.getD j none=some x∧lq x≤5000)→
  (aJ9 g k q r).length=q.length∧∀ j,j<q.length→∃ x,(aJ9 g k q r).getD j none=some x∧lq x≤5000
 |0,L,q,r,_,_,hq=>⟨rfl,fun j hj=>hq j (Nat.zero_le _) hj⟩
 |k+1,L,q,r,hL,hr,hq=>by
  have hc:=hr (k+g.length-1)
  have hs:=zC hc g r k hg (fun j _=>(hr j).mono (by omega)) (fun j _=>hr j)
  obtain⟨h1,h2⟩:=aT1 hD hK hg k (L+1) (q.set k (some (r.getD (k+g.length-1) 0))) (fX (r.getD (k+g.length-1) 0) g r k) (by omega) hs (fun j j1 j2=>by
    rw[List.length_set]at j2
    by_cases e:k=j
    · subst e
      exact⟨_,by simp[List.getD,j2],uJ hc hD hK (by omega)⟩
    · have:(q.set k (some (r.getD (k+g.length-1) 0))).getD j none=q.getD j none:=by simp[List.getD,List.getElem?_set,e]
      rw[this]
      exact hq j (by omega) j2)
  rw[List.length_set]at h1 h2
  exact⟨h1,h2⟩
attribute [local irreducible] lrun lwp exThen exBlk keep goodPost sg mg oc fX eU aJ9 lW
theorem aNt (X:LV) (hX:∃ n cs,X= .sl n cs) (t:List Rat) (gnN:jQ Tryz.prog 72 [X] t.length 4 47 (qc t)) (lt:sQ t) (g:List Rat) {Dn:Int}{L:Nat}(hD:Dn≠0) (hK:len Dn≤60) (hL:L≤3000) (htl:t.length≤500) (ht:∀ j,lW Dn L (t.getD j 0)) (hg:∀ b∈g,aFg b) (hg1:1≤g.length) (hg2:g.length≤500) (hm:g.getD (g.length-1) 0=1):
  ∃ Q:List Rat,PureGood Tryz.prog 70 [X,encF g] (.tup [encF Q,encF (oQ g t)]):=by
 obtain⟨nX,cX,rfl⟩:=hX
 have lg:sQ g:=fun _=>by rw[hm];decide
 have hsg:∀ j,j<g.length→lq (g.getD j 0)≤5000:=fun j hj=>by
  have h1:g.getD j 0∈g:=by rw[show g.getD j 0=g[j]by simp[List.getD,hj]];exact List.getElem_mem hj
  rcases hg _ h1 with h |h |h
  all_goals rw[h];decide+kernel
 have gng:=uH g (by omega) (fun j hj=>by have:=hsg j hj;omega)
 rw[kU lg]at gng
 by_cases hs:t.length<g.length
 ·refine⟨[],?_⟩
  rw[aFk hs,kU lt]
  have e0:encF []= .sl 0 []:=by rw[bD];rfl
  rw[e0]
  simp only[bD,i64]at*
  refine aA bC Tryz.func70 rfl (by decide) (nt:=85) rfl (rs:=[.tmp 4,.tmp 5]) rfl (aZ rfl) ?_
  refine zU ?_
  refine uV (by simp only[List.size_toArray,List.length_cons,List.length_nil,Nat.reduceAdd,Nat.max_def,Nat.reduceLeDiff,↓reduceIte];exact rfl) rfl rfl rfl (by decide) rfl (by simp(disch:=first|omega|exact kD rfl|exact kX rfl) only[smY,simprocAttr,bl,i64,smT,smO];try exact rfl) gnN (by simp[aB]) (by simp[dA]) ?_
  refine zU ?_
  exact zQ5
 ·obtain⟨D,hDl⟩:∃ D,D=t.length+1-g.length:=⟨_,rfl⟩
  have gR:=uH (eU g D t) (by rw[jW];omega) (fun j _=>uJ (aFh hg D L t ht j) hD hK (by omega))
  have hRl:=jW g D t
  have e1:oQ g t=bQ (eU g D t):=by rw[hDl];rfl
  rw[e1]
  have hDz:((t.length:Int)-(g.length:Int)+1).toNat=D:=by omega
  obtain⟨qa,qb⟩:=aT1 hD hK hg D L (List.replicate D none) t (by omega) ht (fun j h1 h2=>by rw[List.length_replicate]at h2;omega)
  rw[List.length_replicate]at qa qb
  obtain⟨Q,hQe,hQl⟩:=aH6 (q:=aJ9 g D (List.replicate D none) t) (fun j hj=>by
   obtain⟨x,h1,_⟩:=qb j (by omega)
   rw[h1]
   exact fun e=>nomatch e)
  rw[qa]at hQl
  have hQs:∀ j,j<Q.length→lq (Q.getD j 0)≤100000:=fun j hj=>by
   obtain⟨x,h1,h2⟩:=qb j (by omega)
   rw[hQe]at h1
   have:Q.getD j 0=x:=by simpa[List.getD,hj]using h1
   rw[this]
   omega
  have gQ:=uH Q (by omega) hQs
  refine⟨bQ Q,?_⟩
  generalize bQ Q=tQ at*
  generalize hR:eU g D t=R at*
  generalize bQ R=tR at*
  have hRl':R.length=t.length:=hRl
  simp only[bD,i64]at*
  rw[hQl]at gQ
  rw[hRl']at gR
  refine aA bC Tryz.func70 rfl (by decide) (nt:=85) rfl (rs:=[.tmp 4,.tmp 5]) rfl (aZ rfl) ?_
  refine zU ?_
  refine uV (by simp only[List.size_toArray,List.length_cons,List.length_nil,Nat.reduceAdd,Nat.max_def,Nat.reduceLeDiff,↓reduceIte];exact rfl) rfl rfl rfl (by decide) rfl (by simp(disch:=first|omega|exact kD rfl|exact kX rfl) only[smY,simprocAttr,bl,i64,smT,smO];try exact rfl) gnN (by simp[aB]) (by simp[dA]) ?_
  refine sU hDz ?_
  refine aI (α:={x:Nat×List (Option Rat)×List Rat // x.1≤D∧x.2.1.length=D∧x.2.2.length=t.length∧(∀ j,lW Dn (L+(D-x.1)) (x.2.2.getD j 0))∧eU g x.1 x.2.2=R∧aJ9 g x.1 x.2.1 x.2.2=Q.map some}) (fun x=>st 85 (lk [(6,.own 0 0 t.length 4),(7,.sl g.length (qc g)),(8,.own 1 0 D 4),(9,i64 ((x.1.1:Int)-1))]) (cP [(0,⟨47,qc x.1.2.2,false⟩),(1,⟨47,oc x.1.2.1,false⟩)]) 2) (fun x=>x.1.1) ⟨(D,List.replicate D none,t),Nat.le_refl _,by simp,rfl,by simpa using ht,hR,hQe⟩ ?_ ?_
  ·(refine Sub.heapL [8,20] rfl (by decide) ?_ (by simp only[fB];decide) ?_ ?_;all_goals(first|(simp only[aB,aG,dg,renL,renLs,simprocAttr,bl,i64,smT,smO,hDz];done) |(simp only[aG,dg,renL,renLs,simprocAttr,bl,i64,smT,smO,hDz];(repeat' apply And.intro);all_goals rfl) |(simp only[aG,dg,renL,renLs,simprocAttr,bl,i64,smT,smO,hDz]) |skip))
   all_goals(first |done |((repeat' apply And.intro);all_goals(first |trivial |rfl |(simp only[LV.lit.injEq,Value.int.injEq,true_and];omega))) |trace_state)
  ·rintro⟨⟨k,q,r⟩,hk,hq,hr,hfr,hdr,hdq⟩
   simp only at hk hq hr hfr hdr hdq
   simp only[st]
   by_cases hk0:k=0
   ·subst hk0
    rw[aXd]at hdr
    rw[aXe]at hdq
    subst hdr hdq
    rw[aXa]
    refine zU ?_
    exact zQ5
   ·obtain⟨k,rfl⟩:∃ j,k=j+1:=⟨k-1,by omega⟩
    rw[aXc]at hdr
    rw[aXf]at hdq
    have la:=uJ (hfr (k+g.length-1)) hD hK (M:=5000) (by omega)
    have gq:=aM2 (r.getD (k+g.length-1) 0) (g.getD (g.length-1) 0) (by omega) (by rw[hm];decide+kernel)
    rw[hm,div_one]at gq
    have hca:=hfr (k+g.length-1)
    obtain⟨M,hM⟩:∃ M,M=L+(D-(k+1)):=⟨_,rfl⟩
    have hM1:L+(D-k)=M+1:=by omega
    rw[← hM]at hfr hca
    have hset:=kT (l:=q) (j:=k) (by omega) (r.getD (k+g.length-1) 0)
    have hql:(q.set k (some (r.getD (k+g.length-1) 0))).length=D:=by simp[hq]
    have hk1:((k+1:Nat):Int)-1=k:=by omega
    generalize hc:r.getD (k+g.length-1) 0=c at*
    generalize hr':fX c g r k=r' at*
    simp only[aH,i64]at gq
    (repeat(first|apply zO (by decide+kernel)|apply zP (by decide+kernel)|(apply zS;(case h=>constructor<;>decide))|((first|apply cD rfl|apply aR|apply zT rfl (by decide) rfl);(case hs=>(simp(disch:=first|omega|exact kD rfl|exact kX rfl) only[smY,simprocAttr,bl,i64,smT,smO,hc,hk1,hset,hm];exact rfl));first|refine cB ?_|refine cC ?_|refine zq ?_|(case hg=>assumption))))
    refine aI (α:={x:Nat×List Rat // x.1≤g.length∧x.2.length=t.length∧(∀ j,j<k+x.1→lW Dn (M+1) (x.2.getD j 0))∧(∀ j,k+x.1≤j→lW Dn M (x.2.getD j 0))∧fX c (g.drop x.1) x.2 (k+x.1)=r'}) (fun x=>st 85 (lk [(6,.own 0 0 t.length 4),(7,.sl g.length (qc g)),(8,.own 1 0 D 4),(9,i64 k),(10,.ptr 2 0),(11,i64 x.1.1)]) (cP [(0,⟨47,qc x.1.2,false⟩),(1,⟨47,oc (q.set k (some c)),false⟩),(2,⟨47,[sg (c).num,mg (c).num,sg ((c).den:Int),mg ((c).den:Int)],false⟩)]) 3) (fun x=>g.length-x.1.1) ⟨(0,r),by simp,hr,fun j _=>(hfr j).mono (by omega),fun j _=>hfr j,by simpa using hr'⟩ ?_ ?_
    ·exact zL1 [0,1,19]
    ·rintro⟨⟨j,y⟩,hj,hy,fy1,fy2,hsub⟩
     simp only at hj hy fy1 fy2 hsub
     simp only[st]
     by_cases hlt:j<g.length
     ·rw[List.drop_eq_getElem_cons hlt,aXb]at hsub
      have hgj:g.getD j 0=g[j]:=by simp[hlt]
      have hbm:=hg _ (List.getElem_mem hlt)
      rw[← hgj]at hsub hbm
      have lb:=hsg j hlt
      have fyk:=fy2 (k+j) (Nat.le_refl _)
      have ly:=uJ fyk hD hK (M:=5000) (by omega)
      have lc:=uJ hca hD hK (M:=5000) (by omega)
      have lm:=uJ (hca.mul1 hbm) hD hK (M:=5000) (by omega)
      have fv:=fyk.sub1 hca hbm
      have gm:=dV c (g.getD j 0) (by omega) (by omega)
      have gs:=aEq (y.getD (k+j) 0) (c*g.getD j 0) (by omega) (by omega)
      have hys:=aE6 (l:=y) (j:=k+j) (by omega) (y.getD (k+j) 0-c*g.getD j 0)
      have hyl:(y.set (k+j) (y.getD (k+j) 0-c*g.getD j 0)).length=t.length:=by simp[hy]
      have hkj:((k:Int)+(j:Int))=((k+j:Nat):Int):=by simp
      have hkb:k+j<y.length:=by omega
      have hgd:(qc (y.set (k+j) (y.getD (k+j) 0-c*g.getD j 0))).length=t.length*4:=by rw[gH,hyl]
      generalize hv:y.getD (k+j) 0-c*g.getD j 0=v at*
      generalize hmm:c*g.getD j 0=mm at*
      generalize hb:g.getD j 0=b at*
      generalize hx:y.getD (k+j) 0=x at*
      simp only[aH]at gm gs
      refine sU (nd hb (nd hx (nd hkj hys))) ?_
      refine⟨⟨(j+1,y.set (k+j) v),by simp only;omega,by simp only;exact hyl,?_,?_,by simp only;exact hsub⟩,?_,by simp only;omega⟩
      ·intro i hi
       refine wD _ fv ?_
       rcases Nat.lt_or_ge i (k+j)with h |h
       ·exact fy1 i h
       ·exact(fy2 i h).mono (by omega)
      ·intro i hi
       rw[uF (by simp only at hi;omega)]
       exact fy2 i (by simp only at hi;omega)
      ·exact zL1 [0,1,2]
     ·obtain rfl:j=g.length:=by omega
      rw[List.drop_length,bC0]at hsub
      subst hsub
      refine zU ?_
      refine⟨⟨(k,q.set k (some c),y),by simp only;omega,by simp only;exact hql,hy,?_,hdr,hdq⟩,?_,by simp only;omega⟩
      ·intro i
       simp only
       rw[hM1]
       rcases Nat.lt_or_ge i (k+g.length)with h |h
       ·exact fy1 i h
       ·exact(fy2 i h).mono (by omega)
      ·exact zL1 [0,1]
end
section
open Go Go.Lg Go.Num
attribute [local irreducible] lrun lwp exThen exBlk keep goodPost sg mg bq
end
section
open Go Go.Lg Go.Num
attribute [local irreducible] lrun lwp exThen exBlk keep goodPost sg mg bq
theorem aXg {z:Int}(h:z.natAbs≤1) (n:Nat):z^(if n=0 then 0 else 2+n % 2)=z^n:=by
 have h3:z=0∨z=1∨z= -1:=by omega
 by_cases h0:n=0
 ·subst h0;rfl
 ·rw[if_neg h0]
  rcases h3 with rfl |rfl |rfl
  ·rw[Int.zero_pow (by omega),Int.zero_pow h0]
  ·rw[Int.one_pow,Int.one_pow]
  ·have key:∀ k:Nat,(-1:Int)^(2*k)=1:=fun k=>by rw[Int.pow_mul];show(1:Int)^k=1;exact Int.one_pow
   rcases Nat.mod_two_eq_zero_or_one n with h |h
   ·rw[h]
    conv=>rhs;rw[show n=2*(n / 2)by omega,key]
    rfl
   ·rw[h]
    conv=>rhs;rw[show n=2*(n / 2)+1 by omega,Int.pow_succ,key]
    rfl
theorem aXh (q:Rat) (n:Nat) (hn:n≤100) (hq:lq q≤50):PureGood Tryz.prog 136 [bF q,i64 n] (.tup [bF (q^n),i64 0]):=by
 have h1:=gV q (by omega)
 have h2:=aP6 q (by omega)
 have hb:nO q=max (aK q.num.natAbs) (aK q.den):=rfl
 have l1:len q.num≤50:=by unfold lq at hq;omega
 have l2:len (q.den:Int)≤50:=by unfold lq at hq;omega
 have b1:=jF q.num.natAbs
 have b2:=jF q.den
 have e2:(aC q.den).length≤50:=by unfold len at l2;rwa [Int.natAbs_natCast]at l2
 have e1:(aC q.num.natAbs).length≤50:=l1
 have hbb:nO q≤1600:=by omega
 have hdiv:∀ s:Nat,s≤1600→1<s→n≤1048576 / s:=fun s h1 h2=>(Nat.le_div_iff_mul_le (by omega)).2 (by have:n*s≤100*1600:=Nat.mul_le_mul hn h1;omega)
 by_cases hs:nO q≤1
 ·have n1:=iT q.num.natAbs
  have n2:=iT q.den
  have t1:2^aK q.num.natAbs≤2^1:=Nat.pow_le_pow_right (by omega) (by omega)
  have t2:2^aK q.den≤2^1:=Nat.pow_le_pow_right (by omega) (by omega)
  have u1:q.num.natAbs≤1:=by omega
  have u2:q.den=1:=by have:=q.den_nz;omega
  have hqn:q=(q.num:Rat):=by apply Rat.ext <;>simp[u2]
  have hpw:=aXg u1 n
  have hpq:((q.num^n:Int):Rat)=q^n:=by rw[Rat.intCast_pow,← hqn]
  have hln:len (q.num^n)≤1:=by
   have:(q.num^n).natAbs≤1:=by rw[Int.natAbs_pow];exact Nat.le_trans (Nat.pow_le_pow_left u1 n) (by rw[Nat.one_pow];omega)
   exact bG (e:=1) (by omega)
  have w1:=nQ (q.num^n) (by omega)
  rw[hpq]at w1
  have hnb:aK q.num.natAbs≤1:=by omega
  by_cases h0:n=0
  ·subst h0
   have p1:=tN q.num 0 (by omega) (.inl hnb) (by omega)
   rw[Int.natCast_zero]at*
   generalize q^0=r at*
   generalize nO q=S at*
   clear hqn hpq hpw
   simp only[aH,aW,i64]at*
   refine aA bC Tryz.func136 rfl (by decide) (nt:=83) rfl (rs:=[.cell 4 47,.tmp 5]) rfl (aZ rfl) ?_
   refine dM ?_
   exact mJ
  ·have p1:=tN q.num (2+n % 2) (by omega) (.inl hnb) (by omega)
   rw[if_neg h0]at hpw
   rw[hpw,show((2+n % 2:Nat):Int)=2+(n:Int) % 2 by omega]at p1
   generalize q.num^n=z at*
   generalize q^n=r at*
   generalize nO q=S at*
   clear hqn hpq hpw
   simp only[aH,aW,i64]at*
   refine aA bC Tryz.func136 rfl (by decide) (nt:=83) rfl (rs:=[.cell 4 47,.tmp 5]) rfl (aZ rfl) ?_
   refine dM ?_
   exact mJ
 ·have hd1:=hdiv (nO q) hbb (by omega)
  have hcast:(1048576:Int) / (nO q:Int)=((1048576 / nO q:Nat):Int):=rfl
  have p1:=tN q.num n (by omega) (by by_cases h:aK q.num.natAbs≤1;exact .inl h;exact .inr (hdiv _ (by omega) (by omega))) (by omega)
  have p2:=tN (q.den:Int) n (by omega) (by rw[Int.natAbs_natCast];by_cases h:aK q.den≤1;exact .inl h;exact .inr (hdiv _ (by omega) (by omega))) (by omega)
  have m1:=jR q.num n
  have m2:=jR (q.den:Int) n
  have m3:n*len q.num≤100*50:=Nat.mul_le_mul hn l1
  have m4:n*len (q.den:Int)≤100*50:=Nat.mul_le_mul hn l2
  have o1:=uY (q.num^n) ((q.den:Int)^n) (by omega) (by omega)
  rw[← aP4]at o1
  have hmx:(if 0-(n:Int)>(n:Int)then 0-(n:Int)else(n:Int))=(n:Int):=by split <;>omega
  have hdn:((1048576 / nO q:Nat):Int)≤1048576:=by have:=Nat.div_le_self 1048576 (nO q);omega
  generalize 1048576 / nO q=M at*
  generalize nO q=S at*
  simp only[aH,aW,i64]at*
  clear hdiv hb b1 b2 e1 e2 m1 m2 m3 m4
  refine aA bC Tryz.func136 rfl (by decide) (nt:=83) rfl (rs:=[.cell 4 47,.tmp 5]) rfl (aZ rfl) ?_
  refine cW (nd hmx hcast) ?_
  exact aL4 (nd hmx hcast)
theorem bC1 (n:Nat):bp n (n+1)=xN n:=rfl
theorem aFm (f:List Rat) (x:Rat):hor f x=mW f x:=rfl
theorem aQ9 {n:Nat}(hn:n≤41) (x:Rat) (hx:lq x≤1000):PureGood Tryz.prog 131 [encF (bp n (n+1)),bF x] (bF (mW (xN n) x))∧lq (mW (xN n) x)≤100000:=by
 have hh:∀ k,lq (mW ((xN n).drop k) x)≤100000:=fun k=>aJ7 hx (by omega) hn
 have h0:=hh 0
 rw[List.drop_zero]at h0
 refine⟨?_,h0⟩
 rw[bC1,← aFm]
 refine aHg (xN n) x (by rw[← bC1,nD];omega) (by omega) (fun c hc=>by have:=aNi (n:=n) (by omega) (n+1) c hc;omega) (fun k=>by rw[aFm];have:=hh k;omega) (fun k=> ?_)
 rw[aFm]
 have h1:=hh k
 have h2:=kK (mW ((xN n).drop k) x) x
 omega
end
section
open Go Go.Lg Go.Num
attribute [local irreducible] lrun lwp exThen exBlk keep goodPost sg mg bq xN mW
end
section
open Go Go.Lg Go.Num
attribute [local irreducible] lrun lwp exThen exBlk keep goodPost sg mg bq xN mW sR aNr
theorem bC2 (k f j:Nat):sR k f j=((f:Int):Rat)^(k-1)*mW (xN k) (Rat.divInt ((j+1:Nat):Int) (f:Int)):=by unfold sR;rfl
theorem aGk (k f:Nat) (hk1:1≤k) (hk:k≤40) (hf:1≤f) (hf2:f≤60):PureGood Tryz.prog 58 [i64 k,i64 f] (encF (smd k f f)):=by
 have p1:=aCh k (by omega)
 have of:=gW (f:Int) (by omega)
 have lf:lq ((f:Int):Rat)≤2:=bBx (by omega) (by omega)
 have pw:=aXh ((f:Int):Rat) (k-1) (by omega) (by omega)
 have lw:=bIu ((f:Int):Rat) (k-1)
 have lw2:(k-1)*lq ((f:Int):Rat)≤40*2:=Nat.mul_le_mul (by omega) lf
 have bf:=jP (f:Int) (by omega)
 have step:∀ j:Nat,j<f→PureGood Tryz.prog 123 [i64 ((j+1:Nat):Int)] (aO ((j+1:Nat):Int))∧PureGood Tryz.prog 137 [aO ((j+1:Nat):Int),aO (f:Int)] (.tup [bF (Rat.divInt ((j+1:Nat):Int) (f:Int)),i64 0])∧
   PureGood Tryz.prog 131 [encF (bp k (k+1)),bF (Rat.divInt ((j+1:Nat):Int) (f:Int))] (bF (mW (xN k) (Rat.divInt ((j+1:Nat):Int) (f:Int))))∧
   PureGood Tryz.prog 74 [bF (((f:Int):Rat)^(k-1)),bF (mW (xN k) (Rat.divInt ((j+1:Nat):Int) (f:Int)))] (bF (sR k f j)):=by
  intro j hj
  have la:len ((j+1:Nat):Int)≤1:=bG (e:=1) (by omega)
  have lf:len (f:Int)≤1:=bG (e:=1) (by omega)
  have ld:=eK (n:=((j+1:Nat):Int)) (d:=(f:Int)) (by omega)
  have ev:=aQ9 (n:=k) (by omega) (Rat.divInt ((j+1:Nat):Int) (f:Int)) (by unfold lq;omega)
  have mk:=aVw ((j+1:Nat):Int) f (by omega) (by omega) (by omega)
  rw[← dB]at mk
  refine⟨jP _ (by omega),mk,ev.1,?_⟩
  rw[bC2]
  exact gE _ _ (by omega) (by have:=ev.2;omega)
 clear lw lw2 lf
 have hk2:((k-1:Nat):Int)=(k:Int)-1:=by omega
 have hl:=nD k (k+1)
 rw[bD,hl]at p1
 rw[bD,rZ]
 simp only[bD,hl]at step
 generalize bp k (k+1)=L at*
 rw[hk2]at pw
 generalize ((f:Int):Rat)^(k-1)=P at*
 generalize ((f:Int):Rat)=FQ at*
 simp only[aW,aH,i64]at p1 pw of bf step⊢
 have b1:smd k f 1=[sR k f 0]:=rfl
 obtain⟨w1,w2,w3,w4⟩:=step 0 (by omega)
 rw[show((0+1:Nat):Int)=1 from rfl]at w1 w2 w3 w4
 generalize mW (xN k) (Rat.divInt (1:Int) (f:Int))=E0 at*
 generalize Rat.divInt (1:Int) (f:Int)=D0 at*
 generalize ht0:sR k f 0=T0 at*
 refine aA bC Tryz.func58 rfl (by decide) (nt:=44) rfl (rs:=[.tmp 4]) rfl (aZ rfl) ?_
 refine dM ?_
 refine kJ (s':= ?_) (fun Φ hΦ=> ?_) ?_
 rotate_left
 ·refine dM ?_
  exact hΦ
 refine aI (α:={n:Nat // 1≤n∧n≤f}) (fun n=>st 44 (lk [(0,i64 k),(1,i64 f),(5,.sl (k+1) (qc L)),(6,.ptr 1 0),(8,.own 0 0 n.1 4),(9,i64 ((n.1+1:Nat):Int))]) (cP [(0,⟨47,qc (smd k f n.1),false⟩),(1,⟨47,[sg (P).num,mg (P).num,sg ((P).den:Int),mg ((P).den:Int)],false⟩)]) 2) (fun n=>f-n.1) ⟨1,by omega,hf⟩ ?_ ?_
 ·(refine Sub.heapL [38,12] rfl (by decide) ?_ (by simp only[fB];decide) ?_ ?_;all_goals(first|(simp only[aB,aG,dg,renL,renLs,simprocAttr,bl,i64,smT];done) |(simp only[aG,dg,renL,renLs,simprocAttr,bl,i64,smT];(repeat' apply And.intro);all_goals rfl) |(simp only[aG,dg,renL,renLs,simprocAttr,bl,i64,smT]) |skip))
  rw[b1,← jB]
 ·rintro⟨n,hn1,hn⟩
  simp only[st]
  have hls:=rZ k f n
  by_cases hlt:n<f
  ·obtain⟨w1,w2,w3,w4⟩:=step n hlt
   have happ:=bCt k f n
   generalize hN:n+1=N at*
   generalize mW (xN k) (Rat.divInt (N:Int) (f:Int))=E at*
   generalize Rat.divInt (N:Int) (f:Int)=D at*
   generalize sR k f n=T at*
   refine dM ?_
   refine⟨⟨N,by omega,by omega⟩,?_,by simp only;omega⟩
   (refine Sub.heapL [23,1] rfl (by decide) ?_ (by simp only[fB];decide) ?_ ?_;all_goals(first|(simp only[aB,aG,dg,renL,renLs,simprocAttr,bl,i64,smT];done) |(simp only[aG,dg,renL,renLs,simprocAttr,bl,i64,smT];(repeat' apply And.intro);all_goals rfl) |(simp only[aG,dg,renL,renLs,simprocAttr,bl,i64,smT]) |skip))
   ·simp only[true_and,hN]
   ·rw[happ,← gY]
  ·obtain rfl:n=f:=by omega
   refine dM ?_
   exact mJ
end
end Go.Proofs.YtaidcaemdkncgaaGreatDoor
namespace Go.Num
def ixc (ix:Nat→Option Nat) (i a:Nat):Int:=if ix a=some i then 1 else 0
def pwC (ix:Nat→Option Nat) (k f j i:Nat):Rat:=aNr (ixc ix i) k f j
def tcC (ix:Nat→Option Nat) (j i:Nat):Bool:=(List.range j).any fun a=>decide (ix a=some i)
def plP (ix:Nat→Option Nat) (k f o j:Nat):List (Option Rat):=(List.range o).map fun i=>if tcC ix j i=true then some (pwC ix k f j i)else none
def vL (ix:Nat→Option Nat) (k f o j:Nat):List Rat:=(List.range o).map (pwC ix k f j)
theorem bIy (ix:Nat→Option Nat) (i a:Nat):ixc ix i a=1∨ixc ix i a=0∨ixc ix i a= -1:=by
 unfold ixc
 split
 ·exact .inl rfl
 ·exact .inr (.inl rfl)
theorem aKa (ix:Nat→Option Nat) (k f o j:Nat):(plP ix k f o j).length=o:=by simp[plP]
theorem iK (ix:Nat→Option Nat) (k f o j:Nat):(vL ix k f o j).length=o:=by simp[vL]
theorem zE (ix:Nat→Option Nat) (j i:Nat):tcC ix (j+1) i=(tcC ix j i ||decide (ix j=some i)):=by
 unfold tcC
 rw[List.range_succ,List.any_append]
 simp
theorem aT2 {ix:Nat→Option Nat}{k f j i:Nat}(h:ix j=some i):pwC ix k f (j+1) i=pwC ix k f j i+sR k f j:=by
 unfold pwC
 rw[aBc,ixc,if_pos h,Rat.intCast_one,Rat.one_mul]
theorem uK {ix:Nat→Option Nat}{k f j i:Nat}(h:ix j≠some i):pwC ix k f (j+1) i=pwC ix k f j i:=by
 unfold pwC
 rw[aBc,ixc,if_neg h,Rat.intCast_zero,Rat.zero_mul,Rat.add_zero]
theorem aFn {ix:Nat→Option Nat}{k f:Nat}:∀ {j i:Nat},tcC ix j i=false→pwC ix k f j i=0
 |0,_,_=>rfl
 |j+1,i,h=>by
  rw[zE,Bool.or_eq_false_iff,decide_eq_false_iff_not]at h
  rw[uK h.2,aFn h.1]
theorem bIz {ix:Nat→Option Nat}{k f o j i:Nat}(hi:i<o):(plP ix k f o j).getD i none=if tcC ix j i=true then some (pwC ix k f j i)else none:=by simp[plP,hi]
theorem aKb {ix:Nat→Option Nat}{k f o j i:Nat}(hi:i<o):(vL ix k f o j).getD i 0=pwC ix k f j i:=by simp[vL,hi]
theorem bC3 (ix:Nat→Option Nat) (k f o:Nat):plP ix k f o 0=List.replicate o none:=by
 unfold plP tcC
 simp[List.map_const']
theorem aNu (ix:Nat→Option Nat) (k f o:Nat):vL ix k f o 0=List.replicate o 0:=by
 unfold vL
 have:pwC ix k f 0=fun _=>0:=rfl
 rw[this,List.map_const',List.length_range]
theorem bI0 {ix:Nat→Option Nat}{k f o j i:Nat}(h:ix j=some i) (hi:i<o):(plP ix k f o j).set i (some (pwC ix k f j i+sR k f j))=plP ix k f o (j+1):=by
 unfold plP
 refine aWq ?_ (fun m hm hne=> ?_)
 ·rw[zE,decide_eq_true h,Bool.or_true,if_pos rfl,aT2 h]
 ·have hm':ix j≠some m:=fun e=>hne (by rw[h]at e;injection e with e;exact e.symm)
  rw[zE,decide_eq_false hm',Bool.or_false,uK hm']
theorem bC4 {ix:Nat→Option Nat}{k f o j:Nat}(h:ix j=none):plP ix k f o (j+1)=plP ix k f o j:=by
 unfold plP
 refine List.map_congr_left (fun i _=> ?_)
 have hm':ix j≠some i:=fun e=>by rw[h]at e;cases e
 rw[zE,decide_eq_false hm',Bool.or_false,uK hm']
theorem aNv {ix:Nat→Option Nat}{k f o j:Nat}(h:ix j=none):vL ix k f o (j+1)=vL ix k f o j:=by
 unfold vL
 refine List.map_congr_left (fun i _=> ?_)
 have hm':ix j≠some i:=fun e=>by rw[h]at e;cases e
 rw[uK hm']
theorem aT3 {ix:Nat→Option Nat}{k f j i:Nat}(hk:k≤40) (hf:1≤f) (hf2:f≤60) (hj:j≤f):lW (aBb k f) 260 (pwC ix k f j i):=by
 obtain⟨N,e,hN⟩:=aH5 (c:=ixc ix i) (fun a _=>bIy ix i a) hk hf hf2 j hj
 exact⟨N,e,by omega⟩
theorem bC5 {ix:Nat→Option Nat}{k f j i:Nat}(hk:k≤40) (hf:1≤f) (hf2:f≤60) (hj:j≤f):lq (pwC ix k f j i)≤320:=by
 have:=(aT3 (ix:=ix) (i:=i) hk hf hf2 hj).lq (vJ hf) (qN hk hf2)
 omega
theorem aT4 {ix:Nat→Option Nat}{k f o j:Nat}(hk:k≤40) (hf:1≤f) (hf2:f≤60) (hj:j≤f) (i:Nat):lW (aBb k f) 260 ((vL ix k f o j).getD i 0):=by
 by_cases hi:i<o
 ·rw[aKb hi];exact aT3 hk hf hf2 hj
 ·have:(vL ix k f o j).getD i 0=0:=by simp[List.getD,iK,Nat.le_of_not_lt hi]
  rw[this];exact zB _ _
theorem aXi {ix:Nat→Option Nat}{k f o j:Nat}(hk:k≤40) (hf:1≤f) (hf2:f≤60) (hj:j≤f):∀ q,some q∈plP ix k f o j→lq q≤100000:=by
 intro q hq
 unfold plP at hq
 rw[List.mem_map]at hq
 obtain⟨i,_,h⟩:=hq
 split at h
 ·injection h with h
  rw[← h]
  exact Nat.le_trans (bC5 hk hf hf2 hj) (by omega)
 ·cases h
theorem bC6 (ix:Nat→Option Nat) (k f o j:Nat):(plP ix k f o j).map (fun o=>o.getD 0)=vL ix k f o j:=by
 unfold plP vL
 rw[List.map_map]
 refine List.map_congr_left (fun i _=> ?_)
 simp only[Function.comp]
 cases ht:tcC ix j i with
 |true=>simp
 |false=>simp[aFn ht]
end Go.Num
namespace Go.Proofs.YtaidcaemdkncgaaGreatDoor
section
open Go Go.Lg Go.Num
attribute [local irreducible] lrun lwp exThen exBlk keep goodPost sg mg oc op ec plP vL pwC smd sR
structure ChD (n:Nat) (v:List Int) (o f:Nat) (w:List Int) (ix:Nat→Option Nat):Prop where
 o1:1≤o
 o2:o≤60
 f1:1≤f
 f2:f≤60
 ord:PureGood Tryz.prog 56 [.agg [i64 n,.sl v.length (ec v)]] (.tup [i64 o,i64 0])
 prim:PureGood Tryz.prog 57 [.agg [i64 n,.sl v.length (ec v)]] (.tup [.agg [i64 f,.sl w.length (ec w)],i64 0])
 no:∀ j,j<f→ix j=none→∃ a d:Int,PureGood Tryz.prog 44 [.agg [i64 f,.sl w.length (ec w)],i64 ((j:Int)+1)] (.tup [.agg [bl true,i64 a,i64 d],i64 0])
 yes:∀ j i,j<f→ix j=some i→i<o∧∃ a d:Nat,1≤d∧d≤60∧a≤60∧a*(o / d)=i∧PureGood Tryz.prog 44 [.agg [i64 f,.sl w.length (ec w)],i64 ((j:Int)+1)] (.tup [.agg [bl false,i64 a,i64 d],i64 0])
theorem aRa {n:Nat}{v:List Int}{o f:Nat}{w:List Int}{ix:Nat→Option Nat}(h:ChD n v o f w ix) (hlw:w.length≤10) (F:LV) (hF:PureGood Tryz.prog 48 [i64 o] (.tup [.agg [F],i64 0])) (hFp:∃ m cs,F= .sl m cs) {k:Nat}(k1:1≤k) (k2:k≤40)
  {R:List Rat}(hN:PureGood Tryz.prog 60 [.agg [F],.sl o (op (plP ix k f o f))] (.tup [encF R,i64 0])):PureGood Tryz.prog 17 [i64 k,.agg [i64 n,.sl v.length (ec v)]] (.tup [encF R,i64 o,i64 0]):=by
 obtain⟨o1,o2,f1,f2,go,gp,hno,hyes⟩:=h
 obtain⟨m,cs,rfl⟩:=hFp
 have gs:=aGk k f k1 k2 f1 f2
 rw[bD,rZ]at gs
 have hls:=rZ k f f
 have hpl:=fun j=>aKa ix k f o j
 have hz:=bC3 ix k f o
 rw[bD]at hN⊢
 simp only[i64]at go gp gs hF hN⊢
 refine aA bC Tryz.func17 rfl (by decide) (nt:=91) rfl (rs:=[.tmp 4,.tmp 5,.tmp 6]) rfl (aZ rfl) ?_
 refine zA7 ?_
 refine aI (α:={j:Nat // j≤f}) (fun j=>st 91 (lk [(3,.ptr 0 0),(7,i64 o),(9,.ptr 1 0),(10,.own 2 0 o 4),(49,.sl f (qc (smd k f f))),(50,i64 f),(51,i64 j.1)]) (cP [(0,⟨25,[i64 f,.sl w.length (ec w)],false⟩),(1,⟨101,[.sl m cs],false⟩),(2,⟨47,oc (plP ix k f o j.1),false⟩)]) 3) (fun j=>f-j.1) ⟨0,by omega⟩ ?_ ?_
 ·simp only[hz]
  (refine Sub.heapL [0,24,36] rfl (by decide) ?_ (by simp only[fB];decide) ?_ ?_;all_goals(first|(simp only[aB,aG,dg,renL,renLs,simprocAttr,bl,i64,smT,smO,smE];done) |(simp only[aG,dg,renL,renLs,simprocAttr,bl,i64,smT,smO,smE];(repeat' apply And.intro);all_goals rfl) |(simp only[aG,dg,renL,renLs,simprocAttr,bl,i64,smT,smO,smE]) |skip))
  all_goals(first |done |((repeat' apply And.intro);all_goals(first |trivial |rfl |(rw[← qJ]))) |trace_state)
 ·rintro⟨j,hj⟩
  simp only[st]
  have hpj:=hpl j
  by_cases hlt:j<f
  ·have e1:(smd k f f).getD j 0=sR k f j:=bCu hlt
   have lt:=bCs (k:=k) (f:=f) (j:=j) k2 f1 f2 hlt
   cases hix:ix j with
   |none=>
    obtain⟨a,d,gv⟩:=hno j hlt hix
    have es:=bC4 (k:=k) (f:=f) (o:=o) hix
    generalize sR k f j=T at*
    simp only[i64,bl]at gv
    refine pK e1 ?_
    refine⟨⟨j+1,by omega⟩,?_,by simp only;omega⟩
    simp only
    rw[es]
    exact zL2 [0,1,2]
   |some i=>
    obtain⟨hio,a,d,d1,d2,a2,hi,gv⟩:=hyes j i hlt hix
    have es:=bI0 (k:=k) (f:=f) hix hio
    have eg:=bIz (ix:=ix) (k:=k) (f:=f) (j:=j) hio
    have lp:=bC5 (ix:=ix) (i:=i) (j:=j) k2 f1 f2 (by omega)
    have q1:((o:Int)).tdiv (d:Int)=((o / d:Nat):Int):=by rw[Int.tdiv_eq_ediv_of_nonneg (by omega)];rfl
    have q2:(a:Int)*((o / d:Nat):Int)=(i:Int):=by rw[← hi];simp
    have b1:o / d≤o:=Nat.div_le_self _ _
    have hset:=kT (l:=plP ix k f o j) (j:=i) (by omega) (pwC ix k f j i+sR k f j)
    rw[es]at hset
    have hd0:¬(d:Int)=0:=by omega
    cases ht:tcC ix j i with
    |true=>
     rw[ht,if_pos rfl]at eg
     have ga:=kN (pwC ix k f j i) (sR k f j) (by omega) (by omega)
     generalize pwC ix k f j i+sR k f j=S at*
     generalize pwC ix k f j i=P at*
     generalize sR k f j=T at*
     generalize hyd:o / d=y at*
     simp only[aH,i64,bl]at ga gv
     refine pK (nd e1 (nd q1 (nd q2 (nd eg (nd hset hyd))))) ?_
     refine⟨⟨j+1,by omega⟩,?_,by simp only;omega⟩
     exact zL2 [0,1,2]
    |false=>
     rw[ht,if_neg (by simp)]at eg
     have ga:=aHr (sR k f j) (by omega)
     rw[z4p]at ga
     rw[aFn ht,Rat.zero_add]at hset
     generalize sR k f j=T at*
     generalize hyd:o / d=y at*
     simp only[aH,i64,bl]at ga gv
     refine pK (nd e1 (nd q1 (nd q2 (nd eg (nd hset hyd))))) ?_
     refine⟨⟨j+1,by omega⟩,?_,by simp only;omega⟩
     exact zL2 [0,1,2]
  ·obtain rfl:j=f:=by omega
   (repeat(first|apply zO (by decide+kernel)|apply zP (by decide+kernel)|(apply zS;(case h=>constructor<;>decide))|((first|apply cD rfl|apply aR|apply zT rfl (by decide) rfl);(case hs=>(simp(disch:=first|omega|exact kD rfl|exact kX rfl) only[smY,simprocAttr,bl,i64,smT,smO,smE,lD,@iA];exact rfl));first|refine cB ?_|refine cC ?_|refine zq ?_|(case hg=>assumption))))
   ((first|apply dG|apply dI);case hres=>(simp only[iC];simp(disch:=first|omega|exact kD rfl|exact kX rfl) only[smY,simprocAttr,bl,i64,smT,smO,smE,lD,@iA];exact rfl))
   simp(disch:=first|omega|exact kD rfl|exact kX rfl) only[smY,simprocAttr,bl,i64,smT,smO,smE,lD,@iA]
end
section
open Go Go.Lg Go.Num
attribute [local irreducible] lrun lwp exThen exBlk keep goodPost sg mg oc op plP vL pwC smd sR ec
theorem bC7 (q:Rat) (m:Nat):List.replicate m q++[q]=List.replicate (m+1) q:=by rw[List.replicate_succ']
theorem aIn (q:Rat):[q]=List.replicate 1 q:=rfl
theorem aH7 (n:Nat) (h1:1≤n) (hn:n≤100000):jQ Tryz.prog 66 [i64 n] n 4 47 (qc (List.replicate n 0)):=by
 have h0:=fD 0 (by omega)
 rw[show((0:Int):Rat)=0 from rfl]at h0
 simp only[aH,i64]at*
 refine rC bC Tryz.func66 rfl (by decide) (nt:=15) rfl (rs:=[.tmp 2]) rfl (aZ rfl) (kR s9 s10 _) ?_
 refine zU ?_
 refine aI (α:={m:Nat // m≤n}) (fun m=>st 15 (lk [(0,i64 n),(3,nV 0 m.1),(4,i64 m.1)]) (cP (nB 0 m.1 (qc (List.replicate m.1 0)))) 1) (fun m=>n-m.1) ⟨0,by omega⟩ ?_ ?_
 ·simp only[mU,mV,i64]
  (refine Sub.plain ?_;simp only[aG,dg,renL,renLs,simprocAttr,bl,i64,smT,smO])
  all_goals(first |done |simp)
 ·rintro⟨m,hm⟩
  simp only[st]
  by_cases hlt:m<n
  ·have htl:(List.replicate m (0:Rat)).length=m:=by simp
   have hsn:=bC7 0 m
   by_cases h0:m=0
   ·simp only[oA h0,oB h0]
    refine zU ?_
    refine⟨⟨m+1,by omega⟩,?_,by simp only;omega⟩
    subst h0
    simp only[dR,dS,i64]
    (refine Sub.heapL [7] rfl (by decide) ?_ (by simp only[fB];decide) ?_ ?_;all_goals(first|(simp only[aB,aG,dg,renL,renLs,simprocAttr,bl,i64,smT,smO];done) |(simp only[aG,dg,renL,renLs,simprocAttr,bl,i64,smT,smO];(repeat' apply And.intro);all_goals rfl) |(simp only[aG,dg,renL,renLs,simprocAttr,bl,i64,smT,smO]) |skip))
    all_goals(first |done |rfl |(rw[← jB]) |(rw[← aIn,← jB]))
   ·generalize hL:List.replicate m (0:Rat)=L at*
    simp only[lQ h0,lR h0]
    refine zU ?_
    refine⟨⟨m+1,by omega⟩,?_,by simp only;omega⟩
    simp only[dR,dS,i64]
    (refine Sub.heapL [7] rfl (by decide) ?_ (by simp only[fB];decide) ?_ ?_;all_goals(first|(simp only[aB,aG,dg,renL,renLs,simprocAttr,bl,i64,smT,smO];done) |(simp only[aG,dg,renL,renLs,simprocAttr,bl,i64,smT,smO];(repeat' apply And.intro);all_goals rfl) |(simp only[aG,dg,renL,renLs,simprocAttr,bl,i64,smT,smO]) |skip))
    all_goals(first |done |(rw[gY,hsn]) |(rw[← hsn,← gY]))
  ·obtain rfl:m=n:=by omega
   have h0:¬m=0:=by omega
   simp only[lQ h0,lR h0]
   refine zU ?_
   (apply aR9;(case hres=>(simp only[iC];simp(disch:=first|omega|exact kD rfl|exact kX rfl) only[smY,simprocAttr,bl,i64,smT,smO];exact rfl));(case h0=>(simp only[aG,dg,renL,renLs,simprocAttr,bl,i64,smT,smO];exact rfl));(case hf=>rfl))
   all_goals rfl
end
section
open Go Go.Lg Go.Num
attribute [local irreducible] lrun lwp exThen exBlk keep goodPost sg mg oc op plP vL pwC smd sR ec dF rz
structure RChD (n:Nat) (v:List Int) (o f:Nat) (w:List Int) (ix:Nat→Option Nat):Prop where
 chk:PureGood Tryz.prog 61 [.agg [i64 n,.sl v.length (ec v)]] (i64 0)
 ord:PureGood Tryz.prog 62 [.agg [i64 n,.sl v.length (ec v)]] (i64 o)
 cond:PureGood Tryz.prog 64 [.agg [i64 n,.sl v.length (ec v)]] (i64 f)
 wth:PureGood Tryz.prog 65 [i64 f,.agg [i64 n,.sl v.length (ec v)]] (.agg [i64 f,.sl w.length (ec w)])
 no:∀ j,j<f→ix j=none→∃ a d:Int,PureGood Tryz.prog 68 [.agg [i64 f,.sl w.length (ec w)],i64 ((j:Int)+1)] (.agg [bl true,i64 a,i64 d])
 yes:∀ j i,j<f→ix j=some i→i<o∧∃ a d:Nat,1≤d∧d≤60∧a≤60∧a*(o / d)=i∧PureGood Tryz.prog 68 [.agg [i64 f,.sl w.length (ec w)],i64 ((j:Int)+1)] (.agg [bl false,i64 a,i64 d])
theorem bC8 (g t:List Rat):(oQ g t).length≤t.length:=by
 unfold oQ
 exact Nat.le_trans (uI _) (by rw[jW];exact Nat.le_refl _)
theorem aNw {D:Int}{g t:List Rat}{L:Nat}(hg:∀ b∈g,aFg b) (ht:∀ j,lW D L (t.getD j 0)) (j:Nat):lW D (L+(t.length+1-g.length)) ((oQ g t).getD j 0):=by
 unfold oQ
 rw[jC]
 exact aFh hg _ L t ht j
end
section
open Go Go.Lg Go.Num
def ixB (o f:Nat) (w:List Nat) (j:Nat):Option Nat:=match aFc [chV f w,.lit (.int .i64 (.ofNat (Nat.succ j)))]with
 |some (.tup [.agg [.lit (.bool z),.lit (.int .i64 (.ofNat a)),.lit (.int .i64 (.ofNat d))],.lit (.int .i64 (.ofNat _))])=>bif z then none else some (a*(o / d))
 |_=>none
def vlB (o f:Nat) (w:List Nat) (j:Nat):Bool:=match aFc [chV f w,.lit (.int .i64 (.ofNat (Nat.succ j)))]with
 |some (.tup [.agg [.lit (.bool z),.lit (.int .i64 (.ofNat a)),.lit (.int .i64 (.ofNat d))],.lit (.int .i64 (.ofNat e))])=>Nat.beq e 0 && (match aH2 [chV f w,.lit (.int .i64 (.ofNat (Nat.succ j)))]with
  |some (.agg [.lit (.bool z'),.lit (.int .i64 (.ofNat a')),.lit (.int .i64 (.ofNat d'))])=>(bif z then z' else(!z' && Nat.beq a a' && Nat.beq d d' && Nat.ble 1 d && Nat.ble d 60 && Nat.ble a 60 && Nat.blt (a*(o / d)) o))
  |_=>false)
 |_=>false
def isI (x:Option LV) (f:Nat):Bool:=match x with
 |some (.lit (.int .i64 (.ofNat k)))=>Nat.beq k f
 |_=>false
def bVy (x:Option LV) (f:Nat) (w:List Nat):Bool:=match x with
 |some (.agg [.lit (.int .i64 (.ofNat k)),.sl m cs])=>Nat.beq k f && isN w.length w (.sl m cs)
 |_=>false
theorem bVz {x:Option LV}{f:Nat}(h:isI x f=true):x=some (.lit (.int .i64 (f:Int))):=by
 unfold isI at h
 split at h
 ·rename_i k
  have e1:=Nat.eq_of_beq_eq_true h
  subst e1
  rfl
 ·cases h
theorem bI1 {x:Option LV}{f:Nat}{w:List Nat}(h:bVy x f w=true):x=some (.agg [.lit (.int .i64 (f:Int)),.sl (nI w).length (ec (nI w))]):=by
 unfold bVy at h
 split at h
 ·rename_i k m cs
  rw[Bool.and_eq_true]at h
  have e1:=Nat.eq_of_beq_eq_true h.1
  subst e1
  have:=aJt h.2
  rw[this,nZ,dW]
  rfl
 ·cases h
theorem bOf {o f j:Nat}{w:List Nat}(h:vlB o f w j=true):
  (ixB o f w j=none→(∃ a d:Int,PureGood Tryz.prog 44 [.agg [i64 f,.sl (nI w).length (ec (nI w))],i64 ((j:Int)+1)] (.tup [.agg [bl true,i64 a,i64 d],i64 0]))∧∃ a d:Int,PureGood Tryz.prog 68 [.agg [i64 f,.sl (nI w).length (ec (nI w))],i64 ((j:Int)+1)] (.agg [bl true,i64 a,i64 d]))∧
  (∀ i,ixB o f w j=some i→i<o∧∃ a d:Nat,1≤d∧d≤60∧a≤60∧a*(o / d)=i∧PureGood Tryz.prog 44 [.agg [i64 f,.sl (nI w).length (ec (nI w))],i64 ((j:Int)+1)] (.tup [.agg [bl false,i64 a,i64 d],i64 0])∧PureGood Tryz.prog 68 [.agg [i64 f,.sl (nI w).length (ec (nI w))],i64 ((j:Int)+1)] (.agg [bl false,i64 a,i64 d])):=by
 have e1:((j:Int)+1)=Int.ofNat (Nat.succ j):=rfl
 rw[e1,← aA1]
 unfold vlB at h
 split at h
 ·rename_i z a d e he
  rw[Bool.and_eq_true]at h
  have e2:=Nat.eq_of_beq_eq_true h.1
  subst e2
  have g1:=aFd he
  have h:=h.2
  have hix:ixB o f w j=bif z then none else some (a*(o / d)):=by unfold ixB;rw[he]
  split at h
  ·rename_i z' a' d' he'
   have g2:=yZ he'
   cases z with
   |true=>
    rw[cond_true]at h hix
    subst h
    rw[hix]
    exact⟨fun _=>⟨⟨_,_,g1⟩,⟨_,_,g2⟩⟩,fun i hi=>nomatch hi⟩
   |false=>
    rw[cond_false]at h hix
    simp only[Bool.and_eq_true,Nat.ble_eq,Nat.beq_eq,Bool.not_eq_true']at h
    obtain⟨⟨⟨⟨⟨⟨rfl,rfl⟩,rfl⟩,h4⟩,h5⟩,h6⟩,h7⟩:=h
    rw[hix]
    refine⟨fun e=>(nomatch e),fun i hi=> ?_⟩
    injection hi with hi
    subst hi
    exact⟨Nat.le_of_ble_eq_true h7,a,d,h4,h5,h6,rfl,g1,g2⟩
  ·cases h
 ·cases h
end
section
open Go Go.Lg Go.Num
def oL:List Nat:=[1,2,3,4,5,6,7,8,9,10,11,12,13,14,15,16,18,20,21,22,23,26,28,29,30,36,40,42,46,52,58]
end
section
open Go Go.Lg Go.Num
attribute [local irreducible] lrun lwp exThen exBlk keep goodPost sg mg ec
theorem aRb (a b:Nat) (ha:a≤1000000000000) (hb:b≤1000000000000):PureGood Tryz.prog 198 [i64 a,i64 b] (i64 (Nat.gcd a b)):=by
 generalize hgg:Nat.gcd a b=g
 refine aA bC Tryz.func198 rfl (by decide) (nt:=31) rfl (rs:=[.tmp 4]) rfl (aZ rfl) ?_
 refine bPm ?_
 refine aI (α:={p:Nat×Nat // Nat.gcd p.1 p.2=g∧p.1≤1000000000000∧p.2≤1000000000000}) (fun p=>st 31 (lk [(5,u64 p.1.1),(6,u64 p.1.2)]) (cP []) 0) (fun p=>p.1.2) ⟨(a,b),hgg,ha,hb⟩ ?_ ?_
 ·(refine Sub.plain ?_;simp only[aG,dg,renL,renLs,simprocAttr,bl,i64,u64,smS])
 ·rintro⟨⟨x,y⟩,hg,hx,hy⟩
  simp only at hg hx hy
  simp only[st]
  by_cases hy0:y=0
  ·subst hy0
   rw[Nat.gcd_zero_right]at hg
   subst hg
   refine bPm ?_
   ((first|apply dG|apply dI);case hres=>(simp only[iC];simp(disch:=first|omega|exact kD rfl|exact kX rfl) only[smY,simprocAttr,bl,i64,u64,smS];exact rfl))
   simp(disch:=first|omega|exact kD rfl|exact kX rfl) only[smY,simprocAttr,bl,i64,u64,smS]
  ·have hmod:x % y<y:=Nat.mod_lt _ (by omega)
   have hy1:¬(y:Int)=0:=by omega
   refine bPm ?_
   refine⟨⟨(y,x % y),?_,hy,by simp only;omega⟩,?_,hmod⟩
   ·simp only
    rw[← hg,Nat.gcd_comm x y,Nat.gcd_rec y x,Nat.gcd_comm]
   ·(refine Sub.plain ?_;simp only[aG,dg,renL,renLs,simprocAttr,bl,i64,u64,smS])
end
end Go.Proofs.YtaidcaemdkncgaaGreatDoor
