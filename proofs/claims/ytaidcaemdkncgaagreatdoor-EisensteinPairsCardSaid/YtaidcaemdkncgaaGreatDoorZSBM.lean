/- Contracts of functions of the program, and what proves them (texts: EZr2 EZ EL EC6 EQ0 A0 EQs ECt DMw ClsGd ClsS). -/
import Derived.KernelRfl
import Derived.Test.YtaidcaemdkncgaaGreatDoorRows
import Derived.WalkKit
import Derived.ProofKit
import Derived.OpenShut
import Derived.Stop.Joined
import Derived.Test.YtaidcaemdkncgaaGreatDoorZSAO
import Derived.Test.YtaidcaemdkncgaaGreatDoorZSAP
import Derived.Test.YtaidcaemdkncgaaGreatDoorZSAQ
import Derived.Test.YtaidcaemdkncgaaGreatDoorZSAS
import Derived.Test.YtaidcaemdkncgaaGreatDoorZSAU
import Derived.Test.YtaidcaemdkncgaaGreatDoorZSBH
import Derived.Test.YtaidcaemdkncgaaGreatDoorZSBI
import Derived.Test.YtaidcaemdkncgaaGreatDoorZSBJ
import Derived.Test.YtaidcaemdkncgaaGreatDoorZSBK
import Derived.Test.YtaidcaemdkncgaaGreatDoorZSBL
set_option linter.all false
set_option maxRecDepth 100000
set_option maxHeartbeats 8000000
namespace Go.Proofs.YtaidcaemdkncgaaGreatDoor
section
open Go Go.Lg Go.Num
theorem cHs:fD 24=true:=by kernel_rfl
theorem cHt:fD 26=true:=by kernel_rfl
theorem cHu:fD 28=true:=by kernel_rfl
theorem cHv:fD 30=true:=by kernel_rfl
theorem cHw:fD 36=true:=by kernel_rfl
theorem cHx:fD 42=true:=by kernel_rfl
end
section
open Go Go.Lg Go.Num
theorem bW3:pF.all bG4=true:=by kernel_rfl
theorem bW4:∀ m∈pF,fD m=true:=by
 have e:pF=[1,2,3,4,5,6,7,8,9,10,11,12,13,14,15,16,18,20,21,22,24,26,28,30,36,42]:=rfl;rw[e];simp only[List.forall_mem_cons];exact⟨cLv,cLw,cLx,cLy,cLz,cL0,cL1,cL2,cL3,cHh,cHi,cHj,cHk,cHl,cHm,cHn,cHo,cHp,cHq,cHr,cHs,cHt,cHu,cHv,cHw,cHx,by simp⟩
theorem aEi {m:Nat}(hm:m∈pF):ZtD m ((dJ m).length-1):=by
 obtain⟨m1,m2⟩:=bF8 hm;have hc:=bMm m hm;rw[Bool.and_eq_true,Nat.ble_eq,Nat.ble_eq]at hc
 have hz:=fun e (he:e<m)=>cHc hm (List.all_eq_true.1 (List.all_eq_true.1 bWy m hm) e (List.mem_range.2 he))
 exact⟨m1,m2,by omega,by omega,fun e he=>aQi hm he (cHf (bW4 m hm)) (cHg (List.all_eq_true.1 bW3 m hm)),fun e he=>aT2 hm he,fun e he=>(hz e he).1,fun e he=>(hz e he).2⟩
end
section
open Go Go.Lg Go.Num
end
section
open Go Go.Lg Go.Num
def unL (o i:Nat):List Rat:=(List.replicate o 0).set i 1
theorem qG (o i:Nat):(unL o i).length=o:=by simp[unL]
theorem aXa {o i j:Nat}(hj:j<o):(unL o i).getD j 0=if j=i then 1 else 0:=by
 unfold unL;by_cases e:i=j
 ·subst e;rw[if_pos rfl];simp[List.getD,hj]
 ·rw[if_neg (fun x=>e x.symm)];simp[List.getD,List.getElem?_set,e,List.getElem?_replicate,hj]
theorem aQj {ix:Nat→Option Nat}{k f o A i:Nat}(h:ix A=some i):uA ix k f o (A+1)=qO (uA ix k f o A) (vJ (tS k f A) (unL o i)):=by
 have hl:(uA ix k f o A).length=(vJ (tS k f A) (unL o i)).length:=by rw[gY,vL,qG]
 refine aAr (by rw[aAq hl,gY,gY]) (fun j hj=> ?_);rw[gY]at hj
 rw[fC hl,aL0 hj,aL0 hj,oV,aXa hj];by_cases e:j=i
 ·subst e;rw[if_pos rfl,Rat.mul_one,aWg h]
 ·rw[if_neg e,Rat.mul_zero,Rat.add_zero,vI (fun x=>e (by rw[h]at x;injection x with x;exact x.symm))]
theorem aIe (a:List Rat) (d j:Nat):(a++List.replicate d 0).getD j 0=a.getD j 0:=by
 rcases Nat.lt_or_ge j a.length with h |h
 ·simp[List.getD,List.getElem?_append_left h]
 ·simp[List.getD,List.getElem?_append_right h,List.getElem?_replicate,List.getElem?_eq_none h];split <;>rfl
theorem bG5 {o i:Nat}(hi:i<o):bQ (unL o i)=bQ (ov (unO i)):=by
 have:unL o i=ov (unO i)++List.replicate (o-1-i) 0:=by
  have hl:(ov (unO i)).length=i+1:=by rw[aCa,lP]
  refine aAr (by rw[List.length_append,hl,List.length_replicate,qG];omega) (fun j hj=> ?_);rw[qG]at hj
  rw[aXa hj,aIe,aL5,mK,aL7];split <;>rfl
 rw[this,wT]
theorem aQk {m i j:Nat}(hm:m∈pF) (hi:i<m):(eX (rz (dJ m)) (m+1-(dJ m).length) (unL m i)).getD j 0=(((zI m i).getD j 0:Int):Rat):=by
 obtain⟨c1,c2,c3,c4⟩:=tT hm;have h:=wU (g:=rz (dJ m)) (by rw[bX];omega) (unL m i);rw[bG5 hi,aTk hm,qG,bX]at h
 rw[← iN,← h,mK]
theorem aJ6 {ix:Nat→Option Nat}{k f m n:Nat}(hm:m∈pF) (hix:∀ A j,A<f→ix A=some j→j<m) {j:Nat}(hj:j<n):∀ A,A≤f→(eX (rz (dJ m)) (m+1-(dJ m).length) (uA ix k f m A)).getD j 0*Rat.divInt (-1) (2*(k:Int))=(uB ix k f m m n A).getD j 0
 |0,_=>by
  have e:List.replicate m (0:Rat)=vJ 0 (List.replicate m 0):=by simp[vJ]
  rw[aPj,e,vM,oV,Rat.zero_mul,Rat.zero_mul]
  simp[uB,List.getD,hj]
 |A+1,hA=>by
  have ih:=aJ6 (k:=k) (f:=f) hm hix hj A (by omega);obtain⟨m1,m2⟩:=bF8 hm;unfold uB
  cases hi:ix A with
  |none=>
   rw[aPk hi]
   exact ih
  |some i=>
   have hil:=hix A i (by omega) hi;simp only;rw[aQj hi,aG2 _ _ _ _ (by rw[gY,vL,qG]),vM,fC (by rw[kE,gY,vL,kE,qG]),oV,aQk hm hil,Rat.add_mul,ih,fC (by rw[nE,iO]),oW hj,Nat.div_self (by omega),Nat.mul_one];unfold trN;congr 1
   grind
theorem aQl {ix:Nat→Option Nat}{k f m n:Nat}(hm:m∈pF) (hix:∀ A j,A<f→ix A=some j→j<m) {j:Nat}(hj:j<n):(nD (rz (dJ m)) (bQ (uA ix k f m f))).getD j 0*Rat.divInt (-1) (2*(k:Int))=(uB ix k f m m n f).getD j 0:=by
 obtain⟨c1,c2,c3,c4⟩:=tT hm;rw[wU (by rw[bX];omega),iN,gY,bX];exact aJ6 hm hix hj f (Nat.le_refl _)
theorem aQm {k:Nat}(k1:1≤k) (q:Rat):q*Rat.divInt (-1) (2*(k:Int))=q / (((-2*(k:Int):Int)):Rat):=by
 have e:Rat.divInt (-1) (2*(k:Int))=Rat.divInt 1 (-2*(k:Int)):=by
  have h:=Rat.neg_divInt_neg 1 (-2*(k:Int));rw[← h,Int.neg_mul,Int.neg_neg]
 rw[e,Rat.div_def,Rat.divInt_eq_div,Rat.intCast_one,Rat.div_def,Rat.one_mul]
end
section
open Go Go.Lg Go.Num
def sS (a:Nat→Rat) (N:Nat):LV×LV:=(i64 (0+(Go.Num.ordN a N:Int)),.sl (N-Go.Num.ordN a N) (qc (aP (fun i=>a (Go.Num.ordN a N+i)) (N-Go.Num.ordN a N))))
theorem tU (a:Nat→Rat) (N:Nat):fJ 0 a N= .agg [(sS a N).1,(sS a N).2]:=by unfold fJ;rfl
theorem kN (a:Nat→Rat) (N:Nat):fK (sS a N).1=true∧fK (sS a N).2=true∧∃ z nn cs,(sS a N).1=i64 z∧(sS a N).2= .sl nn cs:=⟨rfl,rfl,_,_,_,rfl,rfl⟩
def yU (ix1 ix2:Nat→Option Nat) (k m o1 o2 n n1 n2 l j:Nat):Rat:=if l=0 then(if n1=1 then(uB ix2 k n2 m o2 n n2).getD j 0 else 0)else(wV (rR ix1 ix2 m o1 o2 l) k m n l).getD j 0
section
variable {n1 o1 c1 n2 o2 c2:Nat}{v1 v2:List Int}{b1 b2:Bool}{ix1 ix2:Nat→Option Nat}{m n k:Nat}
theorem aXb (h2:SeD n2 v2 o2 c2 b2 ix2) (hZ:ZtD m n) (hm2:m % o2=0) (k1:2≤k) (k2:k≤40) {l j:Nat}(hl:l≤20) (hj:j<n):lq (yU ix1 ix2 k m o1 o2 n n1 n2 l j)≤410:=by
 obtain⟨m1,m2,_,_,_,_,_,hzs⟩:=hZ;have f1:=h2.n1;have f2:=h2.n2;unfold yU;split
 ·split
  ·have:=aAt (aMd (ix:=ix2) (o:=o2) (by omega) k2 f1 f2 hzs (fun A i hA hi=>(fV h2 (show A<60 by omega) hi hm2 m1 (by omega)).2.2) n2 (Nat.le_refl _) j hj) (aMc (by omega) f1) (aEc k2 f2);omega
  ·decide+kernel
 ·have:=aTn (te:=rR ix1 ix2 m o1 o2 l) (k:=k) (n:=n) k2 hzs (fun D e h=>aG5 m1 h) (D:=l) (by omega) hj;omega
theorem bMp {P T:Nat}{both:Bool}(h1:SeD n1 v1 o1 c1 b1 ix1) (h2:SeD n2 v2 o2 c2 b2 ix2) (hZ:ZtD m n) (hm1:m % o1=0) (hm2:m % o2=0) (k1:2≤k) (k2:k≤40) (hP:P≤16) (T1:1≤T) (T2:T≤1000) (hpar:(b1==b2)=decide (k % 2=0))
  (hb:both=(decide (k=2) && decide (n1=1) && decide (n2=1))) (hk:¬(both=true∧T=1)) (hc1:c1=n1) (hc2:c2=n2)
  (gord:PGd 92 [.agg [i64 n1,.sl v1.length (ec v1)],.agg [i64 n2,.sl v2.length (ec v2)]] (i64 m)) (gphi:PGd 94 [i64 m] (i64 n))
  (w:Nat→Nat→Rat) (hw:∀ j,w j=if both then dfT (fun l=>yU ix1 ix2 k m o1 o2 n n1 n2 l j) T else pG (fun l=>yU ix1 ix2 k m o1 o2 n n1 n2 l j) T)
  (hsm:both=true→∀ j,j<n→∀ l,l<P→lq (yU ix1 ix2 k m o1 o2 n n1 n2 l j)≤100):
  PGd 27 [i64 k,.agg [i64 n1,.sl v1.length (ec v1),i64 n2,.sl v2.length (ec v2),i64 T],i64 P] (.tup [.sl n (sC (fun j=>sS (w j) P) n),i64 0]):=by
 have hZ':=hZ;obtain⟨m1,m2,nn1,nn2,_⟩:=hZ';have gf:=aTz (T:=T) h1 h2;rw[if_neg (by omega)]at gf
 have htr:∀ tr,tr=(decide ((n1:Int)=1) && decide ((n2:Int)=1))→both=(decide (k=2) && tr):=fun tr h=>by
  rw[hb,h,Bool.and_assoc];congr 2
  ·exact decide_eq_decide.2 (by omega)
  ·exact decide_eq_decide.2 (by omega)
 obtain⟨tr,ht⟩:∃ tr,tr=(decide ((n1:Int)=1) && decide ((n2:Int)=1)):=⟨_,rfl⟩;have hbt:=htr tr ht;refine aMk (y1:= .sl 0 []) (y2:= .sl 0 []) (tr:=tr) (R:=fun j=>sS (fun l=>yU ix1 ix2 k m o1 o2 n n1 n2 l j) P) (S:=fun j=>sS (w j) P) (cf:=fun l j=>yU ix1 ix2 k m o1 o2 n n1 n2 l j) ⟨_,_,rfl⟩ ⟨_,_,rfl⟩ k1 k2 nn1 nn2 (by omega) m1 (by omega) T1 T2 ht hpar ?_ gf gord (aC9 h1 m1 (by omega)) (aC9 h2 m1 (by omega)) gphi ?_ ?_ (fun j=>kN _ _) (fun j=>kN _ _) ?_ ?_
 ·rintro⟨e1,e2,e3⟩;exact hk ⟨by rw[hbt,e2,decide_eq_true e1];rfl,e3⟩
 ·by_cases e:n1=1
  ·subst e;exact⟨_,nE ix2 k n2 m o2 n n2,fun j hj=>by unfold yU;rw[if_pos rfl,if_pos rfl],aP8 h2 hZ hm2 k1 k2 T⟩
  ·exact⟨List.replicate n 0,by simp,fun j hj=>by unfold yU;rw[if_pos rfl,if_neg e];simp[List.getD,hj],aMe e nn1 nn2 T⟩
 ·intro l l1 l2;exact⟨_,tB _ k m n l,fun j hj=>by unfold yU;rw[if_neg (by omega)],aMa h1 h2 hZ hm1 hm2 k1 k2 l1 (by omega) T⟩
 ·intro j hj;have g:=mA 0 (fun l=>yU ix1 ix2 k m o1 o2 n n1 n2 l j) P (by omega) (by omega) (fun i hi=>Nat.le_trans (aXb h2 hZ hm2 k1 k2 (by omega) hj) (by omega));rw[tU]at g
  exact g
 ·intro j hj;have hbd:∀ i,i<P→lq (yU ix1 ix2 k m o1 o2 n n1 n2 i j)≤410:=fun i hi=>aXb h2 hZ hm2 k1 k2 (by omega) hj
  cases hbc:both with
  |true=>
   have hk2:k=2∧tr=true:=by
     rw[hbc]at hbt
     have:=hbt.symm;rw[Bool.and_eq_true,decide_eq_true_eq]at this
     exact this
   have g:=aIb (fun l=>yU ix1 ix2 k m o1 o2 n n1 n2 l j) P T (by omega) T1 T2 (hsm hbc j hj);have hwj:=hw j;rw[hbc,if_pos rfl]at hwj
   rw[← hwj,tU,tU]at g
   rw[hk2.2];have e2:((k:Nat):Int)=2:=by omega
   rw[e2]
   exact g
  |false=>
   have g:=aG7 (fun l=>yU ix1 ix2 k m o1 o2 n n1 n2 l j) k P T tr (by omega) T1 T2 hbd k2 (fun h=>by
     rw[hbc]at hbt
     rw[h.2,decide_eq_true h.1]at hbt
     cases hbt)
   have hwj:=hw j;rw[hbc,if_neg (by simp)]at hwj
   rw[← hwj,tU,tU]at g
   exact g
theorem bG6 {f0:Nat→Rat}{R:List Rat}{x:Rat}{j:Nat}(hf:∀ j,f0 j=R.getD j 0*x):(o0I f0 R.length j).getD 0=R.getD j 0*x:=by
 unfold o0I;split
 ·exact hf j
 ·rename_i h;have:R.getD j 0=0:=by simp[List.getD,Nat.le_of_not_lt h]
  rw[this,Rat.zero_mul];rfl
theorem aMs {o0:Nat→Option Rat}{te:Nat→Nat→Option Nat}{z:Nat→List Int}{p:Nat→Int}{P j l:Nat}(hl:l<P):cE o0 te z p (max P 1) 0 0 j l=if l=0 then o0 j else ocD (te l) z p j l:=by
 unfold cE;split
 ·rfl
 ·rw[if_pos (by omega)]
theorem aXc {ix:Nat→Option Nat}{f:Nat}(hm:m∈pF) (hzl:∀ e,e<m→(zI m e).length≤n) (hix:∀ A j,A<f→ix A=some j→j<m):(nD (rz (dJ m)) (bQ (uA ix k f m f))).length≤n:=by
 obtain⟨c1,c2,c3,c4⟩:=tT hm;obtain⟨m1,m2⟩:=bF8 hm
 have hz:∀ A,A≤f→∀ j,n≤j→(eX (rz (dJ m)) (m+1-(dJ m).length) (uA ix k f m A)).getD j 0=0:=by
  intro A
  induction A with
  |zero=>
   intro _ j _;have e:List.replicate m (0:Rat)=vJ 0 (List.replicate m 0):=by simp[vJ]
   rw[aPj,e,vM,oV,Rat.zero_mul]
  |succ A ih=>
   intro hA j hj
   cases hi:ix A with
   |none=>rw[aPk hi];exact ih (by omega) j hj
   |some i=>
    have hil:=hix A i (by omega) hi
    have h0:(zI m i).getD j 0=0:=by
      have:=hzl i hil;simp[List.getD,show(zI m i).length≤j by omega]
    rw[aQj hi,aG2 _ _ _ _ (by rw[gY,vL,qG]),vM,fC (by rw[kE,gY,vL,kE,qG]),oV,aQk hm hil,ih (by omega) j hj,h0,Rat.intCast_zero,Rat.mul_zero,Rat.zero_add]
 rw[wU (by rw[bX];omega),gY,bX];obtain⟨q,h1,h2,h3,h4⟩:=kF (eX (rz (dJ m)) (m+1-(dJ m).length) (uA ix k f m f));rw[h2,List.length_take];rcases Nat.lt_or_ge n q with h |h
 ·exact absurd (hz f (Nat.le_refl _) (q-1) (by omega)) (h4 (by omega))
 ·omega
end
end
section
open Go Go.Lg Go.Num
theorem kJ:PGd 25 [] (.lit (.bool true)):=aAc (by kernel_rfl)
attribute [local irreducible] lrun lwp exThen exBlk keep goodPost sg mg oc mC bq
theorem aDq (f:Int) (hf: -9223372036854775808≤f∧f≤9223372036854775807) (l:List Rat) (hl:l.length≤1000000) (hb:∀ q∈l,lq q≤100000):PGd 37 [.agg [i64 f,.sl l.length (qc l)],.agg [i64 f,.sl l.length (qc l)]] (.lit (.bool true)):=by
 have g:=aH0 l hb (by omega);rw[bE]at g
 simp only[i64];refine aA aV Tryz.func37 rfl (by decide) (nt:=17) rfl (rs:=[.tmp 4]) rfl (aW rfl) ?_;refine dP ?_;exact lU
end
section
open Go Go.Lg Go.Num
theorem aXd {w:Nat→Rat}{P B:Nat}(hP:P≤16) (hB:B≤2000) (h:∀ i,i<P→lq (w i)≤B):PGd 37 [.agg [(sS w P).1,(sS w P).2],.agg [(sS w P).1,(sS w P).2]] (.lit (.bool true)):=by
 obtain⟨x,L,hR,hL,hx,hq⟩:∃ x L,fJ 0 w P= .agg [i64 x,.sl L.length (qc L)]∧L.length≤P∧x=0+((P:Int)-L.length)∧∀ q∈L,lq q≤B:=by
  obtain⟨q1,_,_⟩:=gU w P;refine⟨_,aP (fun j=>w (Go.Num.ordN w P+j)) (P-Go.Num.ordN w P),by rw[iX rfl,eC],by rw[eC];omega,by rw[eC];omega,?_⟩;intro q hq;simp only[aP,List.mem_map]at hq;obtain⟨j,hj,rfl⟩:=hq;have:=List.mem_range.1 hj;exact h _ (by omega)
 have gs:=aDq x (by omega) L (by omega) (fun q h=>Nat.le_trans (hq q h) (by omega));rw[← hR,tU]at gs
 exact gs
end
section
open Go Go.Lg Go.Num
theorem aXe {S:Nat→LV×LV}:∀ {n i:Nat},i<n→((sC S n).drop (i*2)).take 2=[(S i).1,(S i).2]
 |0,i,h=>by omega
 |n+1,i,h=>by
  rw[aAw];have hl:=tD S n;by_cases e:i=n
  · subst e;rw[← hl,List.drop_left];rfl
  · rw[List.drop_append_of_le_length (by omega),List.take_append_of_le_length (by rw[List.length_drop];omega)];exact aXe (by omega)
theorem bG7 (S:Nat→LV×LV) (a:Nat):∀ b,sC S (a+b)=sC S a++sC (fun i=>S (a+i)) b
 |0=>by simp[sC]
 |b+1=>by rw[← Nat.add_assoc,aAw,aAw,bG7 S a b,List.append_assoc]
end
section
open Go Go.Lg Go.Num
def wA (W:Pr→Nat→Nat→Rat):List Pr→Nat→Nat→Rat
 |[],_=>fun _=>0
 |p::l,i=>if i<p.dg then W p i else wA W l (i-p.dg)
theorem aQn {S R:Nat→LV×LV}{n:Nat}(h:∀ i,i<n→S i=R i):sC S n=sC R n:=by
 unfold sC;exact vQ fun i hi=>by rw[h i (List.mem_range.1 hi)]
theorem aMt (W:Pr→Nat→Nat→Rat) (P:Nat):∀ l:List Pr,bC (fun p=>sC (fun j=>sS (W p j) P) p.dg) l=sC (fun i=>sS (wA W l i) P) (dB l)
 |[]=>rfl
 |p::l=>by
  have ih:=aMt W P l;have e:dB (p::l)=p.dg+dB l:=by unfold dB;rw[List.map_cons,List.sum_cons]
  have e2:bC (fun p=>sC (fun j=>sS (W p j) P) p.dg) (p::l)=sC (fun j=>sS (W p j) P) p.dg++bC (fun p=>sC (fun j=>sS (W p j) P) p.dg) l:=by unfold bC;rw[List.flatMap_cons]
  rw[e,e2,ih,bG7];congr 1
  · refine aQn fun i hi=> ?_
    show _=sS (if i<p.dg then W p i else wA W l (i-p.dg)) P;rw[if_pos hi]
  · refine aQn fun i hi=> ?_
    show _=sS (if p.dg+i<p.dg then W p (p.dg+i)else wA W l (p.dg+i-p.dg)) P;rw[if_neg (by omega),Nat.add_sub_cancel_left]
theorem aXf {W:Pr→Nat→Nat→Rat}{P B:Nat}:∀ {l:List Pr},(∀ p∈l,∀ j,j<p.dg→∀ i,i<P→lq (W p j i)≤B)→∀ j,j<dB l→∀ i,i<P→lq (wA W l j i)≤B
 |[],_,j,hj=>by unfold dB at hj;simp at hj
 |p::l,h,j,hj=>fun i hi=>by
  have e:dB (p::l)=p.dg+dB l:=by unfold dB;rw[List.map_cons,List.sum_cons]
  unfold wA;split
  · rename_i c;exact h p (by simp) j c i hi
  · exact aXf (fun q hq=>h q (by simp[hq])) (j-p.dg) (by omega) i hi
theorem aXg:∀ {l:List Pr},(∀ p∈l,1≤p.dg)→l.length≤dB l
 |[],_=>Nat.zero_le _
 |p::l,h=>by
  have ih:=aXg (l:=l) fun q hq=>h q (by simp[hq])
  have h1:=h p (by simp);unfold dB at*;rw[List.map_cons,List.sum_cons,List.length_cons];omega
end
section
open Go Go.Lg Go.ChangeShapes Go.WideShapes Go.ChangeAt Go.RowKit
theorem cHy:Tryz.prog.cellsOf 3=1:=by kernel_rfl
end
section
open Go Go.Lg Go.ChangeShapes Go.WideShapes Go.ChangeAt Go.RowKit
theorem bOb:Tryz.prog.cellsOf 67=3:=by kernel_rfl
theorem aJ7 {H:Type}{enc:TypeId×Value→H}{W:World}{b0:Nat}{v:Value}{d:DataW H}{ps:List MemPlace}(hval:Value.okWide Tryz.prog W .any b0 67 v) (hd:DataW.Trod enc Tryz.prog W 0 (fun _=>true) true 67 v d ps):
  ∃ a b c:Int,(Lit.int .i64 a).wf=true∧(Lit.int .i64 b).wf=true∧(Lit.int .i64 c).wf=true∧Rep (fun g=>g<W.heap.size) W.heap (fun _=>none) (.agg [.lit (.int .i64 a), .lit (.int .i64 b), .lit (.int .i64 c)]) v∧
    ∀ W':World,(∀ i,i<W.heap.size→W'.heap[i]? =W.heap[i]?)→∃ ps',DataW.Trod enc Tryz.prog W' 0 (fun b=>decide (b<W.heap.size)) true 67 v d ps':=by
 obtain⟨cs,rfl,h2⟩:=okWide_struct Tryz.underlying67 hval;rw[bOb]at h2
 obtain⟨fuel,hf⟩:=hd;obtain⟨xs,n,rfl,hx,hlen,hn,hel⟩:=DataW.trod_struct Tryz.underlying67 hf;obtain⟨l⟩:=cs
 match l,h2 with
 |[c0,c1,c2],_=>
  match xs,hn with
  |[x0,x1,x2],_=>
   have hc:(Value.agg #[c0,c1,c2]).cells= #[c0,c1,c2]:=rfl;have e0:DataW.trod enc Tryz.prog W 0 (fun _=>true) true n 3 (([c0,c1,c2].drop 0).take (Tryz.prog.cellsOf 3))=some x0:=hel 0 _ rfl;have e1:DataW.trod enc Tryz.prog W 0 (fun _=>true) true n 3 (([c0,c1,c2].drop 1).take (Tryz.prog.cellsOf 3))=some x1:=hel 1 _ rfl;have e2:DataW.trod enc Tryz.prog W 0 (fun _=>true) true n 3 (([c0,c1,c2].drop 2).take (Tryz.prog.cellsOf 3))=some x2:=hel 2 _ rfl;simp only[cHy,List.drop_zero,List.drop_succ_cons,List.take_succ_cons,List.take_zero]at e0 e1 e2;obtain⟨a0,a1,rfl,w0⟩:=DataW.trod_int Tryz.underlying3 e0;obtain⟨b0,b1,rfl,w1⟩:=DataW.trod_int Tryz.underlying3 e1;obtain⟨g0,g1,rfl,w2⟩:=DataW.trod_int Tryz.underlying3 e2;simp only[List.cons.injEq,and_true]at a1 b1 g1;subst a1 b1 g1;obtain⟨hx1,hx2⟩:=Prod.mk.inj hx;refine⟨_,_,_,w0,w1,w2,?_,fun W' _=>⟨[],2,?_⟩⟩
   · refine Rep.agg (us:=[.int .i64 a0,.int .i64 b0,.int .i64 g0]) rfl (by simp[Value.oneCell']) ?_;intro j x u hc hu
     match j with
     |0=>simp at hc hu;subst hc;subst hu;exact .lit _
     |1=>simp at hc hu;subst hc;subst hu;exact .lit _
     |2=>simp at hc hu;subst hc;subst hu;exact .lit _
     |j+3=>simp at hc
   · have:=trod_struct_mk (enc:=enc) (w:=W') (base:=0) (spare:=fun b=>decide (b<W.heap.size)) (held:=true) (n:=1) (cs:=[.int .i64 a0, .int .i64 b0, .int .i64 g0]) (xs:=[(.lit (.int .i64 a0),[]),(.lit (.int .i64 b0),[]),(.lit (.int .i64 g0),[])]) Tryz.underlying67 (by rw[bOb];rfl) (by
       simp[cHy,DataW.trod,Tryz.underlying3,w0,w1,w2])
     rw[hx1];exact this
end
end Go.Proofs.YtaidcaemdkncgaaGreatDoor
