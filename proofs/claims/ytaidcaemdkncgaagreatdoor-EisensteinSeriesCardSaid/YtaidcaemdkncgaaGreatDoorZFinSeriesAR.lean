/- Contracts of functions of the program, and what proves them (texts: EAz A0 EQ ClsGd ClsP). -/
import Derived.KernelRfl
import Derived.Test.YtaidcaemdkncgaaGreatDoorRows
import Derived.WalkKit
import Derived.ProofKit
import Derived.OpenShut
import Derived.Stop.Joined
import Derived.Test.YtaidcaemdkncgaaGreatDoorZAO
import Derived.Test.YtaidcaemdkncgaaGreatDoorZFinSeriesAA
import Derived.Test.YtaidcaemdkncgaaGreatDoorZFinSeriesAB
import Derived.Test.YtaidcaemdkncgaaGreatDoorZFinSeriesAI
import Derived.Test.YtaidcaemdkncgaaGreatDoorZFinSeriesAJ
import Derived.Test.YtaidcaemdkncgaaGreatDoorZFinSeriesAK
import Derived.Test.YtaidcaemdkncgaaGreatDoorZFinSeriesAL
import Derived.Test.YtaidcaemdkncgaaGreatDoorZFinSeriesAM
import Derived.Test.YtaidcaemdkncgaaGreatDoorZFinSeriesAN
import Derived.Test.YtaidcaemdkncgaaGreatDoorZFinSeriesAO
import Derived.Test.YtaidcaemdkncgaaGreatDoorZFinSeriesAP
import Derived.Test.YtaidcaemdkncgaaGreatDoorZFinSeriesAQ
set_option linter.all false
set_option maxRecDepth 100000
set_option maxHeartbeats 8000000
namespace Go.Proofs.YtaidcaemdkncgaaGreatDoor
section
open Go Go.Lg Go.Num
theorem bW5:∀ n∈[1,2,3,4,5,6,7,8,9,10,11,12,13,14,15,16,17,18,19,20,21,22,23,24,25,26,27,28,29,30,31,32,33,34,35,36,37,38,39,40,41,42,43,44,45,46,47,48,49,50,51,52,53,54,55,56,57,58,59,60],(bP (od n)).all (bZ n)=true:=by
 simp only[List.forall_mem_cons]
 exact⟨cL6,cL4,cMa,cL8,cMb,cMc,cL5,cL7,cL9,cHi,cHp,cG5,cHo,cH2,cHv,cHb,cG4,cIe,cH0,cH1,cHa,cH8,cHu,cHh,cG3,cHg,cG9,cHn,cH6,cH7,cG8,cHt,cHm,cId,cHy,cHz,cHk,cIc,cHs,cG2,cH4,cHf,cH3,cHl,cG7,cHe,cHw,cH5,cHj,cIb,cH9,cHr,cG6,cG1,cHc,cIa,cHq,cHx,cG0,cHd,by simp⟩
theorem bW6 {n:Nat}(h1:1≤n) (h2:n≤60) {v:List Nat}(hv:v∈bP (od n)):bZ n v=true:=by
 have h:=bW5 n (by
  have:n∈List.range' 1 60:=by rw[List.mem_range'_1];omega
  exact this)
 exact List.all_eq_true.1 h v hv
end
section
open Go Go.Lg Go.Num
theorem sI:PureGood Tryz.prog 25 [] (.lit (.bool true)):=yT (by kernel_rfl)
attribute [local irreducible] lrun lwp exThen exBlk keep goodPost sg mg oc mC bq
theorem aCl (f:Int) (hf: -9223372036854775808≤f∧f≤9223372036854775807) (l:List Rat) (hl:l.length≤1000000) (hb:∀ q∈l,lq q≤100000):PureGood Tryz.prog 37 [.agg [i64 f,.sl l.length (qc l)],.agg [i64 f,.sl l.length (qc l)]] (.lit (.bool true)):=by
 have g:=aGe l hb (by omega)
 rw[bD]at g
 simp only[i64]
 refine aA bC Tryz.func37 rfl (by decide) (nt:=17) rfl (rs:=[.tmp 4]) rfl (aZ rfl) ?_
 refine dM ?_
 exact mJ
end
section
open Go Go.Lg Go.Num
theorem bEj:(qS.all fun m=>Nat.ble (phK m) 12)=true:=by kernel_rfl
theorem bNd:(List.range 60).all (fun j=>match ixB 1 1 [] j with
 |some 0=>true
 |_=>false)=true:=by kernel_rfl
theorem ix1 {j:Nat}(hj:j<60):ixB 1 1 [] j=some 0:=by
 have h:=List.all_eq_true.1 bNd j (List.mem_range.2 hj)
 split at h
 ·rename_i e
  exact e
 ·cases h
theorem zI1:zI 1 0=[1]:=by decide+kernel
theorem cIf {v:List Nat}(h:v∈bP (od 1)):v=[]:=by
 have e:bP (od 1)=[[]]:=by decide+kernel
 rw[e]at h
 simpa using h
theorem aIl (m:Int) (l:List Int) (hm: -9223372036854775808≤m∧m≤9223372036854775807) (hl:l.length≤10):(¬jU m l=0∧PureGood Tryz.prog 76 [.agg [i64 m,.sl l.length (ec l)]] (i64 (jU m l))∧PureGood Tryz.prog 61 [.agg [i64 m,.sl l.length (ec l)]] (i64 (jU m l))∧0≤jU m l∧jU m l≤10)∨∃ (n:Nat) (v:List Nat) (c:Nat) (b:Bool),m=n∧l=nI v∧SeD n (nI v) (ordN n v) c b (ixB (ordN n v) n v)∧(n=1→v=[]):=by
 by_cases he:jU m l=0
 ·obtain⟨n,rfl,n1,n2,v,hv,rfl⟩:=bIa he
  obtain⟨c,b,h⟩:=aX0 n1 n2 ⟨hm,by omega⟩ he (by rw[dW]at hl;exact hl) (bW6 n1 n2 hv)
  exact .inr ⟨n,v,c,b,rfl,rfl,h,fun e=>by subst e;exact cIf hv⟩
 ·have:=bBn m l
  exact .inl ⟨he,uA m l hm (by omega),wC m l hm (by omega),by omega,by omega⟩
section
variable {n1 o1 c1 n2 o2 c2:Nat}{v1 v2:List Int}{b1 b2:Bool}{ix1 ix2:Nat→Option Nat}{m n k:Nat}
theorem aIm {te:Nat→Option Nat}{z:Nat→List Int}{p:Nat→Int}{j e:Nat}(h:te 0=some e) (hj:j<(z e).length):∀ D,∃ q,ocD te z p j (D+1)=some q
 |0=>⟨_,by rw[qR h,if_pos hj]⟩
 |D+1=>by
  obtain⟨q,hq⟩:=aIm (p:=p) h hj D
  cases ht:te (D+1)with
  |none=>exact⟨q,by rw[aFt ht,hq]⟩
  |some e'=>
   by_cases c:j<(z e').length
   · exact⟨_,by rw[qR ht,if_pos c]⟩
   · exact⟨q,by rw[qR ht,if_neg c,hq]⟩
def c0V:Rat:=0+trN 2 1 0*1
theorem bEk:c0V≠0∧lq c0V≤30:=by decide+kernel
theorem aUs {ix:Nat→Option Nat}(h:ix 0=some 0):(wG ix 2 1 1 1 1 1).getD 0 0=c0V:=by
 unfold wG
 rw[h]
 simp only
 rw[fO (by rw[pH,iW]),qO (by omega),Nat.zero_mul,zI1]
 unfold wG c0V
 simp
theorem bNe {P T:Nat}(h1:SeD n1 v1 o1 c1 b1 ix1) (h2:SeD n2 v2 o2 c2 b2 ix2) (hm:m∈qS) (hn:n=(dF m).length-1) (hm1:m % o1=0) (hm2:m % o2=0) (k1:2≤k) (k2:k≤40) (hP:P≤16) (T1:1≤T) (T2:T≤1000) (hpar:(b1==b2)=decide (k % 2=0))
  (hk:¬(k=2∧n1=1∧n2=1∧T=1)) (hc1:c1=n1) (hc2:c2=n2) (ho1:n1=1→m=o2) (hone:n1=1→n2=1→m=1∧o1=1∧o2=1∧(∀ j,j<60→ix1 j=some 0)∧∀ j,j<60→ix2 j=some 0)
  (gordP:PureGood Tryz.prog 82 [.agg [i64 n1,.sl v1.length (ec v1)],.agg [i64 n2,.sl v2.length (ec v2)]] (i64 m)) (gordR:PureGood Tryz.prog 92 [.agg [i64 n1,.sl v1.length (ec v1)],.agg [i64 n2,.sl v2.length (ec v2)]] (i64 m)) (gphi:PureGood Tryz.prog 94 [i64 m] (i64 n))
  (gchk:PureGood Tryz.prog 81 [i64 k,.agg [i64 n1,.sl v1.length (ec v1),i64 n2,.sl v2.length (ec v2),i64 T]] (i64 0)):
  ∃ w:Nat→Nat→Rat,(∀ j,j<n→∀ i,i<P→lq (w j i)≤2000)∧PureGood Tryz.prog 26 [i64 k, .agg [i64 n1, .sl v1.length (ec v1),i64 n2, .sl v2.length (ec v2),i64 T],i64 P] (.tup [.sl n (sC (fun j=>sS (w j) P) n),i64 0])∧
    PureGood Tryz.prog 27 [i64 k,.agg [i64 n1,.sl v1.length (ec v1),i64 n2,.sl v2.length (ec v2),i64 T],i64 P] (.tup [.sl n (sC (fun j=>sS (w j) P) n),i64 0]):=by
 have hZ:=aDa hm
 rw[← hn]at hZ
 have hZ':=hZ
 obtain⟨m1,m2,nn1,nn2,_,_,hzl,hzs⟩:=hZ'
 have f1:=h2.n1
 have f2:=h2.n2
 have hbd:∀ j,j<n→∀ l,l<P→lq (cfQ ix1 ix2 k m o1 o2 n n1 n2 l j)≤410:=fun j hj l hl=>bEh h2 hZ hm2 k1 k2 (by omega) hj
 obtain⟨both,hb⟩:∃ both,both=(decide (k=2) && decide (n1=1) && decide (n2=1)):=⟨_,rfl⟩
 have hbt:both=true→k=2∧n1=1∧n2=1:=fun h=>by
  rw[h]at hb
  have:=hb.symm
  simp only[Bool.and_eq_true,decide_eq_true_eq]at this
  exact⟨this.1.1,this.1.2,this.2⟩
 obtain⟨a,ha⟩:∃ a:Nat→Nat→Rat,a=fun j l=>cfQ ix1 ix2 k m o1 o2 n n1 n2 l j:=⟨_,rfl⟩
 obtain⟨w,hw⟩:∃ w:Nat→Nat→Rat,w=fun j=>if both then dfT (a j) T else sX (a j) T:=⟨_,rfl⟩
 have hixm:n1=1→∀ A j,A<n2→ix2 A=some j→j<m:=fun e A j hA hj=>by
  have:=(h2.yes A j (by omega) hj).1
  rw[ho1 e]
  exact this
 obtain⟨R,hR⟩:∃ R,R=if n1=1 then oQ (rz (dF m)) (bQ (vL ix2 k n2 m n2))else[]:=⟨_,rfl⟩
 have hRe:n1=1→R=oQ (rz (dF m)) (bQ (vL ix2 k n2 m n2)):=fun e=>by rw[hR,if_pos e]
 have hRn:R.length≤n:=by
  by_cases e:n1=1
  ·rw[hRe e]
   exact bJs hm hzl (hixm e)
  ·rw[hR,if_neg e]
   exact Nat.zero_le _
 have hRq:∀ j,lq (R.getD j 0)≤1000:=by
  intro j
  by_cases e:n1=1
  ·obtain⟨c1,c2,c3,c4⟩:=wE hm
   have hl2:=uI (vL ix2 k n2 m n2)
   rw[iK]at hl2
   rw[hRe e]
   refine uJ (aNw c1 (L:=260) (fun j=> ?_) j) (vJ f1) (qN k2 f2) (by omega)
   rw[jC]
   exact aT4 (ix:=ix2) (k:=k) (f:=n2) (o:=m) (j:=n2) k2 f1 f2 (Nat.le_refl _) j
  ·rw[hR,if_neg e,show([]:List Rat).getD j 0=0 from rfl]
   decide+kernel
 have hRv:n1=1→∀ j,j<n→R.getD j 0 / (((-2*(k:Int):Int)):Rat)=(wG ix2 k n2 m o2 n n2).getD j 0:=fun e j hj=>by
  rw[← bEf (by omega),hRe e]
  have:=bEe (k:=k) (f:=n2) (n:=n) hm (hixm e) hj
  rw[this,ho1 e]
 have gC:n1=1→PureGood Tryz.prog 17 [i64 k,.agg [i64 n2,.sl v2.length (ec v2)]] (.tup [.sl R.length (qc R),i64 m,i64 0]):=fun e=>by
  have ho:=ho1 e
  have hph:=List.all_eq_true.1 bEj m hm
  rw[Nat.ble_eq,bBf]at hph
  have hc:ChD n2 v2 m n2 v2 ix2:=by
   have p:=h2.pr hc2
   have q:=h2.orP
   rw[← ho]at q
   refine⟨m1,by omega,f1,f2,q,p,fun j hj hi=>(h2.no j (by omega) hi).1,fun j i hj hi=> ?_⟩
   obtain⟨h1,a,d,d1,d2,a2,hd,hai,g1,g2⟩:=h2.yes j i (by omega) hi
   rw[← ho]at h1 hai
   exact⟨h1,a,d,d1,d2,a2,hai,g1⟩
  have g:=(aK3 (k:=k) (by omega) k2 ⟨f1,f2,h2.lw,hm,hph⟩ hc).1
  rw[← hRe e,bD]at g
  exact g
 obtain⟨f0,hf0⟩:∃ f0:Nat→Rat,f0=fun j=>R.getD j 0 / (((-2*(k:Int):Int)):Rat):=⟨_,rfl⟩
 obtain⟨o0,ho0⟩:∃ o0:Nat→Option Rat,o0=fun j=>if n1=1 then o0I f0 R.length j else none:=⟨_,rfl⟩
 have hval:∀ j,j<n→∀ l,l<P→(cE o0 (sY ix1 ix2 m o1 o2) (zI m) (lS k) (max P 1) 0 0 j l).getD 0=a j l:=by
  intro j hj l hl
  rw[bEi hl,ha]
  show _=cfQ ix1 ix2 k m o1 o2 n n1 n2 l j
  unfold cfQ
  by_cases h0:l=0
  ·rw[if_pos h0,if_pos h0,ho0]
   by_cases e:n1=1
   ·simp only[if_pos e]
    rw[← hRv e j hj]
    have hx:∀ j,f0 j=R.getD j 0*(((-2*(k:Int):Int)):Rat)⁻¹:=fun j=>by rw[hf0];exact Rat.div_def _ _
    rw[bWv hx,Rat.div_def]
   ·simp only[if_neg e]
    rfl
  ·rw[if_neg h0,if_neg h0]
   exact aKw hj l
 have hsm:both=true→∀ j,j<n→∀ l,l<P→lq (cfQ ix1 ix2 k m o1 o2 n n1 n2 l j)≤100:=by
  intro hbb j hj l hl
  obtain⟨e1,e2,e3⟩:=hbt hbb
  obtain⟨x1,x2,x3,x4,x5⟩:=hone e2 e3
  by_cases h0:l=0
  ·unfold cfQ
   rw[if_pos h0,if_pos e2]
   have hn1:n=1:=by
    rw[hn,x1]
    decide+kernel
   obtain rfl:j=0:=by omega
   rw[e1,e3,x1,x3,hn1,aUs (x5 0 (by omega))]
   have:=bEk.2
   omega
  ·unfold cfQ
   rw[if_neg h0]
   have:=(aKi (te:=sY ix1 ix2 m o1 o2 l) (n:=n) k2 hzs (fun D e h=>aKj m1 h) l (by omega) j hj).lq (K:=1) (by decide) (by decide+kernel)
   omega
 have hrd:=bJr (both:=both) h1 h2 hZ hm1 hm2 k1 k2 hP T1 T2 hpar hb (fun h=>hk ⟨(hbt h.1).1,(hbt h.1).2.1,(hbt h.1).2.2,h.2⟩) hc1 hc2 gordR gphi w (fun j=>by rw[hw,ha]) hsm
 have hpt:P≤T*P:=Nat.le_mul_of_pos_left P (by omega)
 have hwb:∀ j,j<n→∀ i,i<P→lq (w j i)≤1000:=by
  intro j hj i hi
  have b0:∀ i,i<P→lq (a j i)≤410:=fun i hi=>by rw[ha];exact hbd j hj i hi
  have h2:lq (sX (a j) T i)≤410:=aBh b0 (by omega) (by omega:i<T*P)
  rw[hw]
  simp only
  split
  ·rename_i hbb
   have b1:∀ i,i<P→lq (a j i)≤100:=fun i hi=>by rw[ha];exact hsm hbb j hj i hi
   have h2:lq (sX (a j) T i)≤100:=aBh b1 (by omega) (by omega:i<T*P)
   have h1:=b1 i hi
   have h3:=kK ((T:Int):Rat) (sX (a j) T i)
   have h4:=aJv (z:=(T:Int)) (by omega)
   have h5:=bVg (a j i) (((T:Int):Rat)*sX (a j) T i)
   unfold dfT
   omega
  ·omega
 refine⟨w,fun j hj i hi=>by have:=hwb j hj i hi;omega,?_,hrd⟩
 obtain⟨ob,hob⟩:∃ ob:Nat→Nat→Option Rat,ob=fun j l=>cE o0 (sY ix1 ix2 m o1 o2) (zI m) (lS k) (max P 1) 0 0 j l:=⟨_,rfl⟩
 have hcl:∀ j,cL o0 (sY ix1 ix2 m o1 o2) (zI m) (lS k) P (max P 1) 0 0 j=oP (ob j) P:=fun j=>by rw[hob];rfl
 have gF:=oE hm
 have hcy:=(wE hm).2.1
 rw[show(dF m).length=n+1 by omega]at gF
 have hfj:∀ j,f0 j=R.getD j 0 / (((-2*(k:Int):Int)):Rat):=fun j=>by rw[hf0]
 have ho0':∀ j,o0 j=if n1=1 then o0I f0 R.length j else none:=fun j=>by rw[ho0]
 cases hbb:both with
 |false=>
  have hwj:∀ j,w j=sX (a j) T:=fun j=>by rw[hw,hbb];simp
  refine aIi h1 h2 k1 k2 (by omega) hZ hm1 hm2 T1 T2 gchk gordP gF gC hRn hRq (fun j=>sS (w j) P) (fun j=> .sl P (op (oP (aXt (ob j) T) P))) false (hbb ▸ hb) (fun j=>aOq _ _) (fun j=>⟨_,_,rfl⟩) o0 f0 hfj ho0' (fun j hj=> ?_) (fun j hj=> ?_)
  · rw[hcl]
    exact aOi (ob j) P T (by omega) T1 T2
  · have g:=aB9 0 (aXt (ob j) T) (w j) P (fun i hi=>by
      rw[hwj]
      unfold sX aXt
      split
      · have hq:i / T≤i:=Nat.div_le_self _ _
        rw[hob,hval j hj (i / T) (by omega)]
      · rfl) (by omega) (by omega) (fun i hi=>by have:=hwb j hj i hi;omega)
    rw[aCc]at g
    exact g
 |true=>
  obtain⟨e1,e2,e3⟩:=hbt hbb
  obtain⟨x1,x2,x3,x4,x5⟩:=hone e2 e3
  have hn1:n=1:=by
    rw[hn,x1]
    decide+kernel
  have hwj:∀ j,w j=dfT (a j) T:=fun j=>by rw[hw,hbb];simp
  have hT2:1≤T:=T1
  have hsome:∀ j,j<n→∀ l,l<P→ob j l=some (a j l):=by
    intro j hj l hl
    obtain rfl:j=0:=by omega
    have hv:=hval 0 hj l hl
    have hne:∃ q,ob 0 l=some q:=by
      rw[hob]
      simp only
      rw[bEi hl]
      by_cases h0:l=0
      · rw[if_pos h0,ho0]
        simp only[if_pos e2]
        have h3:=hRv e2 0 hj
        rw[e1,e3,x1,x3,hn1,aUs (x5 0 (by omega))]at h3
        have hR0:0<R.length:=by
          rcases Nat.eq_zero_or_pos R.length with h |h
          · have:R=[]:=List.eq_nil_of_length_eq_zero h
            rw[this]at h3
            exact absurd (h3.symm.trans (by rw[Rat.div_def];exact Rat.zero_mul _)) bEk.1
          · exact h
        exact⟨_,by unfold o0I;rw[if_pos hR0]⟩
      · rw[if_neg h0]
        obtain⟨l',rfl⟩:∃ l',l=l'+1:=⟨l-1,by omega⟩
        have ht:sY ix1 ix2 m o1 o2 (l'+1) 0=some 0:=by
          have t3:=(aUh (ix1:=ix1) (ix2:=ix2) (m:=m) (o1:=o1) (o2:=o2) (l:=l'+1) (D:=0) (x:=l') (by omega) (by omega)).2.2 0 0 (x4 l' (by omega)) (x5 0 (by omega))
          rw[t3,Nat.zero_mul,Nat.zero_mul]
          first |done |rfl |(congr 1;exact Nat.zero_mod m)
        exact aIm ht (by rw[x1,zI1];decide) l'
    obtain⟨q,hq⟩:=hne
    have h4:(ob 0 l).getD 0=a 0 l:=by rw[hob];exact hv
    rw[hq]at h4⊢
    rw[← h4]
    rfl
  have hop:∀ j,j<n→op (oP (ob j) P)=qc (aP (a j) P):=fun j hj=>by
    have:oP (ob j) P=oP (fun i=>some (a j i)) P:=List.map_congr_left (fun l hl=>hsome j hj l (List.mem_range.1 hl))
    rw[this,bDm]
  have b1:∀ j,j<n→∀ i,i<P→lq (a j i)≤1000:=fun j hj i hi=>by rw[ha];exact Nat.le_trans (hbd j hj i hi) (by omega)
  refine aIi h1 h2 k1 k2 (by omega) hZ hm1 hm2 T1 T2 gchk gordP gF gC hRn hRq (fun j=>sS (w j) P) (fun j=> .sl P (qc (aP (w j) P))) true (hbb ▸ hb) (fun j=>aOq _ _) (fun j=>⟨_,_,rfl⟩) o0 f0 hfj ho0' (fun j hj=> ?_) (fun j hj=> ?_)
  · rw[hcl,hop j hj]
    show PureGood _ _ _ (.sl P (qc (aP (w j) P)))
    rw[hwj]
    exact aOd (a j) P T (by omega) T1 T2 (b1 j hj)
  · have g:=aB9 0 (fun i=>some (w j i)) (w j) P (fun i hi=>rfl) (by omega) (by omega) (fun i hi=>by have:=hwb j hj i hi;omega)
    rw[bDm,aCc]at g
    exact g
end
attribute [local irreducible] lrun lwp exThen exBlk keep goodPost ec pt gn od jU sg mg sC
theorem bOn {S:Nat→LV×LV}:∀ {n i:Nat},i<n→((sC S n).drop (i*2)).take 2=[(S i).1,(S i).2]
 |0,i,h=>by omega
 |n+1,i,h=>by
  rw[aKv]
  have hl:=aKu S n
  by_cases e:i=n
  · subst e
    rw[← hl,List.drop_left]
    rfl
  · rw[List.drop_append_of_le_length (by omega),List.take_append_of_le_length (by rw[List.length_drop];omega)]
    exact bOn (by omega)
theorem wJ {n:Nat}(hn:n≤100) {S:Nat→LV×LV}(hS:∀ j,∃ a nn cs,(S j).1=i64 a∧(S j).2= .sl nn cs) (gs:∀ j,j<n→PureGood Tryz.prog 37 [.agg [(S j).1,(S j).2],.agg [(S j).1,(S j).2]] (.lit (.bool true))):PureGood Tryz.prog 28 [.sl n (sC S n),.sl n (sC S n)] (.lit (.bool true)):=by
 have hl:=aKu S n
 refine aA bC Tryz.func28 rfl (by decide) (nt:=27) rfl (rs:=[.tmp 4]) rfl (aZ rfl) ?_
 refine pK hl ?_
 refine aI (α:={i:Nat // i≤n}) (fun i=>st 27 (lk [(0,.sl n (sC S n)),(1,.sl n (sC S n)),(5,.lit (.int .i64 i.1))]) (cP []) 0) (fun i=>n-i.1) ⟨0,by omega⟩ ?_ ?_
 ·(refine Sub.plain ?_;simp only[aG,dg,renL,renLs,simprocAttr,bl,i64,smT,smO,smE,hl])
  all_goals(first |done |exact⟨trivial,rfl⟩ |simp)
 ·rintro⟨i,hi⟩
  simp only[st]
  by_cases hlt:i<n
  ·have htd:=bOn (S:=S) hlt
   have g:=gs i hlt
   obtain⟨a,nn,cs,e1,e2⟩:=hS i
   rw[e1,e2]at htd g
   simp only[i64]at htd g
   refine pK (nd hl htd) ?_
   refine⟨⟨i+1,by omega⟩,?_,by simp only;omega⟩
   (refine Sub.plain ?_;simp only[aG,dg,renL,renLs,simprocAttr,bl,i64,smT,smO,smE,hl,htd])
   all_goals(first |done |simp)
  ·obtain rfl:i=n:=by omega
   refine pK hl ?_
   exact bPn hl
section
variable {m1 m2 k T prec:Int}{l1 l2:List Int}
theorem aRz (hp:16<prec∧prec≤1000):PureGood Tryz.prog 7 [.agg [i64 m1,.sl l1.length (ec l1),i64 m2,.sl l2.length (ec l2),i64 T],i64 k,i64 prec] (.lit (.bool true)):=by
 have ga:=sI
 generalize ec l1=x1 at*
 generalize ec l2=x2 at*
 simp only[i64]at*
 refine aA bC Tryz.func7 rfl (by decide) (nt:=57) rfl (rs:=[.tmp 6]) rfl (aZ rfl) ?_
 refine zA5 ?_
 exact zQ2
theorem aX1 (hp:¬(16<prec∧prec≤1000)) (hl:10<l1.length∨10<l2.length):PureGood Tryz.prog 7 [.agg [i64 m1,.sl l1.length (ec l1),i64 m2,.sl l2.length (ec l2),i64 T],i64 k,i64 prec] (.lit (.bool true)):=by
 have ga:=sI
 generalize ec l1=x1 at*
 generalize ec l2=x2 at*
 simp only[i64]at*
 by_cases h1:10<l1.length
 ·by_cases h2:16<prec
  ·
   skip
   refine aA bC Tryz.func7 rfl (by decide) (nt:=57) rfl (rs:=[.tmp 6]) rfl (aZ rfl) ?_
   refine zA5 ?_
   exact zQ2
  ·skip
   refine aA bC Tryz.func7 rfl (by decide) (nt:=57) rfl (rs:=[.tmp 6]) rfl (aZ rfl) ?_
   refine zA5 ?_
   exact zQ2
 ·by_cases h2:16<prec
  ·skip
   refine aA bC Tryz.func7 rfl (by decide) (nt:=57) rfl (rs:=[.tmp 6]) rfl (aZ rfl) ?_
   refine zA5 ?_
   exact zQ2
  ·skip
   refine aA bC Tryz.func7 rfl (by decide) (nt:=57) rfl (rs:=[.tmp 6]) rfl (aZ rfl) ?_
   refine zA5 ?_
   exact zQ2
theorem aUt (hp:¬(16<prec∧prec≤1000)) (h1:l1.length≤10) (h2:l2.length≤10) {n:Nat}{L:List LV}{e:Int}(he:0≤e∧e≤100) (gs:PureGood Tryz.prog 28 [.sl n L, .sl n L] (.lit (.bool true)))
  (g1:PureGood Tryz.prog 26 [i64 k,.agg [i64 m1,.sl l1.length (ec l1),i64 m2,.sl l2.length (ec l2),i64 T],i64 prec] (.tup [.sl n L,i64 e])) (g2:PureGood Tryz.prog 27 [i64 k,.agg [i64 m1,.sl l1.length (ec l1),i64 m2,.sl l2.length (ec l2),i64 T],i64 prec] (.tup [.sl n L,i64 e])):
  PureGood Tryz.prog 7 [.agg [i64 m1,.sl l1.length (ec l1),i64 m2,.sl l2.length (ec l2),i64 T],i64 k,i64 prec] (.lit (.bool true)):=by
 have ga:=sI
 generalize ec l1=x1 at*
 generalize ec l2=x2 at*
 simp only[i64]at*
 by_cases h3:16<prec
 ·
  skip
  refine aA bC Tryz.func7 rfl (by decide) (nt:=57) rfl (rs:=[.tmp 6]) rfl (aZ rfl) ?_
  refine zA5 ?_
  exact zQ2
 ·skip
  refine aA bC Tryz.func7 rfl (by decide) (nt:=57) rfl (rs:=[.tmp 6]) rfl (aZ rfl) ?_
  refine zA5 ?_
  exact zQ2
end
theorem aFz (m1 m2 T k prec:Int) (l1 l2:List Int) (r1: -9223372036854775808≤m1∧m1≤9223372036854775807) (r2: -9223372036854775808≤m2∧m2≤9223372036854775807) (rT: -9223372036854775808≤T∧T≤9223372036854775807) (rk: -9223372036854775808≤k∧k≤9223372036854775807) (rp: -9223372036854775808≤prec∧prec≤9223372036854775807):PureGood Tryz.prog 7 [.agg [i64 m1,.sl l1.length (ec l1),i64 m2,.sl l2.length (ec l2),i64 T],i64 k,i64 prec] (.lit (.bool true)):=by
 by_cases hp:16<prec∧prec≤1000
 ·exact aRz hp
 by_cases hl:10<l1.length∨10<l2.length
 ·exact aX1 hp hl
 have err:∀ e:Int,0≤e∧e≤100→PureGood Tryz.prog 26 [i64 k,.agg [i64 m1,.sl l1.length (ec l1),i64 m2,.sl l2.length (ec l2),i64 T],i64 prec] (eS e)∧PureGood Tryz.prog 27 [i64 k,.agg [i64 m1,.sl l1.length (ec l1),i64 m2,.sl l2.length (ec l2),i64 T],i64 prec] (eS e)→PureGood Tryz.prog 7 [.agg [i64 m1,.sl l1.length (ec l1),i64 m2,.sl l2.length (ec l2),i64 T],i64 k,i64 prec] (.lit (.bool true)):=fun e he h=>
  aUt hp (by omega) (by omega) he (by
   have:=wJ (n:=0) (by omega) (S:=fun _=>(i64 0,.sl 0 [])) (fun _=>⟨_,_,_,rfl,rfl⟩) (fun j hj=>by omega)
   rwa [show sC (fun _=>(i64 0,LV.sl 0 [])) 0=[]by with_unfolding_all rfl]at this) h.1 h.2
 by_cases hk:k<2∨40<k
 ·exact err 2 (by omega) ⟨oI (by omega) (aBj (.inl ⟨hk,rfl⟩)),aRq ⟨_,_,rfl⟩ ⟨_,_,rfl⟩ hk⟩
 have hk2:2≤k∧k≤40:=by omega
 rcases aIl m1 l1 r1 (by omega)with⟨he,g,g',e1,e2⟩ |⟨n1,v1,c1,b1,rfl,rfl,h1,hv1⟩
 ·exact err _ (by omega) ⟨oI he (aBj (.inr ⟨hk2,.inl ⟨he,g⟩⟩)),aBi ⟨_,_,rfl⟩ ⟨_,_,rfl⟩ hk2 he (aIh (.inl ⟨he,g'⟩))⟩
 rcases aIl m2 l2 r2 (by omega)with⟨he,g,g',e1,e2⟩ |⟨n2,v2,c2,b2,rfl,rfl,h2,hv2⟩
 ·exact err _ (by omega) ⟨oI he (aBj (.inr ⟨hk2,.inr ⟨h1.chP,he,g⟩⟩)),aBi ⟨_,_,rfl⟩ ⟨_,_,rfl⟩ hk2 he (aIh (.inr ⟨h1.chR,he,g'⟩))⟩
 have gcp:=aRr (T:=T) h1 h2 hk2
 have gfm:=aFw (T:=T) h1 h2
 obtain⟨K,rfl⟩:∃ K:Nat,k=K:=⟨k.toNat,by omega⟩
 obtain⟨gordP,gordR⟩:=aNx h1 h2
 obtain⟨o1,ho1⟩:∃ o,o=ordN n1 v1:=⟨_,rfl⟩
 obtain⟨o2,ho2⟩:∃ o,o=ordN n2 v2:=⟨_,rfl⟩
 have hix1:=h1
 have hix2:=h2
 rw[← ho1]at h1 gordP gordR
 rw[← ho2]at h2 gordP gordR
 have m1':1≤Nat.lcm o1 o2:=Nat.pos_of_ne_zero (Nat.lcm_ne_zero (by have:=h1.o1;omega) (by have:=h2.o1;omega))
 have m2':Nat.lcm o1 o2≤4000:=by
  have:=Nat.le_of_dvd (Nat.mul_pos (show 0<o1 by have:=h1.o1;omega) (show 0<o2 by have:=h2.o1;omega)) (Nat.lcm_dvd_mul o1 o2)
  have:=Nat.mul_le_mul h1.o2 h2.o2
  omega
 have d1:Nat.lcm o1 o2 % o1=0:=Nat.mod_eq_zero_of_dvd (Nat.dvd_lcm_left o1 o2)
 have d2:Nat.lcm o1 o2 % o2=0:=Nat.mod_eq_zero_of_dvd (Nat.dvd_lcm_right o1 o2)
 by_cases hc:c1≠n1∨c2≠n2
 ·have e1:cpE K T n1 c1 n2 c2 b1 b2=3:=by unfold cpE;rw[if_pos hc]
  rw[if_pos hc]at gfm
  rw[e1]at gcp
  exact err 3 (by omega) ⟨oI (by omega) gcp,aBi ⟨_,_,rfl⟩ ⟨_,_,rfl⟩ hk2 (by omega) gfm⟩
 rw[if_neg hc]at gfm
 have hcp:cpE K T n1 c1 n2 c2 b1 b2=if(b1==b2)=decide ((K:Int) % 2=0)then(if T<1∨1000<T then 2 else if(K:Int)=2∧n1=1∧n2=1∧T=1 then 20 else 0)else 16:=by unfold cpE;rw[if_neg hc]
 rw[hcp]at gcp
 have hkd:decide ((K:Int) % 2=0)=decide (K % 2=0):=decide_eq_decide.2 (by omega)
 rw[hkd]at gcp
 obtain⟨tr,htr⟩:∃ tr,tr=(decide ((n1:Int)=1) && decide ((n2:Int)=1)):=⟨_,rfl⟩
 have htr2:tr=true↔n1=1∧n2=1:=by
  rw[htr,Bool.and_eq_true,decide_eq_true_eq,decide_eq_true_eq]
  omega
 have rerr:=fun(e:Int) hcase=>bD1 (k:=K) (m:=Nat.lcm o1 o2) (T:=T) (prec:=prec) (e:=e) ⟨_,_,rfl⟩ ⟨_,_,rfl⟩ (by omega) (by omega) m1' m2' htr gfm gordR (pG h1 m1' (by omega)) (pG h2 m1' (by omega)) hcase
 by_cases hpar:(b1==b2)=decide (K % 2=0)
 ·rw[if_pos hpar]at gcp
  by_cases hT:T<1∨1000<T
  ·rw[if_pos hT]at gcp
   exact err 2 (by omega) ⟨oI (by omega) gcp,rerr 2 (.inr ⟨hpar,.inl ⟨hT,rfl⟩⟩)⟩
  ·rw[if_neg hT]at gcp
   by_cases hkd:(K:Int)=2∧n1=1∧n2=1∧T=1
   ·rw[if_pos hkd]at gcp
    exact err 20 (by omega) ⟨oI (by omega) gcp,rerr 20 (.inr ⟨hpar,.inr (.inl ⟨hkd.1,htr2.2 ⟨hkd.2.1,hkd.2.2.1⟩,hkd.2.2.2,rfl⟩)⟩)⟩
   ·rw[if_neg hkd]at gcp
    have hkk:¬(K=2∧tr=true∧T=1):=fun h=>hkd ⟨by omega,(htr2.1 h.2.1).1,(htr2.1 h.2.1).2,h.2.2⟩
    rcases bJq (ho1 ▸ hix1.oM) (ho2 ▸ hix2.oM)with⟨hm,gphi⟩ |⟨⟨c,c13,c4,gphi⟩,e,he,gfl⟩
    ·by_cases hpr:0≤prec∧prec≤1000
     ·obtain⟨P,rfl⟩:∃ P:Nat,prec=P:=⟨prec.toNat,by omega⟩
      obtain⟨T',rfl⟩:∃ T':Nat,T=T':=⟨T.toNat,by omega⟩
      have on1:n1=1→o1=1:=fun e=>by
       have:=hv1 e
       subst e
       subst this
       rw[ho1]
       decide+kernel
      have on2:n2=1→o2=1:=fun e=>by
       have:=hv2 e
       subst e
       subst this
       rw[ho2]
       decide+kernel
      have hi1:n1=1→∀ j,j<60→ixB o1 n1 v1 j=some 0:=fun e j hj=>by
       rw[on1 e,hv1 e,e]
       exact ix1 hj
      have hi2:n2=1→∀ j,j<60→ixB o2 n2 v2 j=some 0:=fun e j hj=>by
       rw[on2 e,hv2 e,e]
       exact ix1 hj
      have hz1:=aDa hm
      obtain⟨_,_,zn1,zn2,_⟩:=hz1
      obtain⟨w,hwb,gP,gR⟩:=bNe (P:=P) (T:=T') h1 h2 hm rfl d1 d2 (by omega) (by omega) (by omega) (by omega) (by omega) hpar (fun h=>hkd ⟨by omega,h.2.1,h.2.2.1,by omega⟩) (by omega) (by omega) (fun e=>by rw[on1 e,Nat.lcm_one_left]) (fun e e'=>⟨by rw[on1 e,on2 e'];rfl,on1 e,on2 e',hi1 e,hi2 e'⟩) gordP gordR gphi gcp
      refine aUt hp (by omega) (by omega) (by omega) (wJ (by omega) (fun j=>(aOq _ _).2.2) (fun j hj=> ?_)) gP gR
      obtain⟨x,L,hR,hL,hx,hq⟩:∃ x L,fS 0 (w j) P= .agg [i64 x,.sl L.length (qc L)]∧L.length≤P∧x=0+((P:Int)-L.length)∧∀ q∈L,lq q≤2000:=by
       obtain⟨q1,_,_⟩:=iM (w j) P
       refine⟨_,aP (fun i=>w j (Go.Num.ordN (w j) P+i)) (P-Go.Num.ordN (w j) P),by rw[iY rfl,eP],by rw[eP];omega,by rw[eP];omega,?_⟩
       intro q hq
       simp only[aP,List.mem_map]at hq
       obtain⟨i,hi,rfl⟩:=hq
       have:=List.mem_range.1 hi
       exact hwb j hj _ (by omega)
      have gs:=aCl x (by omega) L (by omega) (fun q h=>Nat.le_trans (hq q h) (by omega))
      rw[← hR,aCc]at gs
      exact gs
     ·exact err 2 (by omega) ⟨aXy hpr rp gcp gordP (oE hm),rerr 2 (.inr ⟨hpar,.inr (.inr ⟨by omega,by omega,hkk,_,gphi,by obtain⟨_,_,_,z,_⟩:=aDa hm;omega,.inr ⟨by obtain⟨_,_,_,z,_⟩:=aDa hm;omega,by omega,rfl⟩⟩)⟩)⟩
    ·exact err 7 (by omega) ⟨aRs he gcp gordP gfl,rerr 7 (.inr ⟨hpar,.inr (.inr ⟨by omega,by omega,hkk,c,gphi,c4,.inl ⟨c13,rfl⟩⟩)⟩)⟩
 ·rw[if_neg hpar]at gcp
  exact err 16 (by omega) ⟨oI (by omega) gcp,rerr 16 (.inl ⟨by cases h:(b1==b2) <;>cases h':decide (K % 2=0) <;>simp_all,rfl⟩)⟩
end
section
open Go Go.Lg Go.ChangeShapes Go.WideShapes Go.ChangeAt Go.RowKit
theorem bEl:Tryz.prog.cellsOf 25=2:=by kernel_rfl
theorem aR0:Tryz.prog.cellsOf 3=1:=by kernel_rfl
theorem bEm:Tryz.prog.cellsOf 23=1:=by kernel_rfl
theorem bEn:Tryz.prog.cellTypes Tryz.prog.depth 25=some [3,23]:=by kernel_rfl
theorem bEo {W:World}{a:Addr}{len cap:Nat}{zs:List Int}(hs:a.spot=none) (hl:len≤zs.length) (hc:len≤cap) (hm:cap≤maxLen) (hcell:∀ i,i<zs.length→W.cell? (a.add i)=some (.int .i64 (zs.getD i 0))):
  Rep (fun g=>g<W.heap.size) W.heap (fun _=>none) (.sl (zs.take len).length (ec (zs.take len))) (.slice (some a) len cap):=by
 have e:(zs.take len).length=len:=by rw[List.length_take,Nat.min_eq_left hl]
 rw[e]
 refine Rep.sl (us:=(zs.take len).map fun z=>Value.int .i64 z) hc hm hs (by simp[ec]) ?_ ?_ ?_
 ·intro j u hu
  rw[List.getElem?_map]at hu
  obtain⟨z,hz,rfl⟩:=Option.map_eq_some_iff.1 hu
  have hj:j<(zs.take len).length:=(List.getElem?_eq_some_iff.1 hz).1
  have hj2:j<zs.length:=by rw[e]at hj;omega
  have hzj:zs.getD j 0=z:=by
   rw[List.getElem?_take,if_pos (by rw[e]at hj;exact hj)]at hz
   simp[List.getD,hz]
  have h:=hcell j hj2
  rw[jD W a hs j,hzj]at h
  refine⟨?_,h⟩
  unfold cellAt at h
  cases hh:W.heap[a.block]? with
  |none=>rw[hh]at h;cases h
  |some o=>exact(Array.getElem?_eq_some_iff.1 hh).1
 ·intro u hu
  obtain⟨z,_,rfl⟩:=List.mem_map.1 hu
  rfl
 ·intro j c u hc hu
  rw[ec,List.getElem?_map]at hc
  rw[List.getElem?_map]at hu
  obtain⟨z,hz,rfl⟩:=Option.map_eq_some_iff.1 hc
  rw[hz]at hu
  cases hu
  exact .lit _
theorem aOr {H:Type}{enc:TypeId×Value→H}{W:World}{b0:Nat}{v:Value}{d:DataW H}{ps:List MemPlace}(hval:Value.okWide Tryz.prog W .any b0 25 v) (hd:DataW.Trod enc Tryz.prog W 0 (fun _=>true) true 25 v d ps):
  ∃ (lv:Int) (xs:List Int),(Lit.int .i64 lv).wf=true∧Rep (fun g=>g<W.heap.size) W.heap (fun _=>none) (.agg [.lit (.int .i64 lv), .sl xs.length (ec xs)]) v∧
    ∀ W':World,(∀ i,i<W.heap.size→W'.heap[i]? =W.heap[i]?)→∃ ps',DataW.Trod enc Tryz.prog W' 0 (fun b=>decide (b<W.heap.size)) true 25 v d ps':=by
 simp only[Value.okWide,Tryz.underlying25]at hval
 obtain⟨cs,rfl,h2,ts,hts,_,hrow⟩:=hval
 rw[bEn]at hts
 cases hts
 rw[bEl]at h2
 obtain⟨fuel,hf⟩:=hd
 obtain⟨y0,y1,n,hx,hlen,e0,e1⟩:=trod_struct2 Tryz.underlying25 hf
 have hc0:(Value.agg cs).cells=cs:=rfl
 rw[hc0]at e0 e1 hlen
 obtain⟨c0,c1,hcs⟩:∃ c0 c1,cs= #[c0,c1]:=by
  obtain⟨l⟩:=cs
  match l,h2 with
  |[c0,c1],_=>exact⟨c0,c1,rfl⟩
 subst hcs
 simp only[aR0,bEm,List.drop_zero,List.drop_succ_cons,List.take_succ_cons,List.take_zero]at e0 e1
 obtain⟨lv,a1,rfl,hw⟩:=DataW.trod_int Tryz.underlying3 e0
 simp only[List.cons.injEq,and_true]at a1
 subst a1
 have r1:=hrow 1 c1 rfl
 obtain⟨u,hu,hcell⟩:=r1
 simp only[List.length_cons,List.length_nil,Nat.reduceAdd,Nat.reduceMod,List.getElem?_cons_succ,List.getElem?_cons_zero,Option.some.injEq]at hu
 subst hu
 obtain⟨hx1,hx2⟩:=Prod.mk.inj hx
 rcases open_ints Tryz.underlying23 Tryz.underlying3 aR0 e1 with⟨b1,rfl⟩ |⟨a,len,cap,zs,b1,hb,hl,hm,hz,rfl,hcl,hwf⟩
 ·simp only[List.cons.injEq,and_true]at b1
  subst b1
  refine⟨lv,[],hw,?_,fun W' _=>⟨ps,2,?_⟩⟩
  ·refine Rep.agg (us:=[.int .i64 lv,.slice none 0 0]) rfl (by simp[Value.oneCell']) ?_
   intro j c u hc hu
   match j with
   |0=>simp at hc hu;subst hc;subst hu;exact .lit _
   |1=>simp at hc hu;subst hc;subst hu;exact .snil
   |j+2=>simp at hc
  ·rw[hx1,hx2]
   refine trod_struct2_mk (y0:=(.lit (.int .i64 lv),[])) (y1:=(.nil,[])) Tryz.underlying25 hlen ?_ ?_
   ·rw[hc0]
    simp only[aR0,List.drop_zero,List.take_succ_cons,List.take_zero]
    exact trod_int_mk 0 Tryz.underlying3 hw
   ·rw[hc0]
    simp only[bEm,List.drop_zero,List.drop_succ_cons,List.take_succ_cons,List.take_zero]
    simp[DataW.trod,Tryz.underlying23]
 ·simp only[List.cons.injEq,and_true]at b1
  subst b1
  simp only[if_true]at hz
  have hspot:a.spot=none:=by
   simp only[Cell.okWide,Cell.ok,Tryz.underlying23]at hcell
   exact hcell.2.2.2.1
  refine⟨lv,zs.take len,hw,?_,fun W' hk=>⟨ps,3,?_⟩⟩
  ·refine Rep.agg (us:=[.int .i64 lv,.slice (some a) len cap]) rfl (by simp[Value.oneCell']) ?_
   intro j c u hc hu
   match j with
   |0=>simp at hc hu;subst hc;subst hu;exact .lit _
   |1=>simp at hc hu;subst hc;subst hu;exact(by simpa using bEo hspot (by omega) hl hm hcl)
   |j+2=>simp at hc
  ·rw[hx1,hx2]
   have hblk:∀ i,i<zs.length→a.block<W.heap.size:=fun i hi=>by
    have h:=hcl i hi
    rw[jD W a hspot i]at h
    unfold cellAt at h
    cases hh:W.heap[a.block]? with
    |none=>rw[hh]at h;cases h
    |some o=>exact(Array.getElem?_eq_some_iff.1 hh).1
   refine trod_struct2_mk (y0:=(.lit (.int .i64 lv),[])) (y1:=(.slice (lits .i64 (zs.take len)) (lits .i64 (zs.drop len)),MemPlace.row a zs.length)) Tryz.underlying25 hlen ?_ ?_
   ·rw[hc0]
    simp only[aR0,List.drop_zero,List.take_succ_cons,List.take_zero]
    exact trod_int_mk 1 Tryz.underlying3 hw
   ·rw[hc0]
    simp only[bEm,List.drop_zero,List.drop_succ_cons,List.take_succ_cons,List.take_zero]
    refine shut_ints 0 Tryz.underlying23 Tryz.underlying3 aR0 hb hl hm ?_ (fun i hi=> ?_) hwf
    ·by_cases hbs:a.block<W.heap.size
     ·simp[hbs,hz]
     ·have:zs.length=0:=by
       rcases Nat.eq_zero_or_pos zs.length with h |h
       ·exact h
       ·exact absurd (hblk 0 h) hbs
      simp[hbs];omega
    ·rw[jD W' a hspot i,lG (hk _ (hblk i hi)),← jD W a hspot i]
     exact hcl i hi
end
section
open Go Go.Lg Go.ChangeShapes Go.WideShapes Go.ChangeAt Go.RowKit
theorem bOo:Tryz.prog.cellsOf 58=5:=by kernel_rfl
theorem bW7:Tryz.prog.cellTypes Tryz.prog.depth 58=some [3,23,3,23,3]:=by kernel_rfl
theorem aUu {St:Nat→Prop}{hp:Array Obj}{μ:Nat→Option (Nat×Nat)}{x y:LV}{u v:Value}(h:Rep St hp μ (.agg [x,y]) (.agg #[u,v])):Rep St hp μ x u∧Rep St hp μ y v∧u.oneCell'=true∧v.oneCell'=true:=by
 generalize hw:Value.agg #[u,v]=w at h
 cases h with
 |agg hl h1 hr=>
  rename_i us
  injection hw with hw
  have e:us=[u,v]:=by
    have:=congrArg Array.toList hw
    simpa using this.symm
  subst e
  exact⟨hr 0 _ _ rfl rfl,hr 1 _ _ rfl rfl,h1 _ (by simp),h1 _ (by simp)⟩
theorem aX2 {H:Type}{enc:TypeId×Value→H}{W:World}{b0:Nat}{v:Value}{d:DataW H}{ps:List MemPlace}(hval:Value.okWide Tryz.prog W .any b0 58 v) (hd:DataW.Trod enc Tryz.prog W 0 (fun _=>true) true 58 v d ps):
  ∃ (a:Int) (xs:List Int) (b:Int) (ys:List Int) (t:Int),(Lit.int .i64 a).wf=true∧(Lit.int .i64 b).wf=true∧(Lit.int .i64 t).wf=true∧Rep (fun g=>g<W.heap.size) W.heap (fun _=>none) (.agg [.lit (.int .i64 a), .sl xs.length (ec xs), .lit (.int .i64 b), .sl ys.length (ec ys), .lit (.int .i64 t)]) v∧
    ∀ W':World,(∀ i,i<W.heap.size→W'.heap[i]? =W.heap[i]?)→∃ ps',DataW.Trod enc Tryz.prog W' 0 (fun b=>decide (b<W.heap.size)) true 58 v d ps':=by
 simp only[Value.okWide,Tryz.underlying58]at hval
 obtain⟨cs,rfl,h2,ts,hts,_,hrow⟩:=hval
 rw[bW7]at hts
 cases hts
 rw[bOo]at h2
 obtain⟨fuel,hf⟩:=hd
 obtain⟨xs,n,rfl,hx,hlen,hn,hel⟩:=DataW.trod_struct Tryz.underlying58 hf
 obtain⟨l⟩:=cs
 match l,h2 with
 |[c0,c1,c2,c3,c4],_=>
  match xs,hn with
  |[x0,x1,x2],_=>
   have e0:DataW.trod enc Tryz.prog W 0 (fun _=>true) true n 25 (([c0,c1,c2,c3,c4].drop 0).take (Tryz.prog.cellsOf 25))=some x0:=hel 0 _ rfl
   have e1:DataW.trod enc Tryz.prog W 0 (fun _=>true) true n 25 (([c0,c1,c2,c3,c4].drop 2).take (Tryz.prog.cellsOf 25))=some x1:=hel 1 _ rfl
   have e2:DataW.trod enc Tryz.prog W 0 (fun _=>true) true n 3 (([c0,c1,c2,c3,c4].drop 4).take (Tryz.prog.cellsOf 3))=some x2:=hel 2 _ rfl
   simp only[bEl,aR0,List.drop_zero,List.drop_succ_cons,List.take_succ_cons,List.take_zero]at e0 e1 e2
   have v0:Value.okWide Tryz.prog W .any b0 25 (.agg #[c0,c1]):=by
     simp only[Value.okWide,Tryz.underlying25]
     refine⟨#[c0,c1],rfl,by rw[bEl];rfl,_,bEn,⟨1,rfl⟩,fun i v hv=> ?_⟩
     match i with
     |0=>simp at hv;subst hv;exact hrow 0 c0 rfl
     |1=>simp at hv;subst hv;exact hrow 1 c1 rfl
     |i+2=>simp at hv
   have v1:Value.okWide Tryz.prog W .any b0 25 (.agg #[c2,c3]):=by
     simp only[Value.okWide,Tryz.underlying25]
     refine⟨#[c2,c3],rfl,by rw[bEl];rfl,_,bEn,⟨1,rfl⟩,fun i v hv=> ?_⟩
     match i with
     |0=>simp at hv;subst hv;exact hrow 2 c2 rfl
     |1=>simp at hv;subst hv;exact hrow 3 c3 rfl
     |i+2=>simp at hv
   obtain⟨a,xs,w0,r0,k0⟩:=aOr (d:=x0.1) (ps:=x0.2) v0 ⟨n,e0⟩
   obtain⟨b,ys,w1,r1,k1⟩:=aOr (d:=x1.1) (ps:=x1.2) v1 ⟨n,e1⟩
   obtain⟨t,a2,e3,w2⟩:=DataW.trod_int Tryz.underlying3 e2
   simp only[List.cons.injEq,and_true]at a2
   subst a2
   obtain⟨p0,p1,q0,q1⟩:=aUu r0
   obtain⟨p2,p3,q2,q3⟩:=aUu r1
   obtain⟨hx1,hx2⟩:=Prod.mk.inj hx
   refine⟨a,xs,b,ys,t,w0,w1,w2,?_,fun W' hk=> ?_⟩
   · refine Rep.agg (us:=[c0,c1,c2,c3, .int .i64 t]) rfl (fun v hv=>by
       simp only[List.mem_cons,List.not_mem_nil,or_false]at hv
       rcases hv with rfl |rfl |rfl |rfl |rfl
       · exact q0
       · exact q1
       · exact q2
       · exact q3
       · rfl) ?_
     intro j c u hc hu
     match j with
     |0=>simp at hc hu;subst hc;subst hu;exact p0
     |1=>simp at hc hu;subst hc;subst hu;exact p1
     |2=>simp at hc hu;subst hc;subst hu;exact p2
     |3=>simp at hc hu;subst hc;subst hu;exact p3
     |4=>simp at hc hu;subst hc;subst hu;exact .lit _
     |j+5=>simp at hc
   · obtain⟨s0,f0,g0⟩:=k0 W' hk
     obtain⟨s1,f1,g1⟩:=k1 W' hk
     have m0:=DataW.trod_le (show f0≤f0+f1+1 by omega) g0
     have m1:=DataW.trod_le (show f1≤f0+f1+1 by omega) g1
     have m2:=trod_int_mk (enc:=enc) (w:=W') (base:=0) (spare:=fun b=>decide (b<W.heap.size)) (held:=true) (f0+f1) Tryz.underlying3 w2
     refine⟨s0++(s1++[]),f0+f1+2,?_⟩
     have:=trod_struct_mk (enc:=enc) (w:=W') (base:=0) (spare:=fun b=>decide (b<W.heap.size)) (held:=true) (n:=f0+f1+1) (cs:=[c0,c1,c2,c3,.int .i64 t]) (xs:=[(x0.1,s0),(x1.1,s1),(.lit (.int .i64 t),[])]) Tryz.underlying58 (by rw[bOo];rfl) (by
       simp only[List.mapM_cons,List.mapM_nil,bEl,aR0,List.drop_zero,List.drop_succ_cons,List.take_succ_cons,List.take_zero]
       have m0':DataW.trod enc Tryz.prog W' 0 (fun b=>decide (b<W.heap.size)) true (f0+f1+1) 25 [c0,c1]=some (x0.1,s0):=m0
       have m1':DataW.trod enc Tryz.prog W' 0 (fun b=>decide (b<W.heap.size)) true (f0+f1+1) 25 [c2,c3]=some (x1.1,s1):=m1
       rw[m0',m1',m2]
       rfl)
     rw[hx1]
     subst e3
     exact this
end
end Go.Proofs.YtaidcaemdkncgaaGreatDoor
