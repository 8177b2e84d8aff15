/- Contracts of functions of the program, and what proves them (texts: DMk DMc EQp DMp DML). -/
import Derived.KernelRfl
import Derived.Test.YtaidcaemdkncgaaGreatDoorZSAR
import Derived.Test.YtaidcaemdkncgaaGreatDoorZSBI
import Derived.Test.YtaidcaemdkncgaaGreatDoorZSBJ
import Derived.Test.YtaidcaemdkncgaaGreatDoorZSBM
import Derived.Test.YtaidcaemdkncgaaGreatDoorZSFinDimensionAB
import Derived.Test.YtaidcaemdkncgaaGreatDoorZSFinDimensionAC
import Derived.Test.YtaidcaemdkncgaaGreatDoorZSFinDimensionAD
import Derived.Test.YtaidcaemdkncgaaGreatDoorZSFinDimensionAE
import Derived.Test.YtaidcaemdkncgaaGreatDoorZSFinDimensionAF
import Derived.Test.YtaidcaemdkncgaaGreatDoorZSFinDimensionAG
import Derived.Test.YtaidcaemdkncgaaGreatDoorZSFinDimensionAH
import Derived.Test.YtaidcaemdkncgaaGreatDoorZSFinDimensionAI
set_option linter.all false
set_option maxRecDepth 100000
set_option maxHeartbeats 8000000
namespace Go.Proofs.YtaidcaemdkncgaaGreatDoor
section
open Go Go.Lg Go.Num
def qLa:List (List (Nat×Int)):=[[(2,1),(5,5),(15,-3),(17,1),(18,1),(21,-3),(24,-4),(26,13),(27,1),(32,1),(33,33),(36,-3),(36,12),(38,-19),(41,1),(42,-7),(45,5),(47,1),(48,-3),(48,8),(54,-3),(56,-8),(60,5)],[(10,1),(11,-11),(12,-4),(12,12),(20,-4),(20,5),(23,1),(24,-3),(26,1),(28,1),(30,-15),(32,8),(34,1),(36,-4),(40,1),(44,44),(48,12),(50,1),(52,-4),(55,-11),(55,1),(60,-3),(60,12)],[(3,1),(12,1),(15,-15),(16,-8),(17,17),(20,1),(21,21),(24,-24),(24,24),(28,-7),(29,29),(30,5),(33,-3),(35,5),(39,-3),(42,21),(44,-11),(48,-8),(48,24),(56,-56),(56,1),(57,-3),(60,60)],[(3,-3),(9,-3),(10,5),(14,-7),(15,1),(16,8),(18,-3),(20,-20),(24,8),(32,-4),(33,1),(34,17),(35,-35),(37,1),(38,1),(40,-20),(41,41),(45,-3),(46,-23),(49,1),(50,5),(58,1),(58,29),(60,-15)],[(4,-4),(7,1),(8,-4),(8,8),(13,1),(13,13),(16,-4),(16,1),(25,1),(30,1),(33,-11),(35,1),(39,1),(40,-4),(40,5),(42,1),(44,-4),(46,1),(51,-3),(51,17),(52,1),(56,-7),(57,57),(59,1)],[(6,-3),(6,1),(8,-8),(8,1),(15,5),(19,1),(22,-11),(22,1),(24,-8),(28,-4),(37,37),(42,-3),(43,-43),(48,-4),(48,1),(51,-51),(51,1),(52,-52),(55,5),(56,-4),(56,8),(59,-59),(60,-20),(60,1)],[(1,1),(5,1),(7,-7),(9,1),(11,1),(23,-23),(24,12),(25,5),(30,-3),(31,-31),(35,-7),(39,-39),(40,-40),(40,40),(43,1),(44,1),(45,-15),(47,-47),(49,-7),(53,53),(54,1),(56,28),(57,-19),(57,1)],[(4,1),(12,-3),(14,1),(19,-19),(21,-7),(21,1),(24,1),(27,-3),(28,28),(29,1),(31,1),(32,-8),(36,1),(39,13),(40,-8),(40,8),(45,1),(48,-24),(52,13),(53,1),(55,-55),(56,56),(60,-4)]]
theorem bMz:∀ l∈qLa,∀ p∈l,qA p.1 p.2∧(0<p.2→qB p.1 p.2):=by
 have k:∀ {a b:List (Nat×Int)},(∀ p∈a,qA p.1 p.2)→(∀ p∈b,qB p.1 p.2)→(a.all fun p=> !(decide (0<p.2)) ||b.contains p)=true→∀ p∈a,qA p.1 p.2∧(0<p.2→qB p.1 p.2):=fun h1 h2 h3 p hp=>⟨h1 p hp,fun h=>h2 p (by
  have:=List.all_eq_true.1 h3 p hp;rw[decide_eq_true h]at this
  simpa using this)⟩
 intro l hl;simp only[qLa,List.mem_cons,List.not_mem_nil,or_false]at hl;rcases hl with rfl |rfl |rfl |rfl |rfl |rfl |rfl |rfl
 ·exact k cMq cMr (by decide+kernel)
 ·exact k cMs cMt (by decide+kernel)
 ·exact k cMu cMv (by decide+kernel)
 ·exact k cMw cMx (by decide+kernel)
 ·exact k cMy cMz (by decide+kernel)
 ·exact k cM0 cM1 (by decide+kernel)
 ·exact k cM2 cM3 (by decide+kernel)
 ·exact k cM4 cM5 (by decide+kernel)
theorem bM0:(fdL.all fun d=>(List.range' 1 60).all fun L=> !(decide ((L:Int) % d=0)) ||qLa.any fun l=>l.contains (L,d))=true:=by decide+kernel
theorem cH7 {L:Nat}{d:Int}(h1:1≤L) (h2:L≤60) (hd:d∈fdL) (h:(L:Int) % d=0):qA L d∧(0<d→qB L d):=by
 have g:=List.all_eq_true.1 (List.all_eq_true.1 bM0 d hd) L (by rw[List.mem_range'_1];omega);rw[decide_eq_true h,Bool.not_true,Bool.false_or]at g
 obtain⟨l,hl,hp⟩:=List.any_eq_true.1 g;exact bMz l hl (L,d) (List.contains_iff_mem.1 hp)
end
section
open Go Go.Lg Go.Num
attribute [local irreducible] lrun lwp exThen exBlk keep goodPost sg mg oc op fJ
theorem bHk (b:Nat→Rat) {m n:Nat}(h:m≤n):(qc (aP b n)).take (m*4)=qc (aP b m):=by
 have e:=rN (aP b n) m;rw[e];congr 1;unfold aP;rw[← List.map_take,List.take_range,Nat.min_eq_left h]
theorem bAm (x:Int) (M:Nat) (cs:List LV) (h1: -100≤x) (h2:x+M≤1000):PGd 206 [.agg [i64 x,.sl M cs]] (i64 (x+M)):=by
 simp only[i64,bl];refine aA aV Tryz.func206 rfl (by decide) (nt:=9) rfl (rs:=[.tmp 2]) rfl (aW rfl) ?_;refine dP ?_;exact lU
theorem bAn (c:Nat→Rat) (N p:Nat) (hp:p<N) (hN:N≤1000) (ba:∀ i,i<N→lq (c i)≤1000):PGd 36 [fJ 0 c N,i64 p] (.tup [fJ 0 c p,i64 0]):=by
 obtain⟨ho,hz,hnz⟩:=gU c N;rw[iX (a:=c) (N:=N) rfl,Int.zero_add];generalize Go.Num.ordN c N=o at*;have hoM:o+(N-o)=N:=by omega
 generalize N-o=M at*;have g1:=aG6 o M (qc (aP (fun i=>c (o+i)) M)) (by omega) (by omega);have g4:=bAm o M (qc (aP (fun i=>c (o+i)) M)) (by omega) (by omega);rw[show(o:Int)+M=((N:Nat):Int)by omega]at g4
 have hl:=eC (fun i=>c (o+i)) M
 have key:PGd 112 [.agg [i64 o,.sl M (qc (aP (fun i=>c (o+i)) M))],i64 p] (fJ 0 c p):=by
  by_cases hpo:p≤o
  ·rw[aCh (fun j hj=>hz j (by omega)),Int.zero_add];simp only[i64,bl]at*;refine aA aV Tryz.func112 rfl (by decide) (nt:=30) rfl (rs:=[.cell 4 80]) rfl (aW rfl) ?_;refine dP ?_;exact lU
  ·have gR:=aP9 o (fun i=>some (c (o+i))) (fun i=>c (o+i)) (p-o) (fun i hi=>rfl) (by omega) (by omega) (fun i hi=>ba _ (by omega));rw[aJy]at gR
   have hsh:=oX (h:=0) (a:=c) (N:=p) (f:=o) (by omega) hz;rw[Int.zero_add]at hsh
   rw[hsh];obtain⟨x,MR,LR,hR,hLM,hM,hx⟩:=dN o (fun i=>c (o+i)) (p-o);rw[hR]at gR⊢
   clear hR hsh;have hpm:p-o≤M:=by omega
   have htk:=bHk (fun i=>c (o+i)) hpm;have hcn:((p:Int)-(o:Int)).toNat=p-o:=by omega
   have hlq:=eC (fun i=>c (o+i)) (p-o);generalize hq:p-o=q at*;simp only[i64,bl]at g1 g4 gR⊢;refine aA aV Tryz.func112 rfl (by decide) (nt:=30) rfl (rs:=[.cell 4 80]) rfl (aW rfl) ?_;refine cZ (nd htk hcn) ?_;exact aKn (nd htk hcn)
 obtain⟨x,MR,LR,hR,hLM,hM,hx⟩:=dN 0 c p;rw[hR]at key⊢
 clear hR;simp only[i64,bl]at*;refine aA aV Tryz.func36 rfl (by decide) (nt:=17) rfl (rs:=[.cell 4 80,.tmp 5]) rfl (aW rfl) ?_;refine dP ?_;exact lU
end
section
open Go Go.Lg Go.Num
theorem aHh:(pF.all fun m=>Nat.ble (phK m) 12)=true:=by kernel_rfl
theorem aMv:(List.range 60).all (fun j=>match ixB 1 1 [] j with
 |some 0=>true
 |_=>false)=true:=by kernel_rfl
theorem ix1 {j:Nat}(hj:j<60):ixB 1 1 [] j=some 0:=by
 have h:=List.all_eq_true.1 aMv j (List.mem_range.2 hj);split at h
 ·rename_i e;exact e
 ·cases h
theorem zI1:zI 1 0=[1]:=by decide+kernel
theorem aXi {v:List Nat}(h:v∈gE (od 1)):v=[]:=by
 have e:gE (od 1)=[[]]:=by decide+kernel
 rw[e]at h
 simpa using h
section
variable {n1 o1 c1 n2 o2 c2:Nat}{v1 v2:List Int}{b1 b2:Bool}{ix1 ix2:Nat→Option Nat}{m n k:Nat}
theorem rU {te:Nat→Option Nat}{z:Nat→List Int}{p:Nat→Int}{j e:Nat}(h:te 0=some e) (hj:j<(z e).length):∀ D,∃ q,ocD te z p j (D+1)=some q
 |0=>⟨_,by rw[kH h,if_pos hj]⟩
 |D+1=>by
  obtain⟨q,hq⟩:=rU (p:=p) h hj D
  cases ht:te (D+1)with
  |none=>exact⟨q,by rw[aA0 ht,hq]⟩
  |some e'=>
   by_cases c:j<(z e').length
   · exact⟨_,by rw[kH ht,if_pos c]⟩
   · exact⟨q,by rw[kH ht,if_neg c,hq]⟩
def c0V:Rat:=0+trN 2 1 0*1
theorem aHi:c0V≠0∧lq c0V≤30:=by decide+kernel
theorem aA2 {ix:Nat→Option Nat}(h:ix 0=some 0):(uB ix 2 1 1 1 1 1).getD 0 0=c0V:=by
 unfold uB;rw[h];simp only;rw[fC (by rw[nE,iO]),oW (by omega),Nat.zero_mul,zI1];unfold uB c0V;simp
def wQ (ix1 ix2:Nat→Option Nat) (k m o1 o2 n n1 n2 T j:Nat):Nat→Rat:=if(decide (k=2) && decide (n1=1) && decide (n2=1))=true then dfT (fun l=>yU ix1 ix2 k m o1 o2 n n1 n2 l j) T else pG (fun l=>yU ix1 ix2 k m o1 o2 n n1 n2 l j) T
theorem bM1 {P T:Nat}(h1:SeD n1 v1 o1 c1 b1 ix1) (h2:SeD n2 v2 o2 c2 b2 ix2) (hm:m∈pF) (hn:n=(dJ m).length-1) (hm1:m % o1=0) (hm2:m % o2=0) (k1:2≤k) (k2:k≤40) (hP:P≤16) (T1:1≤T) (T2:T≤1000)
  (hk:¬(k=2∧n1=1∧n2=1∧T=1)) (hc2:c2=n2) (ho1:n1=1→m=o2) (hone:n1=1→n2=1→m=1∧o1=1∧o2=1∧(∀ j,j<60→ix1 j=some 0)∧∀ j,j<60→ix2 j=some 0)
  (gordP:PGd 82 [.agg [i64 n1,.sl v1.length (ec v1)],.agg [i64 n2,.sl v2.length (ec v2)]] (i64 m))
  (gchk:PGd 81 [i64 k,.agg [i64 n1,.sl v1.length (ec v1),i64 n2,.sl v2.length (ec v2),i64 T]] (i64 0)):
  (∀ j,j<n→∀ i,i<P→lq (wQ ix1 ix2 k m o1 o2 n n1 n2 T j i)≤1000)∧PGd 26 [i64 k,.agg [i64 n1,.sl v1.length (ec v1),i64 n2,.sl v2.length (ec v2),i64 T],i64 P] (.tup [.sl n (sC (fun j=>sS (wQ ix1 ix2 k m o1 o2 n n1 n2 T j) P) n),i64 0]):=by
 have hZ:=aEi hm;rw[← hn]at hZ
 have hZ':=hZ;obtain⟨m1,m2,nn1,nn2,_,_,hzl,hzs⟩:=hZ';have f1:=h2.n1;have f2:=h2.n2;have hbd:∀ j,j<n→∀ l,l<P→lq (yU ix1 ix2 k m o1 o2 n n1 n2 l j)≤410:=fun j hj l hl=>aXb h2 hZ hm2 k1 k2 (by omega) hj
 obtain⟨both,hb⟩:∃ both,both=(decide (k=2) && decide (n1=1) && decide (n2=1)):=⟨_,rfl⟩
 have hbt:both=true→k=2∧n1=1∧n2=1:=fun h=>by
  rw[h]at hb
  have:=hb.symm;simp only[Bool.and_eq_true,decide_eq_true_eq]at this;exact⟨this.1.1,this.1.2,this.2⟩
 obtain⟨a,ha⟩:∃ a:Nat→Nat→Rat,a=fun j l=>yU ix1 ix2 k m o1 o2 n n1 n2 l j:=⟨_,rfl⟩
 obtain⟨w,hw⟩:∃ w:Nat→Nat→Rat,w=fun j=>if both then dfT (a j) T else pG (a j) T:=⟨_,rfl⟩
 have hwq:wQ ix1 ix2 k m o1 o2 n n1 n2 T=w:=by rw[hw,ha,hb];rfl
 rw[hwq]
 have hixm:n1=1→∀ A j,A<n2→ix2 A=some j→j<m:=fun e A j hA hj=>by
  have:=(h2.yes A j (by omega) hj).1;rw[ho1 e];exact this
 obtain⟨R,hR⟩:∃ R,R=if n1=1 then nD (rz (dJ m)) (bQ (uA ix2 k n2 m n2))else[]:=⟨_,rfl⟩;have hRe:n1=1→R=nD (rz (dJ m)) (bQ (uA ix2 k n2 m n2)):=fun e=>by rw[hR,if_pos e]
 have hRn:R.length≤n:=by
  by_cases e:n1=1
  ·rw[hRe e];exact aXc hm hzl (hixm e)
  ·rw[hR,if_neg e];exact Nat.zero_le _
 have hRq:∀ j,lq (R.getD j 0)≤1000:=by
  intro j;by_cases e:n1=1
  ·obtain⟨c1,c2,c3,c4⟩:=tT hm;have hl2:=rP (uA ix2 k n2 m n2);rw[gY]at hl2
   rw[hRe e];refine sZ (aGx c1 (L:=260) (fun j=> ?_) j) (sX f1) (oT k2 f2) (by omega);rw[iN];exact aL1 (ix:=ix2) (k:=k) (f:=n2) (o:=m) (j:=n2) k2 f1 f2 (Nat.le_refl _) j
  ·rw[hR,if_neg e,show([]:List Rat).getD j 0=0 from rfl];decide+kernel
 have hRv:n1=1→∀ j,j<n→R.getD j 0 / (((-2*(k:Int):Int)):Rat)=(uB ix2 k n2 m o2 n n2).getD j 0:=fun e j hj=>by
  rw[← aQm (by omega),hRe e];have:=aQl (k:=k) (f:=n2) (n:=n) hm (hixm e) hj;rw[this,ho1 e]
 have gC:n1=1→PGd 17 [i64 k,.agg [i64 n2,.sl v2.length (ec v2)]] (.tup [.sl R.length (qc R),i64 m,i64 0]):=fun e=>by
  have ho:=ho1 e;have hph:=List.all_eq_true.1 aHh m hm;rw[Nat.ble_eq,aSz]at hph
  have hc:ChD n2 v2 m n2 v2 ix2:=by
   have p:=h2.pr hc2;have q:=h2.orP;rw[← ho]at q
   refine⟨m1,by omega,f1,f2,q,p,fun j hj hi=>(h2.no j (by omega) hi).1,fun j i hj hi=> ?_⟩;obtain⟨h1,a,d,d1,d2,a2,hd,hai,g1,g2⟩:=h2.yes j i (by omega) hi;rw[← ho]at h1 hai
   exact⟨h1,a,d,d1,d2,a2,hai,g1⟩
  have g:=(aAo (k:=k) (by omega) k2 ⟨f1,f2,h2.lw,hm,hph⟩ hc).1;rw[← hRe e,bE]at g
  exact g
 obtain⟨f0,hf0⟩:∃ f0:Nat→Rat,f0=fun j=>R.getD j 0 / (((-2*(k:Int):Int)):Rat):=⟨_,rfl⟩
 obtain⟨o0,ho0⟩:∃ o0:Nat→Option Rat,o0=fun j=>if n1=1 then o0I f0 R.length j else none:=⟨_,rfl⟩
 have hval:∀ j,j<n→∀ l,l<P→(cE o0 (rR ix1 ix2 m o1 o2) (zI m) (kM k) (max P 1) 0 0 j l).getD 0=a j l:=by
  intro j hj l hl;rw[aMs hl,ha];show _=yU ix1 ix2 k m o1 o2 n n1 n2 l j;unfold yU;by_cases h0:l=0
  ·rw[if_pos h0,if_pos h0,ho0];by_cases e:n1=1
   ·simp only[if_pos e];rw[← hRv e j hj];have hx:∀ j,f0 j=R.getD j 0*(((-2*(k:Int):Int)):Rat)⁻¹:=fun j=>by rw[hf0];exact Rat.div_def _ _
    rw[bG6 hx,Rat.div_def]
   ·simp only[if_neg e];rfl
  ·rw[if_neg h0,if_neg h0];exact aEe hj l
 have hsm:both=true→∀ j,j<n→∀ l,l<P→lq (yU ix1 ix2 k m o1 o2 n n1 n2 l j)≤100:=by
  intro hbb j hj l hl;obtain⟨e1,e2,e3⟩:=hbt hbb;obtain⟨x1,x2,x3,x4,x5⟩:=hone e2 e3;by_cases h0:l=0
  ·unfold yU;rw[if_pos h0,if_pos e2]
   have hn1:n=1:=by
    rw[hn,x1];decide+kernel
   obtain rfl:j=0:=by omega
   rw[e1,e3,x1,x3,hn1,aA2 (x5 0 (by omega))];have:=aHi.2;omega
  ·unfold yU;rw[if_neg h0];have:=(aEb (te:=rR ix1 ix2 m o1 o2 l) (n:=n) k2 hzs (fun D e h=>aG5 m1 h) l (by omega) j hj).lq (K:=1) (by decide) (by decide+kernel);omega
 have hpt:P≤T*P:=Nat.le_mul_of_pos_left P (by omega)
 have hwb:∀ j,j<n→∀ i,i<P→lq (w j i)≤1000:=by
  intro j hj i hi;have b0:∀ i,i<P→lq (a j i)≤410:=fun i hi=>by rw[ha];exact hbd j hj i hi
  have h2:lq (pG (a j) T i)≤410:=vN b0 (by omega) (by omega:i<T*P);rw[hw];simp only;split
  ·rename_i hbb;have b1:∀ i,i<P→lq (a j i)≤100:=fun i hi=>by rw[ha];exact hsm hbb j hj i hi
   have h2:lq (pG (a j) T i)≤100:=vN b1 (by omega) (by omega:i<T*P);have h1:=b1 i hi;have h3:=jZ ((T:Int):Rat) (pG (a j) T i);have h4:=aF7 (z:=(T:Int)) (by omega);have h5:=bD6 (a j i) (((T:Int):Rat)*pG (a j) T i);unfold dfT;omega
  ·omega
 refine⟨fun j hj i hi=>by have:=hwb j hj i hi;omega,?_⟩;obtain⟨ob,hob⟩:∃ ob:Nat→Nat→Option Rat,ob=fun j l=>cE o0 (rR ix1 ix2 m o1 o2) (zI m) (kM k) (max P 1) 0 0 j l:=⟨_,rfl⟩
 have hcl:∀ j,cL o0 (rR ix1 ix2 m o1 o2) (zI m) (kM k) P (max P 1) 0 0 j=oP (ob j) P:=fun j=>by rw[hob];rfl
 have gF:=oS hm;have hcy:=(tT hm).2.1;rw[show(dJ m).length=n+1 by omega]at gF
 have hfj:∀ j,f0 j=R.getD j 0 / (((-2*(k:Int):Int)):Rat):=fun j=>by rw[hf0]
 have ho0':∀ j,o0 j=if n1=1 then o0I f0 R.length j else none:=fun j=>by rw[ho0]
 cases hbb:both with
 |false=>
  have hwj:∀ j,w j=pG (a j) T:=fun j=>by rw[hw,hbb];simp
  refine wX h1 h2 k1 k2 (by omega) hZ hm1 hm2 T1 T2 gchk gordP gF gC hRn hRq (fun j=>sS (w j) P) (fun j=> .sl P (op (oP (aMl (ob j) T) P))) false (hbb ▸ hb) (fun j=>kN _ _) (fun j=>⟨_,_,rfl⟩) o0 f0 hfj ho0' (fun j hj=> ?_) (fun j hj=> ?_)
  · rw[hcl];exact aDf (ob j) P T (by omega) T1 T2
  · have g:=qE 0 (aMl (ob j) T) (w j) P (fun i hi=>by
      rw[hwj];unfold pG aMl;split
      · have hq:i / T≤i:=Nat.div_le_self _ _;rw[hob,hval j hj (i / T) (by omega)]
      · rfl) (by omega) (by omega) (fun i hi=>by have:=hwb j hj i hi;omega)
    rw[tU]at g
    exact g
 |true=>
  obtain⟨e1,e2,e3⟩:=hbt hbb;obtain⟨x1,x2,x3,x4,x5⟩:=hone e2 e3
  have hn1:n=1:=by
    rw[hn,x1];decide+kernel
  have hwj:∀ j,w j=dfT (a j) T:=fun j=>by rw[hw,hbb];simp
  have hT2:1≤T:=T1
  have hsome:∀ j,j<n→∀ l,l<P→ob j l=some (a j l):=by
    intro j hj l hl;obtain rfl:j=0:=by omega
    have hv:=hval 0 hj l hl
    have hne:∃ q,ob 0 l=some q:=by
      rw[hob];simp only;rw[aMs hl];by_cases h0:l=0
      · rw[if_pos h0,ho0];simp only[if_pos e2];have h3:=hRv e2 0 hj;rw[e1,e3,x1,x3,hn1,aA2 (x5 0 (by omega))]at h3
        have hR0:0<R.length:=by
          rcases Nat.eq_zero_or_pos R.length with h |h
          · have:R=[]:=List.eq_nil_of_length_eq_zero h;rw[this]at h3
            exact absurd (h3.symm.trans (by rw[Rat.div_def];exact Rat.zero_mul _)) aHi.1
          · exact h
        exact⟨_,by unfold o0I;rw[if_pos hR0]⟩
      · rw[if_neg h0];obtain⟨l',rfl⟩:∃ l',l=l'+1:=⟨l-1,by omega⟩
        have ht:rR ix1 ix2 m o1 o2 (l'+1) 0=some 0:=by
          have t3:=(aMm (ix1:=ix1) (ix2:=ix2) (m:=m) (o1:=o1) (o2:=o2) (l:=l'+1) (D:=0) (x:=l') (by omega) (by omega)).2.2 0 0 (x4 l' (by omega)) (x5 0 (by omega));rw[t3,Nat.zero_mul,Nat.zero_mul];first |done |rfl |(congr 1;exact Nat.zero_mod m)
        exact rU ht (by rw[x1,zI1];decide) l'
    obtain⟨q,hq⟩:=hne;have h4:(ob 0 l).getD 0=a 0 l:=by rw[hob];exact hv
    rw[hq]at h4⊢
    rw[← h4];rfl
  have hop:∀ j,j<n→op (oP (ob j) P)=qc (aP (a j) P):=fun j hj=>by
    have:oP (ob j) P=oP (fun i=>some (a j i)) P:=List.map_congr_left (fun l hl=>hsome j hj l (List.mem_range.1 hl));rw[this,aJy]
  have b1:∀ j,j<n→∀ i,i<P→lq (a j i)≤1000:=fun j hj i hi=>by rw[ha];exact Nat.le_trans (hbd j hj i hi) (by omega)
  refine wX h1 h2 k1 k2 (by omega) hZ hm1 hm2 T1 T2 gchk gordP gF gC hRn hRq (fun j=>sS (w j) P) (fun j=> .sl P (qc (aP (w j) P))) true (hbb ▸ hb) (fun j=>kN _ _) (fun j=>⟨_,_,rfl⟩) o0 f0 hfj ho0' (fun j hj=> ?_) (fun j hj=> ?_)
  · rw[hcl,hop j hj];show cU _ _ _ (.sl P (qc (aP (w j) P)));rw[hwj];exact aDc (a j) P T (by omega) T1 T2 (b1 j hj)
  · have g:=qE 0 (fun i=>some (w j i)) (w j) P (fun i hi=>rfl) (by omega) (by omega) (fun i hi=>by have:=hwb j hj i hi;omega);rw[aJy,tU]at g
    exact g
end
end
section
open Go Go.Lg Go.Num
def wP (k:Nat) (p:Pr) (j:Nat):Nat→Rat:=wQ (ixB (ordN p.n1 p.v1) p.n1 p.v1) (ixB (ordN p.n2 p.v2) p.n2 p.v2) k p.m (ordN p.n1 p.v1) (ordN p.n2 p.v2) p.dg p.n1 p.n2 p.t j
theorem aMw {ev two:Bool}{p:Pr}(h:aH8 ev two p=true):((1≤p.n1∧p.n1≤60)∧(1≤p.n2∧p.n2≤60)∧p.v1∈gE (od p.n1)∧p.v2∈gE (od p.n2))∧(coN p.n1 p.v1=p.n1∧coN p.n2 p.v2=p.n2)∧(evN p.n1 p.v1==evN p.n2 p.v2)=ev∧p.m∈pF∧(1≤p.t∧p.t≤60)∧¬(two=true∧p.n1=1∧p.n2=1∧p.t=1):=by
 unfold aH8 at h;simp only[Bool.and_eq_true,Nat.ble_eq,Nat.beq_eq,beq_iff_eq,Bool.not_eq_true',List.contains_iff_mem]at h;obtain⟨⟨⟨⟨⟨⟨⟨⟨h1,h2⟩,h3,h4⟩,h5,h6⟩,h7,h8⟩,h9⟩,ha⟩,hb,hc⟩,hd⟩:=h;refine⟨⟨⟨h1,h2⟩,⟨h3,h4⟩,h5,h6⟩,⟨h7,h8⟩,h9,ha,⟨hb,hc⟩,?_⟩;rintro⟨rfl,e1,e2,e3⟩;simp[e1,e2,e3]at hd
theorem aCl {n:Nat}{v:List Nat}(e:n=1) (h:v∈gE (od n)):ordN n v=1:=by
 subst e;rw[aXi h];decide+kernel
theorem bHl {n:Nat}{v:List Nat}(e:n=1) (h:v∈gE (od n)):∀ j,j<60→ixB (ordN n v) n v j=some 0:=fun j hj=>by
 rw[aCl e h];subst e;rw[aXi h];exact ix1 hj
theorem cH8 {ev two:Bool}{p:Pr}(h:aH8 ev two p=true) {k:Nat}(k1:2≤k) (k2:k≤40) (hev:ev=decide (k % 2=0)) (h2:two=decide (k=2)):(1≤p.dg∧p.dg≤12)∧∀ P,P≤16→(∀ j,j<p.dg→∀ i,i<P→lq (wP k p j i)≤1000)∧PGd 26 [i64 k,.agg p.cs,i64 P] (.tup [.sl p.dg (sC (fun j=>sS (wP k p j) P) p.dg),i64 0]):=by
 obtain⟨⟨⟨a1,a2⟩,⟨b1,b2⟩,m1,m2⟩,⟨c1,c2⟩,hE,hm,⟨t1,t2⟩,hT⟩:=aMw h;obtain⟨x1,x2,x3⟩:=oU a1 a2 m1;obtain⟨y1,y2,y3⟩:=oU b1 b2 m2;have s1:=rQ a1 a2 x1 x2 x3 (aGz a1 a2 m1);have s2:=rQ b1 b2 y1 y2 y3 (aGz b1 b2 m2);have gc:=aHe (T:=(p.t:Int)) s1 s2 (k:=(k:Int)) (by omega);have go:=(qC s1 s2).1;have hTk:¬(k=2∧p.n1=1∧p.n2=1∧p.t=1):=fun⟨e1,e2⟩=>hT ⟨by rw[h2,decide_eq_true e1],e2⟩
 have ec:cpE (k:Int) (p.t:Int) p.n1 (coN p.n1 p.v1) p.n2 (coN p.n2 p.v2) (evN p.n1 p.v1) (evN p.n2 p.v2)=0:=by
  unfold cpE;rw[if_neg (by omega),hE,hev,if_pos (decide_eq_decide.2 (by omega)),if_neg (by omega),if_neg (fun⟨e1,e2,e3,e4⟩=>hTk ⟨by omega,e2,e3,by omega⟩)]
 rw[ec]at gc
 have hz:=aEi hm;obtain⟨_,_,zn1,zn2,_⟩:=hz;refine⟨⟨zn1,zn2⟩,fun P hP=> ?_⟩;have g:=bM1 (P:=P) (T:=p.t) s1 s2 hm rfl (Nat.mod_eq_zero_of_dvd (Nat.dvd_lcm_left _ _)) (Nat.mod_eq_zero_of_dvd (Nat.dvd_lcm_right _ _)) k1 k2 hP t1 (by omega) hTk c2 (fun e=>by unfold Pr.m;rw[aCl e m1,Nat.lcm_one_left]) (fun e e'=>⟨by unfold Pr.m;rw[aCl e m1,aCl e' m2];rfl,aCl e m1,aCl e' m2,bHl e m1,bHl e' m2⟩) go gc;exact g
attribute [local irreducible] lrun lwp exThen exBlk keep goodPost ec
theorem bAo {L k d a b c e f D:Int}(gc:PGd 99 [.agg [i64 L,i64 k,i64 d]] (i64 0)) (gq:PGd 109 [.agg [i64 L,i64 k,i64 d],i64 L] (.agg [i64 a,i64 b,i64 c,i64 e,i64 f])) (ge:PGd 110 [.agg [i64 a,i64 b,i64 c,i64 e,i64 f]] (i64 D)):PGd 35 [.agg [i64 L,i64 k,i64 d]] (.tup [i64 D,i64 0]):=by
 simp only[i64]at*;refine aA aV Tryz.func35 rfl (by decide) (nt:=15) rfl (rs:=[.tmp 2,.tmp 3]) rfl (aW rfl) ?_;refine zA3 ?_;exact zQ7
theorem cH9 {two:Bool}{k d:Int}{L:Nat}(h:aPs two k L d=true) (hd: -60≤d∧d≤60) (gc:PGd 99 [.agg [i64 L,i64 k,i64 d]] (i64 0)):∃ ps:List Pr,dB ps≤200∧(∀ p∈ps,aH8 (decide (0<d)) two p=true)∧PGd 29 [.agg [i64 L,i64 k,i64 d]] (.tup [.sl ps.length (pC ps),i64 0])∧PGd 35 [.agg [i64 L,i64 k,i64 d]] (.tup [i64 (dB ps:Nat),i64 0]):=by
 unfold aPs at h;split at h
 ·rename_i N cs e D hp hq;rw[Bool.and_eq_true,Nat.beq_eq]at h
  obtain⟨rfl,h⟩:=h;split at h
  ·rename_i l hl;simp only[Bool.and_eq_true,Nat.beq_eq,Nat.ble_eq,List.all_eq_true]at h;obtain⟨⟨⟨rfl,rfl⟩,h3⟩,h4⟩:=h;rw[Go.Lg.ltI_eq]at h4
   refine⟨l,h3,h4,?_,?_⟩
   ·have g:=aHa gc hd hp;rw[aL3 hl]at g
    exact g
   ·unfold dmT at hq;split at hq
    ·rename_i a b c e f g1;exact bAo gc (aPp g1) (aPp hq)
    ·cases hq
  ·cases h
 ·cases h
end
section
open Go Go.Lg Go.Num
attribute [local irreducible] lrun lwp exThen exBlk keep goodPost ec sg mg sC
theorem aJ9 {L k d prec:Int}(h:prec<0∨(0≤prec∧10<prec)∨((0≤prec∧prec≤10)∧60<L∧L≤120)):PGd 9 [.agg [i64 L,i64 k,i64 d],i64 prec] (.lit (.bool true)):=by
 have ga:=kJ;simp only[i64]at*;rcases h with h |h |h
 all_goals
  refine aA aV Tryz.func9 rfl (by decide) (nt:=112) rfl (rs:=[.tmp 4]) rfl (aW rfl) ?_;refine zA6 ?_;refine fX rfl (by decide) rfl ?_;refine zA6 ?_;exact zQ4
theorem aCm {L k d prec e:Int}(hp:0≤prec∧prec≤10) (hL:L≤60∨120<L) (gc:PGd 34 [.agg [i64 L,i64 k,i64 d]] (i64 e)) (he:¬e=0):PGd 9 [.agg [i64 L,i64 k,i64 d],i64 prec] (.lit (.bool true)):=by
 have ga:=kJ;simp only[i64]at*;rcases hL with hL |hL
 all_goals
  refine aA aV Tryz.func9 rfl (by decide) (nt:=112) rfl (rs:=[.tmp 4]) rfl (aW rfl) ?_;refine zA6 ?_;exact zQ4
theorem aUc {L k d:Int}{P D:Nat}(hL:1≤L∧L≤60) (hP:P≤10) (hD:D≤200) (hd: -60≤d∧d≤60) {S R:Nat→LV×LV}(hS:∀ j,∃ a nn cs,(S j).1=i64 a∧(S j).2= .sl nn cs) (hR:∀ j,∃ a nn cs,(R j).1=i64 a∧(R j).2= .sl nn cs)
  (gc:PGd 34 [.agg [i64 L,i64 k,i64 d]] (i64 0)) (ge:PGd 35 [.agg [i64 L,i64 k,i64 d]] (.tup [i64 D,i64 0])) (gb:PGd 31 [.agg [i64 L,i64 k,i64 d],i64 P] (.tup [.sl D (sC S D),i64 0])) (gb3:PGd 31 [.agg [i64 L,i64 k,i64 d],i64 ((P:Int)+3)] (.tup [.sl D (sC R D),i64 0]))
  (gcut:∀ i,i<D→PGd 36 [.agg [(R i).1,(R i).2],i64 P] (.tup [.agg [(S i).1,(S i).2],i64 0])) (gs:∀ i,i<D→PGd 37 [.agg [(S i).1,(S i).2],.agg [(S i).1,(S i).2]] (.lit (.bool true))):PGd 9 [.agg [i64 L,i64 k,i64 d],i64 P] (.lit (.bool true)):=by
 have ga:=kJ;have hl:=tD S D;have hl':=tD R D;simp only[i64]at*;refine aA aV Tryz.func9 rfl (by decide) (nt:=112) rfl (rs:=[.tmp 4]) rfl (aW rfl) ?_;refine aBg (nd hl hl') ?_;refine aG (α:={i:Nat // i≤D}) (fun i=>st 112 (lk [(1,.lit (.int .i64 P)),(5,.lit (.int .i64 D)),(7,.sl D (sC S D)),(9,.sl D (sC R D)),(11,.lit (.int .i64 i.1))]) (cG []) 0) (fun i=>D-i.1) ⟨0,by omega⟩ ?_ ?_
 ·(refine Sub.plain ?_;simp only[aI,simprocAttr,bl,i64,smE,hl,hl',bP,undef])
  all_goals(first |done |simp |trace_state)
 ·rintro⟨i,hi⟩;simp only[st];by_cases hlt:i<D
  ·have h1:=aXe (S:=S) hlt;have h2:=aXe (S:=R) hlt;have g1:=gcut i hlt;have g2:=gs i hlt;obtain⟨a,nn,cs,e1,e2⟩:=hS i;obtain⟨b,n',cs',e3,e4⟩:=hR i;rw[e1,e2]at h1 g1 g2
   rw[e3,e4]at h2 g1
   refine jR (nd hl (nd hl' (nd h1 h2))) ?_;refine⟨⟨i+1,by omega⟩,?_,by simp only;omega⟩
   (refine Sub.plain ?_;simp only[aI,simprocAttr,bl,i64,smE,hl,hl',h1,h2])
   all_goals(first |done |simp |trace_state)
  ·obtain rfl:i=D:=by omega
   refine jR (nd hl hl') ?_;exact aE2 (nd hl hl')
theorem aA3 (L k d prec:Int) (rL: -9223372036854775808≤L∧L≤9223372036854775807) (rk: -9223372036854775808≤k∧k≤9223372036854775807) (rd: -9223372036854775808≤d∧d≤9223372036854775807) (rp: -9223372036854775808≤prec∧prec≤9223372036854775807):PGd 9 [.agg [i64 L,i64 k,i64 d],i64 prec] (.lit (.bool true)):=by
 by_cases hp:0≤prec∧prec≤10
 ·by_cases hL:60<L∧L≤120
  ·exact aJ9 (.inr (.inr ⟨hp,hL⟩))
  ·by_cases hr:L<1∨120<L∨k<2∨24<k∨d< -120∨120<d
   ·exact aCm hp (by omega) (aPq hr).2 (by omega)
   ·cases hf:fdb d with
    |false=>exact aCm hp (by omega) (aWo (by omega) (by omega) (by omega) hf).2 (by omega)
    |true=>
     have hd0:¬d=0:=fun e=>by
       subst e;exact absurd ((wS (d:=0) (by omega) (by omega)).2.2 hf (by decide)) (by decide)
     obtain⟨g1,g2⟩:=aWp (L:=L) (k:=k) (by omega) (by omega) (by omega) hf hd0;by_cases he:ckE L k d=0
     · rw[he]at g1 g2
       unfold ckE at he;rw[if_neg hr,if_neg (by simp[hf])]at he
       split at he
       · omega
       · rename_i hm;split at he
         · omega
         · rename_i hpar;have hm:L % d=0:=by omega
           have hpar:0<d↔k % 2=0:=by omega
           have hdL:d.natAbs≤60:=by
             have:=Int.le_of_dvd (by omega) (Int.dvd_of_emod_eq_zero hm);have h2: -d∣L:=Int.neg_dvd.2 (Int.dvd_of_emod_eq_zero hm);have:=Int.le_of_dvd (by omega) h2;omega
           have hdm:=(wS (d:=d) (by omega) (by omega)).2.2 hf hdL;obtain⟨N,rfl⟩:∃ N:Nat,L=N:=⟨L.toNat,by omega⟩;obtain⟨K,rfl⟩:∃ K:Nat,k=K:=⟨k.toNat,by omega⟩;obtain⟨P,rfl⟩:∃ P:Nat,prec=P:=⟨prec.toNat,by omega⟩;obtain⟨qa,qb⟩:=cH7 (L:=N) (by omega) (by omega) hdm hm
           have run:aPs (decide (K=2)) K N d=true:=by
             by_cases hk:K=2
             · subst hk;exact qb (by omega)
             · rw[decide_eq_false hk];obtain⟨n,rfl⟩:∃ n,K=n+3:=⟨K-3,by omega⟩;exact qa n
           obtain⟨ps,h1,h2,h3,h4⟩:=cH9 run (by omega) g1;have pr:=fun p (hp:p∈ps)=>cH8 (h2 p hp) (k:=K) (by omega) (by omega) (decide_eq_decide.2 (by omega)) rfl
           have bs:∀ Q:Nat,Q≤16→PGd 31 [.agg [i64 N,i64 K,i64 d],i64 Q] (.tup [.sl (dB ps) (sC (fun i=>sS (wA (wP K) ps i) Q) (dB ps)),i64 0]):=fun Q hQ=>by
             have g:=aDe (L:=N) (K:=K) (P:=Q) (d:=d) (ps:=ps) hQ (fun p=>sC (fun j=>sS (wP K p j) Q) p.dg) (fun p=>tD _ _) (fun p=>vO (fun j=>(kN _ _).2.2) _) (fun p=>aAx (fun j=>⟨(kN _ _).1,(kN _ _).2.1⟩) _) h3 (by
               have g:=qF Q (by omega);rw[nS (by omega)]at g
               exact g) (fun p hp=>((pr p hp).2 Q hQ).2) (fun p hp=>(pr p hp).1.1) h1 (Nat.le_trans (aXg fun p hp=>(pr p hp).1.1) h1)
             rw[aMt]at g
             exact g
           refine aUc (S:=fun i=>sS (wA (wP K) ps i) P) (R:=fun i=>sS (wA (wP K) ps i) (P+3)) (by omega) (by omega) h1 (by omega) (fun j=>(kN _ _).2.2) (fun j=>(kN _ _).2.2) g2 h4 (bs P (by omega)) (bs (P+3) (by omega)) (fun i hi=> ?_) (fun i hi=> ?_)
           · have g:=bAn (wA (wP K) ps i) (P+3) P (by omega) (by omega) (aXf (fun p hp=>((pr p hp).2 (P+3) (by omega)).1) i hi);rw[tU,tU]at g
             exact g
           · exact aXd (by omega) (by omega) (aXf (fun p hp=>((pr p hp).2 P (by omega)).1) i hi)
     · exact aCm hp (by omega) g2 he
 ·exact aJ9 (by omega)
end
end Go.Proofs.YtaidcaemdkncgaaGreatDoor
