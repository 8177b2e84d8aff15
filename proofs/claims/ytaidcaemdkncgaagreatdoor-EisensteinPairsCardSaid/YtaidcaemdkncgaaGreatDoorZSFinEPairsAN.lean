/- Contracts of functions of the program, and what proves them (texts: RPk RPt RPs EQ OP4i RPM RPL). -/
import Derived.KernelRfl
import Derived.Test.YtaidcaemdkncgaaGreatDoorZSAP
import Derived.Test.YtaidcaemdkncgaaGreatDoorZSBD
import Derived.Test.YtaidcaemdkncgaaGreatDoorZSBJ
import Derived.Test.YtaidcaemdkncgaaGreatDoorZSBM
import Derived.Test.YtaidcaemdkncgaaGreatDoorZSFinEPairsAE
import Derived.Test.YtaidcaemdkncgaaGreatDoorZSFinEPairsAF
import Derived.Test.YtaidcaemdkncgaaGreatDoorZSFinEPairsAG
import Derived.Test.YtaidcaemdkncgaaGreatDoorZSFinEPairsAH
import Derived.Test.YtaidcaemdkncgaaGreatDoorZSFinEPairsAI
import Derived.Test.YtaidcaemdkncgaaGreatDoorZSFinEPairsAJ
import Derived.Test.YtaidcaemdkncgaaGreatDoorZSFinEPairsAK
import Derived.Test.YtaidcaemdkncgaaGreatDoorZSFinEPairsAL
import Derived.Test.YtaidcaemdkncgaaGreatDoorZSFinEPairsAM
set_option linter.all false
set_option maxRecDepth 100000
set_option maxHeartbeats 8000000
namespace Go.Proofs.YtaidcaemdkncgaaGreatDoor
section
open Go Go.Lg Go.Num
def rLa:List (List (Nat×Int)):=[[(2,1),(5,5),(15,-3),(17,1),(18,1),(21,-3),(24,-4),(26,13),(27,1),(32,1),(33,33),(36,-3),(36,12),(38,-19),(41,1),(42,-7),(45,5),(47,1),(48,-3),(48,8),(54,-3),(56,-8),(60,5)],[(10,1),(11,-11),(12,-4),(12,12),(20,-4),(20,5),(23,1),(24,-3),(26,1),(28,1),(30,-15),(32,8),(34,1),(36,-4),(40,1),(44,44),(48,12),(50,1),(52,-4),(55,-11),(55,1),(60,-3),(60,12)],[(3,1),(12,1),(15,-15),(16,-8),(17,17),(20,1),(21,21),(24,-24),(24,24),(28,-7),(29,29),(30,5),(33,-3),(35,5),(39,-3),(42,21),(44,-11),(48,-8),(48,24),(56,-56),(56,1),(57,-3),(60,60)],[(3,-3),(9,-3),(10,5),(14,-7),(15,1),(16,8),(18,-3),(20,-20),(24,8),(32,-4),(33,1),(34,17),(35,-35),(37,1),(38,1),(40,-20),(41,41),(45,-3),(46,-23),(49,1),(50,5),(58,1),(58,29),(60,-15)],[(4,-4),(7,1),(8,-4),(8,8),(13,1),(13,13),(16,-4),(16,1),(25,1),(30,1),(33,-11),(35,1),(39,1),(40,-4),(40,5),(42,1),(44,-4),(46,1),(51,-3),(51,17),(52,1),(56,-7),(57,57),(59,1)],[(6,-3),(6,1),(8,-8),(8,1),(15,5),(19,1),(22,-11),(22,1),(24,-8),(28,-4),(37,37),(42,-3),(43,-43),(48,-4),(48,1),(51,-51),(51,1),(52,-52),(55,5),(56,-4),(56,8),(59,-59),(60,-20),(60,1)],[(1,1),(5,1),(7,-7),(9,1),(11,1),(23,-23),(24,12),(25,5),(30,-3),(31,-31),(35,-7),(39,-39),(40,-40),(40,40),(43,1),(44,1),(45,-15),(47,-47),(49,-7),(53,53),(54,1),(56,28),(57,-19),(57,1)],[(4,1),(12,-3),(14,1),(19,-19),(21,-7),(21,1),(24,1),(27,-3),(28,28),(29,1),(31,1),(32,-8),(36,1),(39,13),(40,-8),(40,8),(45,1),(48,-24),(52,13),(53,1),(55,-55),(56,56),(60,-4)]]
theorem bMt:∀ l∈rLa,∀ p∈l,rA p.1 p.2∧(0<p.2→rB p.1 p.2):=by
 have k:∀ {a b:List (Nat×Int)},(∀ p∈a,rA p.1 p.2)→(∀ p∈b,rB p.1 p.2)→(a.all fun p=> !(decide (0<p.2)) ||b.contains p)=true→∀ p∈a,rA p.1 p.2∧(0<p.2→rB p.1 p.2):=fun h1 h2 h3 p hp=>⟨h1 p hp,fun h=>h2 p (by
  have:=List.all_eq_true.1 h3 p hp;rw[decide_eq_true h]at this
  simpa using this)⟩
 intro l hl;simp only[rLa,List.mem_cons,List.not_mem_nil,or_false]at hl;rcases hl with rfl |rfl |rfl |rfl |rfl |rfl |rfl |rfl
 ·exact k cL9 cMa (by decide+kernel)
 ·exact k cMb cMc (by decide+kernel)
 ·exact k cMd cMe (by decide+kernel)
 ·exact k cMf cMg (by decide+kernel)
 ·exact k cMh cMi (by decide+kernel)
 ·exact k cMj cMk (by decide+kernel)
 ·exact k cMl cMm (by decide+kernel)
 ·exact k cMn cMo (by decide+kernel)
theorem bMu:(fdL.all fun d=>(List.range' 1 60).all fun L=> !(decide ((L:Int) % d=0)) ||rLa.any fun l=>l.contains (L,d))=true:=by decide+kernel
theorem cH3 {L:Nat}{d:Int}(h1:1≤L) (h2:L≤60) (hd:d∈fdL) (h:(L:Int) % d=0):rA L d∧(0<d→rB L d):=by
 have g:=List.all_eq_true.1 (List.all_eq_true.1 bMu d hd) L (by rw[List.mem_range'_1];omega);rw[decide_eq_true h,Bool.not_true,Bool.false_or]at g
 obtain⟨l,hl,hp⟩:=List.any_eq_true.1 g;exact bMt l hl (L,d) (List.contains_iff_mem.1 hp)
end
section
open Go Go.Lg Go.Num
theorem cH4 {P:Program}[Laid P] {na:Nat}{ops:Array Oper}{draw:Bool}{b c:Code}{Φ:Exit→LS→Prop}{s:LS}(h:lwp P na (.seq (.seq (.region 4 ops draw) c) b) Φ s):lwp P na (.seq (.seq (.region 4 ops draw) c) b) Φ s:=h
attribute [local irreducible] lrun lwp exThen exBlk keep goodPost sg mg
theorem aQq {L:Nat}{k d:Int}{r:LV}(gc:PGd 34 [.agg [i64 L,i64 k,i64 d]] (i64 0)) (hd: -60≤d∧d≤60) (h:rpT k L d=some r):PGd 30 [.agg [i64 L,i64 k,i64 d]] r:=by
 simp only[i64,bl]at*;refine aA aV Tryz.func30 rfl (by decide) (nt:=126) rfl (rs:=[.tmp 2,.tmp 3]) rfl (aW rfl) ?_
 (repeat((fail_if_success (refine cH4 ?_));first|apply zO (by decide+kernel)|apply zP (by decide+kernel)|(apply zS;(case h=>constructor<;>decide))|((first|apply cB rfl|apply aS|apply zT rfl (by decide) rfl);(case hs=>(simp(disch:=first|omega|exact kD rfl|exact kX rfl) only[smY,simprocAttr,bl,i64,smE];exact rfl));first|refine bZ ?_|refine cA ?_|refine zq ?_|(case hg=>assumption))))
 refine aEu (α:=Unit) (fun _=>st 126 (lk [(1,.ptr 0 0)]) (cG [(0,⟨67,[.lit (.int .i64 (L:Int)),.lit (.int .i64 k),.lit (.int .i64 d)],false⟩)]) 1) ?_ ?_
 ·refine sA ?_;refine⟨(),?_⟩;exact zO2 0
 ·rintro -;unfold rpT at h;exact aG0 aV bMr wI lF (by decide+kernel) h
end
section
open Go Go.Lg Go.Num
attribute [local irreducible] lrun lwp exThen exBlk keep goodPost ec sg mg pC bC
theorem aQr {L K P:Nat}{d:Int}{ps:List Pr}(hP:P≤16) (C:Pr→List LV) (hC:∀ p,(C p).length=p.dg*2) (hpu:∀ p,∀ c∈C p,aB c=true) (hpv:∀ p,∀ c∈C p,fK c=true) (gp:PGd 30 [.agg [i64 L,i64 K,i64 d]] (.tup [.sl ps.length (pC ps),i64 0]))
  (gs:∀ p∈ps,PGd 27 [i64 K,.agg p.cs,i64 P] (.tup [.sl p.dg (C p),i64 0])) (hdg:∀ p∈ps,1≤p.dg) (hN:dB ps≤200) (hl:ps.length≤200):PGd 32 [.agg [i64 L,i64 K,i64 d],i64 P] (.tup [.sl (dB ps) (bC C ps),i64 0]):=by
 have hpl:=aTv ps;simp only[i64,bl]at*;refine aA aV Tryz.func32 rfl (by decide) (nt:=47) rfl (rs:=[.tmp 4,.tmp 5]) rfl (aW rfl) ?_;refine kK hpl ?_;refine aG (α:={i:Nat // i≤ps.length}) (fun i=>st 47 (lk [(1,.lit (.int .i64 P)),(2,.ptr 0 0),(6,.sl ps.length (pC ps)),(8,nY 1 (dB (ps.take i.1))),(9,.lit (.int .i64 i.1))]) (cG ((0,⟨67,[.lit (.int .i64 L),.lit (.int .i64 K),.lit (.int .i64 d)],false⟩)::nYB 1 (dB (ps.take i.1)) (bC C (ps.take i.1)))) 2) (fun i=>ps.length-i.1) ⟨0,by omega⟩ ?_ ?_
 ·have e0:dB (ps.take 0)=0:=rfl;simp only[e0,nY,nYB,if_true];exact bT9 hpl [0,99]
 ·rintro⟨i,hi⟩;simp only[st];by_cases hlt:i<ps.length
  ·have htd:=aWz hlt;have g:=gs _ (List.getElem_mem hlt);have g1:=hdg _ (List.getElem_mem hlt);have hc:=hC ps[i];have e1:=aQc hlt;have e2:=aW0 (C:=C) hlt;have e3:=bGm (l:=ps) (i+1);have hb:=aG9 hC (ps.take i)
   have hBp:∀ x∈bC C (ps.take i),aB x=true:=fun x hx=>by
    unfold bC at hx;obtain⟨p,_,h⟩:=List.mem_flatMap.1 hx;exact hpu p x h
   generalize dB (ps.take i)=c at*;generalize bC C (ps.take i)=B at*;generalize hq:C ps[i]=Q at*;generalize ps[i]=p at*;unfold Pr.cs at*;generalize p.dg=n at*;simp only[i64]at htd g;have hqu:=hpu p;have hqv:=hpv p;rw[hq]at hqu hqv
   have hn0:(n=0)=False:=eq_false (by omega);by_cases h0:c=0
   ·have hB:B=[]:=List.eq_nil_of_length_eq_zero (by omega);subst h0;simp only[nY,nYB,if_true]
    (repeat(first|apply zO (by decide+kernel)|apply zP (by decide+kernel)|(apply zS;(case h=>constructor<;>decide))|((first|apply cB rfl|apply aS|apply zT rfl (by decide) rfl);(case hs=>(simp(disch:=first|omega|exact kD rfl|exact kX rfl) only[smY,simprocAttr,bl,i64,smT,smO,smE,hpl,htd,hc,hn0,List.take_zero,List.nil_append,Nat.zero_add];exact rfl));first|refine bZ ?_|refine cA ?_|refine zq ?_|(case hg=>assumption))))
    refine⟨⟨i+1,by omega⟩,?_,by simp only;omega⟩;simp only[e1,e2,hB,Nat.zero_add,if_neg (show¬n=0 by omega),List.nil_append]
    (refine fY [0,21] ?_ ?_ ?_;all_goals(first|(simp only[aB,aI,simprocAttr,bl,i64,smT,smO,smE,hpl];done) |(simp only[aI,simprocAttr,bl,i64,smT,smO,smE,hpl];try((repeat' apply And.intro);all_goals rfl)) |skip))
    all_goals exact⟨⟨rfl,rfl,rfl⟩,hqu⟩
   ·simp only[nY,nYB,if_neg h0];refine kK (nd hpl (nd htd hc)) ?_;refine⟨⟨i+1,by omega⟩,?_,by simp only;omega⟩;simp only[e1,e2,if_neg (show¬c+n=0 by omega)];have htB:B.take (c*2)=B:=List.take_of_length_le (by omega)
    (refine fY [0,21] ?_ ?_ ?_;all_goals(first|(simp only[aB,aI,simprocAttr,bl,i64,smT,smO,smE,hpl];done) |(simp only[aI,simprocAttr,bl,i64,smT,smO,smE,hpl];try((repeat' apply And.intro);all_goals rfl)) |skip))
    all_goals(try simp only[htB])
    all_goals(first |exact⟨trivial,trivial⟩ |exact⟨⟨rfl,rfl,rfl⟩,fun x hx=>(List.mem_append.1 hx).elim (hBp x) (hqu x)⟩ |trace_state)
  ·obtain rfl:i=ps.length:=by omega
   rw[List.take_length];have hpB:=aG9 hC ps;by_cases h0:dB ps=0
   ·have hB:bC C ps=[]:=List.eq_nil_of_length_eq_zero (by omega);simp only[h0,hB,nY,nYB,if_true];refine kK hpl ?_;exact aX4 hpl
   ·have hpu2:∀ c∈bC C ps,fK c=true:=fun c hc=>by
     unfold bC at hc;obtain⟨p,_,h⟩:=List.mem_flatMap.1 hc;exact hpv p c h
    have hpp:=fun(h:Nat→Option Blk) (ok:Nat→Bool) (k:Nat)=>jC (h:=h) (ok:=ok) (k:=k) hpu2
    have htk:(bC C ps).take (dB ps*2)=bC C ps:=List.take_of_length_le (by omega);simp only[nY,nYB,if_neg h0];refine kK (nd hpl (nd hpp htk)) ?_;exact aX4 (nd hpl (nd hpp htk))
end
section
open Go Go.Lg Go.Num
theorem aHh:(pF.all fun m=>Nat.ble (phK m) 12)=true:=by kernel_rfl
theorem aMv:(List.range 60).all (fun j=>match ixB 1 1 [] j with
 |some 0=>true
 |_=>false)=true:=by kernel_rfl
theorem ix1 {j:Nat}(hj:j<60):ixB 1 1 [] j=some 0:=by
 have h:=List.all_eq_true.1 aMv j (List.mem_range.2 hj);split at h
 ·rename_i e;exact e
 ·cases h
theorem zI1:zI 1 0=[1]:=by decide+kernel
theorem aXi {v:List Nat}(h:v∈gE (od 1)):v=[]:=by
 have e:gE (od 1)=[[]]:=by decide+kernel
 rw[e]at h
 simpa using h
section
variable {n1 o1 c1 n2 o2 c2:Nat}{v1 v2:List Int}{b1 b2:Bool}{ix1 ix2:Nat→Option Nat}{m n k:Nat}
theorem rU {te:Nat→Option Nat}{z:Nat→List Int}{p:Nat→Int}{j e:Nat}(h:te 0=some e) (hj:j<(z e).length):∀ D,∃ q,ocD te z p j (D+1)=some q
 |0=>⟨_,by rw[kH h,if_pos hj]⟩
 |D+1=>by
  obtain⟨q,hq⟩:=rU (p:=p) h hj D
  cases ht:te (D+1)with
  |none=>exact⟨q,by rw[aA0 ht,hq]⟩
  |some e'=>
   by_cases c:j<(z e').length
   · exact⟨_,by rw[kH ht,if_pos c]⟩
   · exact⟨q,by rw[kH ht,if_neg c,hq]⟩
def c0V:Rat:=0+trN 2 1 0*1
theorem aHi:c0V≠0∧lq c0V≤30:=by decide+kernel
theorem aA2 {ix:Nat→Option Nat}(h:ix 0=some 0):(uB ix 2 1 1 1 1 1).getD 0 0=c0V:=by
 unfold uB;rw[h];simp only;rw[fC (by rw[nE,iO]),oW (by omega),Nat.zero_mul,zI1];unfold uB c0V;simp
theorem bMw {P T:Nat}(h1:SeD n1 v1 o1 c1 b1 ix1) (h2:SeD n2 v2 o2 c2 b2 ix2) (hm:m∈pF) (hn:n=(dJ m).length-1) (hm1:m % o1=0) (hm2:m % o2=0) (k1:2≤k) (k2:k≤40) (hP:P≤16) (T1:1≤T) (T2:T≤1000) (hpar:(b1==b2)=decide (k % 2=0))
  (hk:¬(k=2∧n1=1∧n2=1∧T=1)) (hc1:c1=n1) (hc2:c2=n2) (ho1:n1=1→m=o2) (hone:n1=1→n2=1→m=1∧o1=1∧o2=1∧(∀ j,j<60→ix1 j=some 0)∧∀ j,j<60→ix2 j=some 0)
  (gordP:PGd 82 [.agg [i64 n1,.sl v1.length (ec v1)],.agg [i64 n2,.sl v2.length (ec v2)]] (i64 m)) (gordR:PGd 92 [.agg [i64 n1,.sl v1.length (ec v1)],.agg [i64 n2,.sl v2.length (ec v2)]] (i64 m)) (gphi:PGd 94 [i64 m] (i64 n))
  (gchk:PGd 81 [i64 k,.agg [i64 n1,.sl v1.length (ec v1),i64 n2,.sl v2.length (ec v2),i64 T]] (i64 0)):
  ∃ w:Nat→Nat→Rat,(∀ j,j<n→∀ i,i<P→lq (w j i)≤2000)∧PGd 26 [i64 k, .agg [i64 n1, .sl v1.length (ec v1),i64 n2, .sl v2.length (ec v2),i64 T],i64 P] (.tup [.sl n (sC (fun j=>sS (w j) P) n),i64 0])∧
    PGd 27 [i64 k,.agg [i64 n1,.sl v1.length (ec v1),i64 n2,.sl v2.length (ec v2),i64 T],i64 P] (.tup [.sl n (sC (fun j=>sS (w j) P) n),i64 0]):=by
 have hZ:=aEi hm;rw[← hn]at hZ
 have hZ':=hZ;obtain⟨m1,m2,nn1,nn2,_,_,hzl,hzs⟩:=hZ';have f1:=h2.n1;have f2:=h2.n2;have hbd:∀ j,j<n→∀ l,l<P→lq (yU ix1 ix2 k m o1 o2 n n1 n2 l j)≤410:=fun j hj l hl=>aXb h2 hZ hm2 k1 k2 (by omega) hj
 obtain⟨both,hb⟩:∃ both,both=(decide (k=2) && decide (n1=1) && decide (n2=1)):=⟨_,rfl⟩
 have hbt:both=true→k=2∧n1=1∧n2=1:=fun h=>by
  rw[h]at hb
  have:=hb.symm;simp only[Bool.and_eq_true,decide_eq_true_eq]at this;exact⟨this.1.1,this.1.2,this.2⟩
 obtain⟨a,ha⟩:∃ a:Nat→Nat→Rat,a=fun j l=>yU ix1 ix2 k m o1 o2 n n1 n2 l j:=⟨_,rfl⟩
 obtain⟨w,hw⟩:∃ w:Nat→Nat→Rat,w=fun j=>if both then dfT (a j) T else pG (a j) T:=⟨_,rfl⟩
 have hixm:n1=1→∀ A j,A<n2→ix2 A=some j→j<m:=fun e A j hA hj=>by
  have:=(h2.yes A j (by omega) hj).1;rw[ho1 e];exact this
 obtain⟨R,hR⟩:∃ R,R=if n1=1 then nD (rz (dJ m)) (bQ (uA ix2 k n2 m n2))else[]:=⟨_,rfl⟩;have hRe:n1=1→R=nD (rz (dJ m)) (bQ (uA ix2 k n2 m n2)):=fun e=>by rw[hR,if_pos e]
 have hRn:R.length≤n:=by
  by_cases e:n1=1
  ·rw[hRe e];exact aXc hm hzl (hixm e)
  ·rw[hR,if_neg e];exact Nat.zero_le _
 have hRq:∀ j,lq (R.getD j 0)≤1000:=by
  intro j;by_cases e:n1=1
  ·obtain⟨c1,c2,c3,c4⟩:=tT hm;have hl2:=rP (uA ix2 k n2 m n2);rw[gY]at hl2
   rw[hRe e];refine sZ (aGx c1 (L:=260) (fun j=> ?_) j) (sX f1) (oT k2 f2) (by omega);rw[iN];exact aL1 (ix:=ix2) (k:=k) (f:=n2) (o:=m) (j:=n2) k2 f1 f2 (Nat.le_refl _) j
  ·rw[hR,if_neg e,show([]:List Rat).getD j 0=0 from rfl];decide+kernel
 have hRv:n1=1→∀ j,j<n→R.getD j 0 / (((-2*(k:Int):Int)):Rat)=(uB ix2 k n2 m o2 n n2).getD j 0:=fun e j hj=>by
  rw[← aQm (by omega),hRe e];have:=aQl (k:=k) (f:=n2) (n:=n) hm (hixm e) hj;rw[this,ho1 e]
 have gC:n1=1→PGd 17 [i64 k,.agg [i64 n2,.sl v2.length (ec v2)]] (.tup [.sl R.length (qc R),i64 m,i64 0]):=fun e=>by
  have ho:=ho1 e;have hph:=List.all_eq_true.1 aHh m hm;rw[Nat.ble_eq,aSz]at hph
  have hc:ChD n2 v2 m n2 v2 ix2:=by
   have p:=h2.pr hc2;have q:=h2.orP;rw[← ho]at q
   refine⟨m1,by omega,f1,f2,q,p,fun j hj hi=>(h2.no j (by omega) hi).1,fun j i hj hi=> ?_⟩;obtain⟨h1,a,d,d1,d2,a2,hd,hai,g1,g2⟩:=h2.yes j i (by omega) hi;rw[← ho]at h1 hai
   exact⟨h1,a,d,d1,d2,a2,hai,g1⟩
  have g:=(aAo (k:=k) (by omega) k2 ⟨f1,f2,h2.lw,hm,hph⟩ hc).1;rw[← hRe e,bE]at g
  exact g
 obtain⟨f0,hf0⟩:∃ f0:Nat→Rat,f0=fun j=>R.getD j 0 / (((-2*(k:Int):Int)):Rat):=⟨_,rfl⟩
 obtain⟨o0,ho0⟩:∃ o0:Nat→Option Rat,o0=fun j=>if n1=1 then o0I f0 R.length j else none:=⟨_,rfl⟩
 have hval:∀ j,j<n→∀ l,l<P→(cE o0 (rR ix1 ix2 m o1 o2) (zI m) (kM k) (max P 1) 0 0 j l).getD 0=a j l:=by
  intro j hj l hl;rw[aMs hl,ha];show _=yU ix1 ix2 k m o1 o2 n n1 n2 l j;unfold yU;by_cases h0:l=0
  ·rw[if_pos h0,if_pos h0,ho0];by_cases e:n1=1
   ·simp only[if_pos e];rw[← hRv e j hj];have hx:∀ j,f0 j=R.getD j 0*(((-2*(k:Int):Int)):Rat)⁻¹:=fun j=>by rw[hf0];exact Rat.div_def _ _
    rw[bG6 hx,Rat.div_def]
   ·simp only[if_neg e];rfl
  ·rw[if_neg h0,if_neg h0];exact aEe hj l
 have hsm:both=true→∀ j,j<n→∀ l,l<P→lq (yU ix1 ix2 k m o1 o2 n n1 n2 l j)≤100:=by
  intro hbb j hj l hl;obtain⟨e1,e2,e3⟩:=hbt hbb;obtain⟨x1,x2,x3,x4,x5⟩:=hone e2 e3;by_cases h0:l=0
  ·unfold yU;rw[if_pos h0,if_pos e2]
   have hn1:n=1:=by
    rw[hn,x1];decide+kernel
   obtain rfl:j=0:=by omega
   rw[e1,e3,x1,x3,hn1,aA2 (x5 0 (by omega))];have:=aHi.2;omega
  ·unfold yU;rw[if_neg h0];have:=(aEb (te:=rR ix1 ix2 m o1 o2 l) (n:=n) k2 hzs (fun D e h=>aG5 m1 h) l (by omega) j hj).lq (K:=1) (by decide) (by decide+kernel);omega
 have hrd:=bMp (both:=both) h1 h2 hZ hm1 hm2 k1 k2 hP T1 T2 hpar hb (fun h=>hk ⟨(hbt h.1).1,(hbt h.1).2.1,(hbt h.1).2.2,h.2⟩) hc1 hc2 gordR gphi w (fun j=>by rw[hw,ha]) hsm;have hpt:P≤T*P:=Nat.le_mul_of_pos_left P (by omega)
 have hwb:∀ j,j<n→∀ i,i<P→lq (w j i)≤1000:=by
  intro j hj i hi;have b0:∀ i,i<P→lq (a j i)≤410:=fun i hi=>by rw[ha];exact hbd j hj i hi
  have h2:lq (pG (a j) T i)≤410:=vN b0 (by omega) (by omega:i<T*P);rw[hw];simp only;split
  ·rename_i hbb;have b1:∀ i,i<P→lq (a j i)≤100:=fun i hi=>by rw[ha];exact hsm hbb j hj i hi
   have h2:lq (pG (a j) T i)≤100:=vN b1 (by omega) (by omega:i<T*P);have h1:=b1 i hi;have h3:=jZ ((T:Int):Rat) (pG (a j) T i);have h4:=aF7 (z:=(T:Int)) (by omega);have h5:=bD6 (a j i) (((T:Int):Rat)*pG (a j) T i);unfold dfT;omega
  ·omega
 refine⟨w,fun j hj i hi=>by have:=hwb j hj i hi;omega,?_,hrd⟩;obtain⟨ob,hob⟩:∃ ob:Nat→Nat→Option Rat,ob=fun j l=>cE o0 (rR ix1 ix2 m o1 o2) (zI m) (kM k) (max P 1) 0 0 j l:=⟨_,rfl⟩
 have hcl:∀ j,cL o0 (rR ix1 ix2 m o1 o2) (zI m) (kM k) P (max P 1) 0 0 j=oP (ob j) P:=fun j=>by rw[hob];rfl
 have gF:=oS hm;have hcy:=(tT hm).2.1;rw[show(dJ m).length=n+1 by omega]at gF
 have hfj:∀ j,f0 j=R.getD j 0 / (((-2*(k:Int):Int)):Rat):=fun j=>by rw[hf0]
 have ho0':∀ j,o0 j=if n1=1 then o0I f0 R.length j else none:=fun j=>by rw[ho0]
 cases hbb:both with
 |false=>
  have hwj:∀ j,w j=pG (a j) T:=fun j=>by rw[hw,hbb];simp
  refine wX h1 h2 k1 k2 (by omega) hZ hm1 hm2 T1 T2 gchk gordP gF gC hRn hRq (fun j=>sS (w j) P) (fun j=> .sl P (op (oP (aMl (ob j) T) P))) false (hbb ▸ hb) (fun j=>kN _ _) (fun j=>⟨_,_,rfl⟩) o0 f0 hfj ho0' (fun j hj=> ?_) (fun j hj=> ?_)
  · rw[hcl];exact aDf (ob j) P T (by omega) T1 T2
  · have g:=qE 0 (aMl (ob j) T) (w j) P (fun i hi=>by
      rw[hwj];unfold pG aMl;split
      · have hq:i / T≤i:=Nat.div_le_self _ _;rw[hob,hval j hj (i / T) (by omega)]
      · rfl) (by omega) (by omega) (fun i hi=>by have:=hwb j hj i hi;omega)
    rw[tU]at g
    exact g
 |true=>
  obtain⟨e1,e2,e3⟩:=hbt hbb;obtain⟨x1,x2,x3,x4,x5⟩:=hone e2 e3
  have hn1:n=1:=by
    rw[hn,x1];decide+kernel
  have hwj:∀ j,w j=dfT (a j) T:=fun j=>by rw[hw,hbb];simp
  have hT2:1≤T:=T1
  have hsome:∀ j,j<n→∀ l,l<P→ob j l=some (a j l):=by
    intro j hj l hl;obtain rfl:j=0:=by omega
    have hv:=hval 0 hj l hl
    have hne:∃ q,ob 0 l=some q:=by
      rw[hob];simp only;rw[aMs hl];by_cases h0:l=0
      · rw[if_pos h0,ho0];simp only[if_pos e2];have h3:=hRv e2 0 hj;rw[e1,e3,x1,x3,hn1,aA2 (x5 0 (by omega))]at h3
        have hR0:0<R.length:=by
          rcases Nat.eq_zero_or_pos R.length with h |h
          · have:R=[]:=List.eq_nil_of_length_eq_zero h;rw[this]at h3
            exact absurd (h3.symm.trans (by rw[Rat.div_def];exact Rat.zero_mul _)) aHi.1
          · exact h
        exact⟨_,by unfold o0I;rw[if_pos hR0]⟩
      · rw[if_neg h0];obtain⟨l',rfl⟩:∃ l',l=l'+1:=⟨l-1,by omega⟩
        have ht:rR ix1 ix2 m o1 o2 (l'+1) 0=some 0:=by
          have t3:=(aMm (ix1:=ix1) (ix2:=ix2) (m:=m) (o1:=o1) (o2:=o2) (l:=l'+1) (D:=0) (x:=l') (by omega) (by omega)).2.2 0 0 (x4 l' (by omega)) (x5 0 (by omega));rw[t3,Nat.zero_mul,Nat.zero_mul];first |done |rfl |(congr 1;exact Nat.zero_mod m)
        exact rU ht (by rw[x1,zI1];decide) l'
    obtain⟨q,hq⟩:=hne;have h4:(ob 0 l).getD 0=a 0 l:=by rw[hob];exact hv
    rw[hq]at h4⊢
    rw[← h4];rfl
  have hop:∀ j,j<n→op (oP (ob j) P)=qc (aP (a j) P):=fun j hj=>by
    have:oP (ob j) P=oP (fun i=>some (a j i)) P:=List.map_congr_left (fun l hl=>hsome j hj l (List.mem_range.1 hl));rw[this,aJy]
  have b1:∀ j,j<n→∀ i,i<P→lq (a j i)≤1000:=fun j hj i hi=>by rw[ha];exact Nat.le_trans (hbd j hj i hi) (by omega)
  refine wX h1 h2 k1 k2 (by omega) hZ hm1 hm2 T1 T2 gchk gordP gF gC hRn hRq (fun j=>sS (w j) P) (fun j=> .sl P (qc (aP (w j) P))) true (hbb ▸ hb) (fun j=>kN _ _) (fun j=>⟨_,_,rfl⟩) o0 f0 hfj ho0' (fun j hj=> ?_) (fun j hj=> ?_)
  · rw[hcl,hop j hj];show cU _ _ _ (.sl P (qc (aP (w j) P)));rw[hwj];exact aDc (a j) P T (by omega) T1 T2 (b1 j hj)
  · have g:=qE 0 (fun i=>some (w j i)) (w j) P (fun i hi=>rfl) (by omega) (by omega) (fun i hi=>by have:=hwb j hj i hi;omega);rw[aJy,tU]at g
    exact g
end
attribute [local irreducible] lrun lwp exThen exBlk keep goodPost ec pt gn od rE sg mg sC
theorem xM {n:Nat}(hn:n≤1000) {S:Nat→LV×LV}(hS:∀ j,∃ a nn cs,(S j).1=i64 a∧(S j).2= .sl nn cs) (gs:∀ j,j<n→PGd 37 [.agg [(S j).1,(S j).2],.agg [(S j).1,(S j).2]] (.lit (.bool true))):PGd 28 [.sl n (sC S n),.sl n (sC S n)] (.lit (.bool true)):=by
 have hl:=tD S n;refine aA aV Tryz.func28 rfl (by decide) (nt:=27) rfl (rs:=[.tmp 4]) rfl (aW rfl) ?_;refine kK hl ?_;refine aG (α:={i:Nat // i≤n}) (fun i=>st 27 (lk [(0,.sl n (sC S n)),(1,.sl n (sC S n)),(5,.lit (.int .i64 i.1))]) (cG []) 0) (fun i=>n-i.1) ⟨0,by omega⟩ ?_ ?_
 ·(refine Sub.plain ?_;simp only[aI,simprocAttr,bl,i64,smT,smO,smE,hl])
  all_goals(first |done |exact⟨trivial,rfl⟩ |simp)
 ·rintro⟨i,hi⟩;simp only[st];by_cases hlt:i<n
  ·have htd:=aXe (S:=S) hlt;have g:=gs i hlt;obtain⟨a,nn,cs,e1,e2⟩:=hS i;rw[e1,e2]at htd g
   simp only[i64]at htd g;refine kK (nd hl htd) ?_;refine⟨⟨i+1,by omega⟩,?_,by simp only;omega⟩
   (refine Sub.plain ?_;simp only[aI,simprocAttr,bl,i64,smT,smO,smE,hl,htd])
   all_goals(first |done |simp)
  ·obtain rfl:i=n:=by omega
   refine kK hl ?_;exact aX4 hl
section
variable {m1 m2 k T prec:Int}{l1 l2:List Int}
end
end
section
open Go Go.Lg Go.Num
attribute [local irreducible] lrun lwp exThen exBlk keep goodPost ec
theorem aJ8 (zs:List Int) (hl:zs.length≤1000000):PGd 106 [.sl zs.length (ec zs),.sl zs.length (ec zs)] (bl true):=by
 simp only[bl];refine aA aV Tryz.func106 rfl (by decide) (nt:=26) rfl (rs:=[.tmp 4]) rfl (aW rfl) ?_;refine zA7 ?_;refine aG (α:={i:Nat // i≤zs.length}) (fun i=>st 26 (lk [(0,.sl zs.length (ec zs)),(1,.sl zs.length (ec zs)),(5,.lit (.int .i64 i.1))]) (cG []) 0) (fun i=>zs.length-i.1) ⟨0,by omega⟩ ?_ ?_
 ·(refine Sub.plain ?_;simp only[aI,simprocAttr,bl,i64,smE,bP,undef])
  all_goals(first |done |trace_state)
 ·rintro⟨i,hi⟩;simp only[st];by_cases hlt:i<zs.length
  ·refine zA7 ?_;refine⟨⟨i+1,by omega⟩,?_,by simp only;omega⟩
   (refine Sub.plain ?_;simp only[aI,simprocAttr,bl,i64,smE,bP,undef])
   all_goals(first |done |trace_state)
  ·obtain rfl:i=zs.length:=by omega
   refine zA7 ?_;exact zQ6
end
section
open Go Go.Lg Go.Num
attribute [local irreducible] lrun lwp exThen exBlk keep goodPost ec pC
theorem vT {ps:List Pr}(hl:ps.length≤200) (hv:∀ p∈ps,p.v1.length≤100∧p.v2.length≤100):PGd 33 [.sl ps.length (pC ps),.sl ps.length (pC ps)] (.lit (.bool true)):=by
 have hpl:=aTv ps;refine aA aV Tryz.func33 rfl (by decide) (nt:=70) rfl (rs:=[.tmp 4]) rfl (aW rfl) ?_;refine jR hpl ?_;refine aG (α:={i:Nat // i≤ps.length}) (fun i=>st 70 (lk [(0,.sl ps.length (pC ps)),(1,.sl ps.length (pC ps)),(5,.lit (.int .i64 i.1))]) (cG []) 0) (fun i=>ps.length-i.1) ⟨0,by omega⟩ ?_ ?_
 ·(refine Sub.plain ?_;simp only[aI,simprocAttr,bl,i64,smE,hpl])
  all_goals(first |done |exact⟨trivial,rfl⟩ |simp)
 ·rintro⟨i,hi⟩;simp only[st];by_cases hlt:i<ps.length
  ·have htd:=aWz hlt;obtain⟨q1,q2⟩:=hv _ (List.getElem_mem hlt);generalize ps[i]=p at*;have g1:=aJ8 (nI p.v1) (by rw[cW];omega);have g2:=aJ8 (nI p.v2) (by rw[cW];omega);unfold Pr.cs at htd;simp only[i64,bl]at htd g1 g2;refine bBn (nd hpl htd) ?_;refine⟨⟨i+1,by omega⟩,?_,by simp only;omega⟩
   (refine Sub.plain ?_;simp only[aI,simprocAttr,bl,i64,smE,hpl,htd,bne_self_eq_false])
   all_goals(first |done |simp)
  ·obtain rfl:i=ps.length:=by omega
   refine jR hpl ?_;exact aE2 hpl
end
section
open Go Go.Lg Go.Num
attribute [local irreducible] lrun lwp exThen exBlk keep goodPost ec sg mg sC pC bC
section
variable {L k d prec:Int}
theorem aDg (h:(12<prec∧prec≤1000)∨(¬12<prec∧60<L∧L≤120)∨(1000<prec∧60<L∧L≤120)):PGd 8 [.agg [i64 L,i64 k,i64 d],i64 prec] (.lit (.bool true)):=by
 have ga:=kJ;simp only[i64]at*;rcases h with h |h |h
 all_goals
  refine aA aV Tryz.func8 rfl (by decide) (nt:=73) rfl (rs:=[.tmp 4]) rfl (aW rfl) ?_;refine zA6 ?_;exact zQ4
theorem aHj {n m:Nat}{cs ds:List LV}{e g:Int}(hp:¬(12<prec∧prec≤1000)) (hL:¬(60<L∧L≤120)) (g1:PGd 29 [.agg [i64 L,i64 k,i64 d]] (.tup [.sl n cs,i64 e])) (g2:PGd 30 [.agg [i64 L,i64 k,i64 d]] (.tup [.sl n cs,i64 e]))
  (g3:PGd 31 [.agg [i64 L,i64 k,i64 d],i64 prec] (.tup [.sl m ds,i64 g])) (g4:PGd 32 [.agg [i64 L,i64 k,i64 d],i64 prec] (.tup [.sl m ds,i64 g])) (g5:PGd 33 [.sl n cs,.sl n cs] (.lit (.bool true))) (g6:PGd 28 [.sl m ds,.sl m ds] (.lit (.bool true))):PGd 8 [.agg [i64 L,i64 k,i64 d],i64 prec] (.lit (.bool true)):=by
 have ga:=kJ;simp only[i64]at*;rcases(show(¬12<prec∧¬60<L)∨(¬12<prec∧120<L)∨(1000<prec∧¬60<L)∨(1000<prec∧120<L)by omega)with h |h |h |h
 all_goals
  refine aA aV Tryz.func8 rfl (by decide) (nt:=73) rfl (rs:=[.tmp 4]) rfl (aW rfl) ?_;refine zA6 ?_;exact zQ4
theorem bAk {e:Int}(he:¬e=0) (gc:PGd 99 [.agg [i64 L,i64 k,i64 d]] (i64 e)):PGd 29 [.agg [i64 L,i64 k,i64 d]] (eS e):=by
 unfold eS;simp only[i64]at*;refine aA aV Tryz.func29 rfl (by decide) (nt:=108) rfl (rs:=[.tmp 2,.tmp 3]) rfl (aW rfl) ?_;refine zA6 ?_;exact zQ4
theorem aT8 {e:Int}(he:¬e=0) (gc:PGd 34 [.agg [i64 L,i64 k,i64 d]] (i64 e)):PGd 30 [.agg [i64 L,i64 k,i64 d]] (eS e):=by
 unfold eS;simp only[i64]at*;refine aA aV Tryz.func30 rfl (by decide) (nt:=126) rfl (rs:=[.tmp 2,.tmp 3]) rfl (aW rfl) ?_;refine zA6 ?_;exact zQ4
theorem bAl {e:Int}(he:¬e=0) (g:PGd 29 [.agg [i64 L,i64 k,i64 d]] (eS e)) (g':PGd 30 [.agg [i64 L,i64 k,i64 d]] (eS e)):PGd 31 [.agg [i64 L,i64 k,i64 d],i64 prec] (eS e)∧PGd 32 [.agg [i64 L,i64 k,i64 d],i64 prec] (eS e):=by
 unfold eS at*;simp only[i64]at*;constructor
 ·
  refine aA aV Tryz.func31 rfl (by decide) (nt:=46) rfl (rs:=[.tmp 4,.tmp 5]) rfl (aW rfl) ?_;refine zA6 ?_;exact zQ4
 ·
  refine aA aV Tryz.func32 rfl (by decide) (nt:=47) rfl (rs:=[.tmp 4,.tmp 5]) rfl (aW rfl) ?_;refine zA6 ?_;exact zQ4
theorem aT9 {n:Nat}{cs:List LV}(hp:prec<0∨1000<prec) (hpr: -9223372036854775808≤prec∧prec≤9223372036854775807) (g:PGd 29 [.agg [i64 L,i64 k,i64 d]] (.tup [.sl n cs,i64 0])) (g':PGd 30 [.agg [i64 L,i64 k,i64 d]] (.tup [.sl n cs,i64 0])):PGd 31 [.agg [i64 L,i64 k,i64 d],i64 prec] (eS 2)∧PGd 32 [.agg [i64 L,i64 k,i64 d],i64 prec] (eS 2):=by
 have gin:=qF prec hpr;rw[nT (by omega)]at gin
 unfold eS;simp only[i64,bl]at*;constructor
 ·
  refine aA aV Tryz.func31 rfl (by decide) (nt:=46) rfl (rs:=[.tmp 4,.tmp 5]) rfl (aW rfl) ?_;refine zA6 ?_;exact zQ4
 ·rcases(show prec<0∨(0≤prec∧1000<prec)by omega)with h |h
  all_goals
   refine aA aV Tryz.func32 rfl (by decide) (nt:=47) rfl (rs:=[.tmp 4,.tmp 5]) rfl (aW rfl) ?_;refine zA6 ?_;exact zQ4
end
theorem cH6 {two:Bool}{k d:Int}{L:Nat}(h:aQp two k L d=true) (hd: -60≤d∧d≤60) (gc:PGd 99 [.agg [i64 L,i64 k,i64 d]] (i64 0)) (gc':PGd 34 [.agg [i64 L,i64 k,i64 d]] (i64 0)):∃ ps:List Pr,dB ps≤200∧ps.length≤200∧(∀ p∈ps,aH8 (decide (0<d)) two p=true)∧PGd 29 [.agg [i64 L,i64 k,i64 d]] (.tup [.sl ps.length (pC ps),i64 0])∧PGd 30 [.agg [i64 L,i64 k,i64 d]] (.tup [.sl ps.length (pC ps),i64 0]):=by
 unfold aQp at h;split at h
 ·rename_i N cs e M ds e' hp hq;simp only[Bool.and_eq_true,Nat.beq_eq]at h;obtain⟨⟨rfl,rfl⟩,h⟩:=h;split at h
  ·rename_i l l' hl hl';simp only[Bool.and_eq_true,Nat.beq_eq,Nat.ble_eq,List.all_eq_true]at h;obtain⟨⟨⟨⟨⟨rfl,rfl⟩,h2⟩,h3⟩,h4⟩,h5⟩:=h;obtain rfl:=aXh h2;rw[Go.Lg.ltI_eq]at h5
   have g:=aHa gc hd hp;have g':=aQq gc' hd hq;rw[aL3 hl]at g
   rw[aL3 hl']at g'
   exact⟨l,h3,h4,h5,g,g'⟩
  ·cases h
 ·cases h
theorem aMw {ev two:Bool}{p:Pr}(h:aH8 ev two p=true):((1≤p.n1∧p.n1≤60)∧(1≤p.n2∧p.n2≤60)∧p.v1∈gE (od p.n1)∧p.v2∈gE (od p.n2))∧(coN p.n1 p.v1=p.n1∧coN p.n2 p.v2=p.n2)∧(evN p.n1 p.v1==evN p.n2 p.v2)=ev∧p.m∈pF∧(1≤p.t∧p.t≤60)∧¬(two=true∧p.n1=1∧p.n2=1∧p.t=1):=by
 unfold aH8 at h;simp only[Bool.and_eq_true,Nat.ble_eq,Nat.beq_eq,beq_iff_eq,Bool.not_eq_true',List.contains_iff_mem]at h;obtain⟨⟨⟨⟨⟨⟨⟨⟨h1,h2⟩,h3,h4⟩,h5,h6⟩,h7,h8⟩,h9⟩,ha⟩,hb,hc⟩,hd⟩:=h;refine⟨⟨⟨h1,h2⟩,⟨h3,h4⟩,h5,h6⟩,⟨h7,h8⟩,h9,ha,⟨hb,hc⟩,?_⟩;rintro⟨rfl,e1,e2,e3⟩;simp[e1,e2,e3]at hd
noncomputable def bOe (m:Nat):Bool:=match evo bF2 94 [.lit (.int .i64 (.ofNat m))]with
 |some (.lit (.int .i64 (.ofNat c)))=>Nat.beq (c+1) (dJ m).length
 |_=>false
theorem bW8:pF.all bOe=true:=by kernel_rfl
theorem bMx {m:Nat}(hm:m∈pF):PGd 94 [i64 m] (i64 (((dJ m).length-1:Nat):Int)):=by
 have h:=List.all_eq_true.1 bW8 m hm;unfold bOe at h;split at h
 ·rename_i c g;rw[Nat.beq_eq]at h
  rw[show(dJ m).length-1=c by omega];exact cV aAp g
 ·cases h
theorem tH {n:Nat}{v:List Nat}(e:n=1) (h:v∈gE (od n)):ordN n v=1∧∀ j,j<60→ixB (ordN n v) n v j=some 0:=by
 subst e;have e1:ordN 1 []=1:=by decide+kernel
 rw[aXi h,e1];exact⟨rfl,fun j hj=>ix1 hj⟩
theorem bMy {ev two:Bool}{p:Pr}(h:aH8 ev two p=true) {k P:Nat}(k1:2≤k) (k2:k≤40) (hP:P≤16) (hev:ev=decide (k % 2=0)) (h2:two=decide (k=2)):(1≤p.dg∧p.v1.length≤10∧p.v2.length≤10)∧∃ w:Nat→Nat→Rat,(∀ j,j<p.dg→∀ i,i<P→lq (w j i)≤2000)∧PGd 26 [i64 k,.agg p.cs,i64 P] (.tup [.sl p.dg (sC (fun j=>sS (w j) P) p.dg),i64 0])∧PGd 27 [i64 k,.agg p.cs,i64 P] (.tup [.sl p.dg (sC (fun j=>sS (w j) P) p.dg),i64 0]):=by
 obtain⟨⟨⟨a1,a2⟩,⟨b1,b2⟩,m1,m2⟩,⟨c1,c2⟩,hE,hm,⟨t1,t2⟩,hT⟩:=aMw h;obtain⟨x1,x2,x3⟩:=oU a1 a2 m1;obtain⟨y1,y2,y3⟩:=oU b1 b2 m2;have s1:=rQ a1 a2 x1 x2 x3 (aGz a1 a2 m1);have s2:=rQ b1 b2 y1 y2 y3 (aGz b1 b2 m2);have gc:=aHe (T:=(p.t:Int)) s1 s2 (k:=(k:Int)) (by omega);obtain⟨go,go'⟩:=qC s1 s2;have hTk:¬(k=2∧p.n1=1∧p.n2=1∧p.t=1):=fun⟨e1,e2⟩=>hT ⟨by rw[h2,decide_eq_true e1],e2⟩
 have ec:cpE (k:Int) (p.t:Int) p.n1 (coN p.n1 p.v1) p.n2 (coN p.n2 p.v2) (evN p.n1 p.v1) (evN p.n2 p.v2)=0:=by
  unfold cpE;rw[if_neg (by omega),hE,hev,if_pos (decide_eq_decide.2 (by omega)),if_neg (by omega),if_neg (fun⟨e1,e2,e3,e4⟩=>hTk ⟨by omega,e2,e3,by omega⟩)]
 rw[ec]at gc
 have hz:=aEi hm;obtain⟨_,_,zn1,zn2,_⟩:=hz;refine⟨⟨zn1,x3,y3⟩,?_⟩;exact bMw (P:=P) (T:=p.t) s1 s2 hm rfl (Nat.mod_eq_zero_of_dvd (Nat.dvd_lcm_left _ _)) (Nat.mod_eq_zero_of_dvd (Nat.dvd_lcm_right _ _)) k1 k2 hP t1 (by omega) (by rw[hE,hev]) hTk c1 c2 (fun e=>by unfold Pr.m;rw[(tH e m1).1,Nat.lcm_one_left]) (fun e e'=>⟨by unfold Pr.m;rw[(tH e m1).1,(tH e' m2).1];rfl,(tH e m1).1,(tH e' m2).1,(tH e m1).2,(tH e' m2).2⟩) go go' (bMx hm) gc
theorem aIg (L k d prec:Int) (rL: -9223372036854775808≤L∧L≤9223372036854775807) (rk: -9223372036854775808≤k∧k≤9223372036854775807) (rd: -9223372036854775808≤d∧d≤9223372036854775807) (rp: -9223372036854775808≤prec∧prec≤9223372036854775807):PGd 8 [.agg [i64 L,i64 k,i64 d],i64 prec] (.lit (.bool true)):=by
 by_cases hp:12<prec∧prec≤1000
 ·exact aDg (.inl hp)
 by_cases hL:60<L∧L≤120
 ·exact aDg (by omega)
 have nil:PGd 28 [.sl 0 [],.sl 0 []] (.lit (.bool true)):=by
  have:=xM (n:=0) (by omega) (S:=fun _=>(i64 0,.sl 0 [])) (fun _=>⟨_,_,_,rfl,rfl⟩) (fun j hj=>by omega)
  rwa [show sC (fun _=>(i64 0,LV.sl 0 [])) 0=[]by with_unfolding_all rfl]at this
 have err:∀ e:Int,¬e=0→PGd 99 [.agg [i64 L,i64 k,i64 d]] (i64 e)∧PGd 34 [.agg [i64 L,i64 k,i64 d]] (i64 e)→PGd 8 [.agg [i64 L,i64 k,i64 d],i64 prec] (.lit (.bool true)):=fun e he h=>by
  have g1:=bAk he h.1;have g2:=aT8 he h.2;obtain⟨g3,g4⟩:=bAl (prec:=prec) he g1 g2;have g5:=vT (ps:=[]) (by simp) (by simp);rw[show pC []=[]by with_unfolding_all rfl]at g5
  exact aHj hp hL g1 g2 g3 g4 g5 nil
 by_cases hr:L<1∨120<L∨k<2∨24<k∨d< -120∨120<d
 ·exact err 2 (by omega) (aPq hr)
 cases hf:fdb d with
 |false=>exact err 15 (by omega) (aWo (by omega) (by omega) (by omega) hf)
 |true=>
  have hd0:¬d=0:=fun e=>by
    subst e;exact absurd ((wS (d:=0) (by omega) (by omega)).2.2 hf (by decide)) (by decide)
  have gck:=aWp (L:=L) (k:=k) (by omega) (by omega) (by omega) hf hd0;by_cases he:ckE L k d=0
  · rw[he]at gck
    obtain⟨g1,g2⟩:=gck;unfold ckE at he;rw[if_neg hr,if_neg (by simp[hf])]at he
    split at he
    · omega
    · rename_i hm;split at he
      · omega
      · rename_i hpar;have hm:L % d=0:=by omega
        have hpar:0<d↔k % 2=0:=by omega
        have hdL:d.natAbs≤60:=by
          have:=Int.le_of_dvd (by omega) (Int.dvd_of_emod_eq_zero hm);have h2: -d∣L:=Int.neg_dvd.2 (Int.dvd_of_emod_eq_zero hm);have:=Int.le_of_dvd (by omega) h2;omega
        have hdm:=(wS (d:=d) (by omega) (by omega)).2.2 hf hdL;obtain⟨N,rfl⟩:∃ N:Nat,L=N:=⟨L.toNat,by omega⟩;obtain⟨K,rfl⟩:∃ K:Nat,k=K:=⟨k.toNat,by omega⟩;obtain⟨qa,qb⟩:=cH3 (L:=N) (by omega) (by omega) hdm hm
        have run:aQp (decide (K=2)) K N d=true:=by
          by_cases hk:K=2
          · subst hk;exact qb (by omega)
          · rw[decide_eq_false hk];obtain⟨n,rfl⟩:∃ n,K=n+3:=⟨K-3,by omega⟩;exact qa n
        obtain⟨ps,h1,h2,h3,h4,h5⟩:=cH6 run (by omega) g1 g2;have pr:=fun p (hp:p∈ps) (P:Nat) (hP:P≤16)=>bMy (h3 p hp) (k:=K) (P:=P) (by omega) (by omega) hP (decide_eq_decide.2 (by omega)) rfl
        have gsp:=vT h2 fun p hp=>⟨Nat.le_trans (pr p hp 0 (by omega)).1.2.1 (by omega),Nat.le_trans (pr p hp 0 (by omega)).1.2.2 (by omega)⟩
        by_cases hpr:0≤prec∧prec≤1000
        · obtain⟨P,rfl⟩:∃ P:Nat,prec=P:=⟨prec.toNat,by omega⟩;have hP:P≤12:=by omega
          obtain⟨W,hW⟩:∃ W:Pr→Nat→Nat→Rat,∀ p∈ps,(∀ j,j<p.dg→∀ i,i<P→lq (W p j i)≤2000)∧PGd 26 [i64 K,.agg p.cs,i64 P] (.tup [.sl p.dg (sC (fun j=>sS (W p j) P) p.dg),i64 0])∧PGd 27 [i64 K,.agg p.cs,i64 P] (.tup [.sl p.dg (sC (fun j=>sS (W p j) P) p.dg),i64 0]):=by
            classical
            exact⟨fun p=>if h:p∈ps then Classical.choose (pr p h P (by omega)).2 else fun _ _=>0,fun p hp=>by simp only[dif_pos hp];exact Classical.choose_spec (pr p hp P (by omega)).2⟩
          have hdg:=fun p (hp:p∈ps)=>(pr p hp 0 (by omega)).1.1
          have b1:=aDe (L:=N) (K:=K) (P:=P) (d:=d) (ps:=ps) (by omega) (fun p=>sC (fun j=>sS (W p j) P) p.dg) (fun p=>tD _ _) (fun p=>vO (fun j=>(kN _ _).2.2) _) (fun p=>aAx (fun j=>⟨(kN _ _).1,(kN _ _).2.1⟩) _) h4 (by
            have g:=qF P (by omega);rw[nS (by omega)]at g
            exact g) (fun p hp=>(hW p hp).2.1) hdg h1 h2
          have b2:=aQr (L:=N) (K:=K) (P:=P) (d:=d) (ps:=ps) (by omega) (fun p=>sC (fun j=>sS (W p j) P) p.dg) (fun p=>tD _ _) (fun p=>vO (fun j=>(kN _ _).2.2) _) (fun p=>aAx (fun j=>⟨(kN _ _).1,(kN _ _).2.1⟩) _) h5 (fun p hp=>(hW p hp).2.2) hdg h1 h2;rw[aMt]at b1 b2
          exact aHj hp hL h4 h5 b1 b2 gsp (xM (by omega) (fun j=>(kN _ _).2.2) fun j hj=>aXd (by omega) (by omega) (aXf (fun p hp=>(hW p hp).1) j hj))
        · obtain⟨b1,b2⟩:=aT9 (by omega) rp h4 h5;exact aHj hp hL h4 h5 b1 b2 gsp nil
  · exact err _ he gck
end
end Go.Proofs.YtaidcaemdkncgaaGreatDoor
