/- Contracts of functions of the program, and what proves them (texts: C10 Num6 Enc2 C11 C12 Orc). -/
import Derived.Test.YtaidcaemdkncgaaGreatDoorZSAH
import Derived.Test.YtaidcaemdkncgaaGreatDoorZSAL
set_option linter.all false
set_option maxRecDepth 100000
set_option maxHeartbeats 8000000
namespace Go.Proofs.YtaidcaemdkncgaaGreatDoor
open Go Go.Lg Go.Num
attribute [local irreducible] lrun lwp exThen exBlk keep goodPost
theorem lD (n:Int) (h: -9223372036854775808≤n∧n≤9223372036854775807):PGd 55 [i64 n] (aO n):=by
 have hm:n.natAbs≤9223372036854775808:=by omega
 rw[aO];by_cases hneg:n<0
 ·have hw1:IntKind.wrap .u64 n=((18446744073709551616-n.natAbs:Nat):Int):=by rw[dT];omega
  have hw2:IntKind.wrap .u64 (0-((18446744073709551616-n.natAbs:Nat):Int))=(n.natAbs:Int):=by rw[dT];omega
  generalize n.natAbs=m at*;refine aA aV Tryz.func55 rfl (by decide) (nt:=26) rfl (rs:=[.cell 2 45]) rfl (aW rfl) ?_
  (repeat(first|apply zO (by decide+kernel)|apply zP (by decide+kernel)|((fail_if_success refine aEv ?_);apply zS;(case h=>constructor<;>decide))|((first|apply cB rfl|apply aS);(case hs=>(simp(disch:=first|omega|exact kD rfl|exact kX rfl) only[smY,simprocAttr,bl,i64,hw1,hw2];exact rfl));first|refine bZ ?_|refine cA ?_|refine zq ?_)))
  apply aUh;apply vY;by_cases m0:m=0
  ·subst m0;refine iV (s':= ?_) (e:= .exit 0) (by simp) (fun Φ hΦ=> ?_) ?_
   rotate_left
   ·refine zA3 ?_;exact hΦ
   refine zA3 ?_;refine zR2 ?_;refine zV1 ?_;rw[bD];rfl
  ·skip
   refine kV (s':= ?_) (fun Φ hΦ=> ?_) ?_
   rotate_left
   ·refine zA3 ?_;exact hΦ
   by_cases m1:m / 4294967296=0
   ·rw[eU m0 (by omega)];have hd:(m:Int) / 4294967296=0:=by omega
    refine iV (s':= ?_) (e:= .exit 0) (by simp) (fun Φ hΦ=> ?_) ?_
    rotate_left
    ·refine zA3 ?_;exact hΦ
    refine zA3 ?_;refine zR2 ?_;refine zV1 ?_;simp[dg,dB,aN]
   ·rw[jV m0,eU m1 (by omega)];have hd:(m:Int) / 4294967296 / 4294967296=0:=by omega
    refine kV (s':= ?_) (fun Φ hΦ=> ?_) ?_
    rotate_left
    ·refine zA3 ?_;exact hΦ
    refine iV (s':= ?_) (e:= .exit 0) (by simp) (fun Φ hΦ=> ?_) ?_
    rotate_left
    ·refine zA3 ?_;exact hΦ
    refine zA3 ?_;refine zR2 ?_;refine zV1 ?_;simp[dg,dB,aN]
 ·have hw1:IntKind.wrap .u64 n=(n.natAbs:Int):=by rw[dT];omega
  generalize n.natAbs=m at*;refine aA aV Tryz.func55 rfl (by decide) (nt:=26) rfl (rs:=[.cell 2 45]) rfl (aW rfl) ?_
  (repeat(first|apply zO (by decide+kernel)|apply zP (by decide+kernel)|((fail_if_success refine aEv ?_);apply zS;(case h=>constructor<;>decide))|((first|apply cB rfl|apply aS);(case hs=>(simp(disch:=first|omega|exact kD rfl|exact kX rfl) only[smY,simprocAttr,bl,i64,hw1];exact rfl));first|refine bZ ?_|refine cA ?_|refine zq ?_)))
  apply aUh;apply vY;by_cases m0:m=0
  ·subst m0;refine iV (s':= ?_) (e:= .exit 0) (by simp) (fun Φ hΦ=> ?_) ?_
   rotate_left
   ·refine zA3 ?_;exact hΦ
   refine zA3 ?_;refine zR2 ?_;refine zV1 ?_;rw[bD];rfl
  ·skip
   refine kV (s':= ?_) (fun Φ hΦ=> ?_) ?_
   rotate_left
   ·refine zA3 ?_;exact hΦ
   by_cases m1:m / 4294967296=0
   ·rw[eU m0 (by omega)];have hd:(m:Int) / 4294967296=0:=by omega
    refine iV (s':= ?_) (e:= .exit 0) (by simp) (fun Φ hΦ=> ?_) ?_
    rotate_left
    ·refine zA3 ?_;exact hΦ
    refine zA3 ?_;refine zR2 ?_;refine zV1 ?_;simp[dg,dB,aN]
   ·rw[jV m0,eU m1 (by omega)];have hd:(m:Int) / 4294967296 / 4294967296=0:=by omega
    refine kV (s':= ?_) (fun Φ hΦ=> ?_) ?_
    rotate_left
    ·refine zA3 ?_;exact hΦ
    refine iV (s':= ?_) (e:= .exit 0) (by simp) (fun Φ hΦ=> ?_) ?_
    rotate_left
    ·refine zA3 ?_;exact hΦ
    refine zA3 ?_;refine zR2 ?_;refine zV1 ?_;simp[dg,dB,aN]
attribute [local irreducible] sg mg
theorem fI (n:Int) (h: -9223372036854775808≤n∧n≤9223372036854775807):PGd 50 [i64 n] (bG n):=by
 have h1:=lD n h;have h2:=lD 1 (by omega);rw[aH,Rat.num_intCast,Rat.den_intCast,Int.natCast_one];rw[aY,i64]at*
 refine aA aV Tryz.func50 rfl (by decide) (nt:=7) rfl (rs:=[.cell 2 47]) rfl (aW rfl) ?_;refine zA5 ?_;exact zQ3
theorem aK8 (p q:Rat) (hp:lq p≤1099511627776) (hq:lq q≤1099511627776):PGd 22 [bG p,bG q] (bl (decide (p=q))):=by
 unfold lq at hp hq;have h1:=zU p.num q.num (by omega) (by omega);have h2:=zU p.den q.den (by omega) (by omega);have he:p=q↔p.num=q.num∧(p.den:Int)=q.den:=⟨fun e=>by subst e;exact⟨rfl,rfl⟩,fun e=>Rat.ext e.1 (by omega)⟩;simp only[aY,aH,he,bl]at*;clear he;generalize (p.den:Int)=dp at*;generalize (q.den:Int)=dq at*;generalize p.num=np at*;generalize q.num=nq at*;by_cases h3:np=nq
 ·have h3':decide (np=nq)=true:=by simpa using h3
  rw[h3']at h1
  simp only[h3,true_and]at*;refine aA aV Tryz.func22 rfl (by decide) (nt:=17) rfl (rs:=[.tmp 4]) rfl (aW rfl) ?_;refine zA5 ?_;exact zQ3
 ·have h3':decide (np=nq)=false:=by simpa using h3
  rw[h3']at h1
  simp only[h3,false_and,decide_false]at*;refine aA aV Tryz.func22 rfl (by decide) (nt:=17) rfl (rs:=[.tmp 4]) rfl (aW rfl) ?_;refine zA5 ?_;refine fX rfl (by decide) rfl ?_;refine zA5 ?_;exact zQ3
end Go.Proofs.YtaidcaemdkncgaaGreatDoor
namespace Go.Num
def ch:Nat→Nat→Nat
 |_,0=>1
 |0,_+1=>0
 |n+1,k+1=>ch n k+ch n (k+1)
theorem sP (n:Nat):ch n 0=1:=by cases n <;>rfl
theorem aOt:∀ (n k:Nat),n<k→ch n k=0
 |0,k+1,_=>rfl
 |n+1,k+1,h=>by rw[ch,aOt n k (by omega),aOt n (k+1) (by omega)]
theorem aU6:∀ n:Nat,ch n n=1
 |0=>rfl
 |n+1=>by rw[ch,aU6 n,aOt n (n+1) (by omega)]
theorem aU7:∀ n k:Nat,ch n k≤2^n
 |n,0=>by rw[sP];exact Nat.one_le_two_pow
 |0,k+1=>by simp[ch]
 |n+1,k+1=>by
  have h1:=aU7 n k;have h2:=aU7 n (k+1);rw[ch,Nat.pow_succ];omega
theorem aF0:∀ n k:Nat,ch n (k+1)*(k+1)=ch n k*(n-k)
 |0,k=>by simp[ch]
 |n+1,0=>by
  have h:=aF0 n 0;rw[sP]at h⊢
  rw[ch,sP]
  omega
 |n+1,k+1=>by
  have h1:=aF0 n k;have h2:=aF0 n (k+1);rw[ch,ch.eq_3 n k];rw[Nat.add_mul,h2,Nat.mul_succ (ch n (k+1)) (k+1),h1,Nat.add_mul];by_cases h:k+1≤n
  · obtain⟨j,rfl⟩:∃ j,n=k+1+j:=⟨n-(k+1),by omega⟩;rw[show k+1+j-k=j+1 by omega,show k+1+j-(k+1)=j by omega,show k+1+j+1-(k+1)=j+1 by omega,Nat.mul_succ (ch (k+1+j) (k+1)) j];omega
  · rw[aOt n (k+1) (by omega),show n-k=0 by omega,show n+1-(k+1)=0 by omega];omega
def yH (n k:Nat):List Int:=(List.range k).map fun j=>(ch n j:Int)
theorem jO (n k:Nat):(yH n k).length=k:=by simp[yH]
theorem aYu (n k:Nat):yH n (k+1)=yH n k++[(ch n k:Int)]:=by simp[yH,List.range_succ]
theorem aBt {n k j:Nat}(h:j<k):(yH n k).getD j 0=ch n j:=by simp[yH,h]
def bL:Int:=117288381359406970983270
def bU:List Int:=[117288381359406970983270,-58644190679703485491635,19548063559901161830545,0,-3909612711980232366109,0,2792580508557308832935,0,-3909612711980232366109,0,8885483436318709922975,0,-29687278944816929285509,0,136836444919308132813815,0,-831827598778382380483309,0,6447480482572814030229455,0,-62060125931961850334423509,0,726264105946166152143673895,0,-10154857745376400364660802109,0,167196601078381306956319931135,0,-3201765335919225172319660547109,0,70558446956583857937898967065175,0,-1772968208439921418506649377818509,0,50388806092943619857172626414420015,0,-1608217844763097977263566777424008309,0,57275707257898363866531649321536619655,0,-2263264556789521123807814394864273740509,0,98720815151383560847395902019358601568095,0,-4731187154922086023514472442331162912871109,0,248073707230031824271815688716185260902449335,0,-14176208608958377565787153081487291535638488109,0,879764519439969048939855863579482941685333727375,0,-59099012755194024999880431893589136769594730911509,0,4284401066943885675566805652970005387196639671146215,0,-334257452221961966008565390215914584966870907637693309,0,27991373618881717075294980054448641465401013587915729855,0,-2509965409553402879582773192133475171882497240453229617509]
def bq (j:Nat):Rat:=Rat.divInt (bU.getD j 0) bL
def aBu (n:Nat):Nat→Int
 |0=>0
 |k+1=>aBu n k+(ch n k:Int)*bU.getD k 0
def mI (n k:Nat):Rat:=Rat.divInt (aBu n k) bL
def bn (k:Nat):List Rat:=(List.range k).map bq
theorem jP (k:Nat):(bn k).length=k:=by simp[bn]
theorem aU8 (k:Nat):bn (k+1)=bn k++[bq k]:=by simp[bn,List.range_succ]
theorem aD1 {k j:Nat}(h:j<k):(bn k).getD j 0=bq j:=by simp[bn,h]
theorem bDl:bL≠0:=by decide
theorem aI7 (n:Nat):mI n 0=0:=by rw[mI,aBu,Rat.zero_divInt]
theorem yI (a c u L:Int):Rat.divInt (a+c*u) L=Rat.divInt a L+(c:Rat)*Rat.divInt u L:=by
 rw[Rat.divInt_eq_div,Rat.divInt_eq_div,Rat.divInt_eq_div,Rat.intCast_add,Rat.intCast_mul,Rat.div_def,Rat.div_def,Rat.div_def,Rat.add_mul,Rat.mul_assoc]
theorem aI8 (n k:Nat):mI n (k+1)=mI n k+((ch n k:Int):Rat)*bq k:=by
 rw[mI,aBu,yI];rfl
def nxt (l:List Nat):List Nat:=List.zipWith (· + ·) (0::l) (l++[0])
def xB:Nat→List Nat
 |0=>[1]
 |n+1=>nxt (xB n)
theorem iH:∀ n k:Nat,(xB n)[k]? =if k≤n then some (ch n k)else none
 |0,k=>by
  cases k with
  |zero=>rfl
  |succ k=>simp[xB]
 |n+1,k=>by
  rw[xB,nxt,List.getElem?_zipWith]
  have hl:(xB n).length=n+1:=by
    have h1:=iH n n;have h2:=iH n (n+1);rw[if_pos (Nat.le_refl _)]at h1
    rw[if_neg (by omega)]at h2
    obtain⟨h3,_⟩:=List.getElem?_eq_some_iff.1 h1;have:=List.getElem?_eq_none_iff.1 h2;omega
  cases k with
  |zero=>
   rw[List.getElem?_append_left (by omega),iH n 0]
   simp[sP]
  |succ k=>
   rw[List.getElem?_cons_succ,iH n k];by_cases h1:k+1≤n
   · rw[List.getElem?_append_left (by omega),iH n (k+1),if_pos h1,if_pos (by omega),if_pos (by omega)];simp[ch]
   · by_cases h2:k≤n
     · obtain rfl:k=n:=by omega
       rw[List.getElem?_append_right (by omega),hl,if_pos h2,if_pos (by omega)];simp[ch,aOt k (k+1) (by omega)]
     · rw[if_neg h2,if_neg (by omega)]
def dot:Nat→List Nat→List Int→Int
 |0,_,_=>0
 |k+1,c,l=>(c.headD 0:Int)*l.headD 0+dot k c.tail l.tail
theorem aOu:∀ (k:Nat) (c:List Nat) (l:List Int),dot (k+1) c l=dot k c l+(c.getD k 0:Int)*l.getD k 0
 |0,c,l=>by cases c <;>cases l <;>simp[dot]
 |k+1,c,l=>by
  rw[dot,aOu k c.tail l.tail,dot]
  cases c <;>cases l <;>simp <;>omega
theorem aOv (n:Nat):∀ k:Nat,k≤n+1→dot k (xB n) bU=aBu n k
 |0,_=>rfl
 |k+1,h=>by
  rw[aOu,aOv n k (by omega),aBu,List.getD_eq_getElem?_getD,iH,if_pos (by omega)];rfl
theorem bDm:(List.range 60).all (fun m=>decide (dot (m+1) (xB (m+2)) bU=(-((m+1:Nat):Int)-1)*bU.getD (m+1) 0))=true:=by decide+kernel
theorem aYv {m:Nat}(h0:0<m) (h:m≤60):aBu (m+1) m=(-(m:Int)-1)*bU.getD m 0:=by
 obtain⟨k,rfl⟩:∃ k,m=k+1:=⟨m-1,by omega⟩;have:=List.all_eq_true.1 bDm k (List.mem_range.2 (by omega));rw[← aOv _ _ (by omega)];exact of_decide_eq_true this
theorem aU9 {m:Nat}(h0:0<m) (h:m≤60):mI (m+1) m / ((-(m:Int)-1:Int):Rat)=bq m:=by
 have hne:((-(m:Int)-1:Int):Rat)≠0:=by
  intro e;have:(-(m:Int)-1:Int)=0:=by exact_mod_cast e
  omega
 rw[mI,aYv h0 h,bq,Rat.divInt_eq_div,Rat.divInt_eq_div,Rat.intCast_mul,Rat.div_def,Rat.div_def,Rat.div_def,Rat.mul_assoc,Rat.mul_comm,Rat.mul_assoc,← Rat.mul_assoc _ ((-(m:Int)-1:Int):Rat),Rat.inv_mul_cancel _ hne,Rat.one_mul,Rat.mul_comm]
theorem aYw:bU.all (fun u=>Nat.ble (u.natAbs+1) (2^200))=true:=by decide+kernel
theorem bNi (j:Nat):(bU.getD j 0).natAbs<2^200:=by
 by_cases h:j<bU.length
 ·have h1:=List.all_eq_true.1 aYw bU[j] (List.getElem_mem h);have e:bU.getD j 0=bU[j]:=by simp[h]
  rw[e];exact Nat.le_of_ble_eq_true h1
 ·have e:bU.getD j 0=0:=by simp[Nat.le_of_not_lt h]
  rw[e];exact Nat.two_pow_pos _
theorem aVa (n:Nat):∀ k:Nat,(aBu n k).natAbs≤k*(2^n*2^200)
 |0=>by simp[aBu]
 |k+1=>by
  have h1:=aVa n k;have h2:=Nat.mul_le_mul (aU7 n k) (Nat.le_of_lt (bNi k));have h3:((ch n k:Int)*bU.getD k 0).natAbs=ch n k*(bU.getD k 0).natAbs:=by rw[Int.natAbs_mul,Int.natAbs_natCast]
  have h4:=Int.natAbs_add_le (aBu n k) ((ch n k:Int)*bU.getD k 0);rw[aBu,Nat.succ_mul];omega
theorem bH {a:Int}{e:Nat}(h:a.natAbs<2^(32*e)):len a≤e:=by
 rw[Nat.pow_mul]at h
 exact bV h
theorem aSk:len bL≤3:=bH (e:=3) (by decide)
theorem aYx {x a b c d:Nat}(hx:x≤2^a) (h:a+(b+c)<d):x*(2^b*2^c)<2^d:=by
 have h5:x*(2^b*2^c)≤2^a*(2^b*2^c):=Nat.mul_le_mul_right _ hx;rw[← Nat.pow_add,← Nat.pow_add]at h5
 rw[← Nat.pow_add];exact Nat.lt_of_le_of_lt h5 (Nat.pow_lt_pow_right (by omega) h)
theorem aYy {z:Int}{x a b c e:Nat}(hz:z.natAbs≤x*(2^b*2^c)) (hx:x≤2^a) (h:a+(b+c)<32*e):len z≤e:=
 bH (Nat.lt_of_le_of_lt hz (aYx hx h))
theorem aD2 {n k:Nat}(hn:n≤100) (hk:k≤100):lq (mI n k)≤20:=by
 have h1:=aVa n k;have h2:2^n≤2^100:=Nat.pow_le_pow_right (by omega) hn;have h3:k*(2^n*2^200)≤100*(2^100*2^200):=Nat.mul_le_mul hk (Nat.mul_le_mul_right _ h2);have h4:len (aBu n k)≤14:=aYy (Nat.le_trans h1 h3) (a:=7) (by decide) (by decide);have h5:=eQ (n:=aBu n k) bDl;have:=aSk;rw[mI];unfold lq;omega
theorem aOw (j:Nat):lq (bq j)≤20:=by
 have h4:len (bU.getD j 0)≤7:=bH (e:=7) (Nat.lt_of_lt_of_le (bNi j) (Nat.pow_le_pow_right (by omega) (by omega)));have h5:=eQ (n:=bU.getD j 0) bDl;have:=aSk;rw[bq];unfold lq;omega
theorem aF1 {n:Nat}(hn:n≤100) (k:Nat):len (ch n k:Int)≤4:=by
 refine bH (e:=4) ?_;rw[Int.natAbs_natCast];exact Nat.lt_of_le_of_lt (Nat.le_trans (aU7 n k) (Nat.pow_le_pow_right (by omega) hn)) (Nat.pow_lt_pow_right (by omega) (by omega))
end Go.Num
namespace Go.Proofs.YtaidcaemdkncgaaGreatDoor
section
open Go Go.Lg Go.Num
def ic (l:List Int):List LV:=l.flatMap fun z=>[sg z,mg z]
def qc (l:List Rat):List LV:=l.flatMap dD
def oH (l:List Int):LV:= .sl l.length (ic l)
theorem bE (f:List Rat):encF f= .sl f.length (qc f):=rfl
theorem uY (l:List Int):(ic l).length=l.length*2:=by induction l with
 |nil=>rfl
 |cons a l ih=>rw[ic,List.flatMap_cons,List.length_append];rw[ic]at ih;rw[ih,List.length_cons];simp;omega
theorem gV (l:List Rat):(qc l).length=l.length*4:=by induction l with
 |nil=>rfl
 |cons a l ih=>rw[qc,List.flatMap_cons,List.length_append];rw[qc]at ih;rw[ih,List.length_cons];simp[dD];omega
theorem bKq {l:List Int}{m:Nat}(h:m=l.length*2):(ic l).take m=ic l:=List.take_of_length_le (by rw[uY];omega)
theorem aVb {l:List Rat}{m:Nat}(h:m=l.length*4):(qc l).take m=qc l:=List.take_of_length_le (by rw[gV];omega)
theorem uZ (l:List Int) (x:Int):ic l++[sg x,mg x]=ic (l++[x]):=by simp[ic]
theorem iI (l:List Rat) (x:Rat):qc l++[sg x.num,mg x.num,sg (x.den:Int),mg (x.den:Int)]=qc (l++[x]):=by simp[qc,dR]
theorem aBv (x:Int):[sg x,mg x]=ic [x]:=by simp[ic]
theorem jK (x:Rat):[sg x.num,mg x.num,sg (x.den:Int),mg (x.den:Int)]=qc [x]:=by simp[qc,dR]
theorem aVc:∀ (l:List Int) (j:Nat),(ic l).drop (j*2)=ic (l.drop j)
 |[],j=>by simp[ic]
 |q::f,0=>by simp
 |q::f,j+1=>by
  rw[show(j+1)*2=2+j*2 by omega,← List.drop_drop,List.drop_succ_cons,← aVc f j];rfl
theorem aVd (l:List Rat) (j:Nat):(qc l).drop (j*4)=qc (l.drop j):=aBs l j
theorem bNj {l:List Int}{j:Nat}(h:j<l.length):((ic l).drop (j*2)).take 2=[sg (l.getD j 0),mg (l.getD j 0)]:=by
 rw[aVc,List.drop_eq_getElem_cons h];have:l.getD j 0=l[j]:=by simp[h]
 rw[this];simp only[ic,List.flatMap_cons];simp
theorem bNk {l:List Rat}{j:Nat}(h:j<l.length):((qc l).drop (j*4)).take 4=[sg (l.getD j 0).num,mg (l.getD j 0).num,sg ((l.getD j 0).den:Int),mg ((l.getD j 0).den:Int)]:=by
 rw[aVd,List.drop_eq_getElem_cons h];have:l.getD j 0=l[j]:=by simp[h]
 rw[this];simp only[qc,List.flatMap_cons,dR];simp
theorem cD3 {l:List Int}(h:0<l.length):(ic l).take 2=[sg (l.getD 0 0),mg (l.getD 0 0)]:=by
 have:=bNj h
 rwa [Nat.zero_mul,List.drop_zero]at this
theorem cD4 {l:List Rat}(h:0<l.length):(qc l).take 4=[sg (l.getD 0 0).num,mg (l.getD 0 0).num,sg ((l.getD 0 0).den:Int),mg ((l.getD 0 0).den:Int)]:=by
 have:=bNk h
 rwa [Nat.zero_mul,List.drop_zero]at this
theorem sQ (z:Int):fK (sg z)=true:=rfl
theorem sR (z:Int):fK (mg z)=true:=rfl
theorem aSl {Q:LV→Prop}(h1:∀ z,Q (sg z)) (h2:∀ z,Q (mg z)) (l:List Int):∀ c∈ic l,Q c:=by
 intro c hc;simp only[ic,List.mem_flatMap,List.mem_cons,List.not_mem_nil,or_false]at hc;obtain⟨x,_,rfl |rfl⟩:=hc
 ·exact h1 _
 ·exact h2 _
theorem lE {Q:LV→Prop}(h1:∀ z,Q (sg z)) (h2:∀ z,Q (mg z)) (l:List Rat):∀ c∈qc l,Q c:=by
 intro c hc;simp only[qc,List.mem_flatMap,dR,List.mem_cons,List.not_mem_nil,or_false]at hc;obtain⟨x,_,rfl |rfl |rfl |rfl⟩:=hc
 ·exact h1 _
 ·exact h2 _
 ·exact h1 _
 ·exact h2 _
theorem bUq {h:Nat→Option Blk}{ok:Nat→Bool}{k:Nat}(l:List Int):fM h ok (k+1) (ic l)=some (ic l,[]):=jC (aSl sQ sR _)
theorem bUr {h:Nat→Option Blk}{ok:Nat→Bool}{k:Nat}(l:List Rat):fM h ok (k+1) (qc l)=some (qc l,[]):=jC (lE sQ sR _)
theorem bDn (l:List Int):(∀ c∈ic l,aB c=true)=True:=eq_true (aSl s9 s10 _)
theorem aF2 (l:List Rat):(∀ c∈qc l,aB c=true)=True:=eq_true (lE s9 s10 _)
theorem bUs {nb:Nat}{ρ:Nat→Nat}(l:List Int):renLs nb ρ (ic l)=some (ic l):=cM (aSl s9 s10 _)
theorem bUt {nb:Nat}{ρ:Nat→Nat}(l:List Rat):renLs nb ρ (qc l)=some (qc l):=cM (lE s9 s10 _)
def smT:=nd uY (nd gV (nd @bKq (nd @aVb (nd @bNj (nd @bNk (nd @cD3 (nd @cD4 (nd @bUq (nd @bUr (nd bDn (nd aF2 (nd @bUs (nd @bUt smS)))))))))))))
end
section
open Go Go.Lg Go.Num
attribute [local irreducible] lrun lwp exThen exBlk keep goodPost sg mg
theorem bKr {n k:Nat}(h:k≤n) (h0:0<k):((ch n (k-1):Int)*((n:Int)+1-k)) / (k:Int)=ch n k∧((ch n (k-1):Int)*((n:Int)+1-k)) % (k:Int)=0:=by
 obtain⟨j,rfl⟩:∃ j,k=j+1:=⟨k-1,by omega⟩;have h1:=aF0 n j;rw[Nat.add_sub_cancel];have h2:((n:Int)+1-((j+1:Nat):Int))=((n-j:Nat):Int):=by omega
 rw[h2,← Int.natCast_mul,← h1,Int.natCast_mul];exact⟨Int.mul_ediv_cancel _ (by omega),Int.mul_emod_left _ _⟩
theorem aOx (n:Nat) (hn:n≤64):PGd 218 [i64 n] (oH (yH n (n+1))):=by
 have h1:=jW 1 (by omega);rw[oH,jO];rw[aY,i64]at*
 refine aA aV Tryz.func218 rfl (by decide) (nt:=36) rfl (rs:=[.tmp 2]) rfl (aW rfl) ?_;refine dP ?_;refine aG (α:={k:Nat // 0<k∧k≤n+1}) (fun k=>st 36 (lk [(0,i64 n),(2,nilL),(3,.own 0 0 k.1 2),(4,i64 k.1)]) (cG [(0,⟨45,ic (yH n k.1),false⟩)]) 1) (fun k=>n+1-k.1) ⟨1,by omega,by omega⟩ ?_ ?_
 ·(refine Sub.heap1 2 ?_ (by simp only[aI,simprocAttr,bl,i64,smT];exact rfl) ?_ ?_;all_goals(first |exact aE _ |with_reducible rfl |(simp only[aI,simprocAttr,bl,i64,smT])|skip))
  simp[yH,ic,sP]
 ·rintro⟨k,hk0,hk⟩;simp only[st];have hl:=jO n k;by_cases hlt:k≤n
  ·have hlc:=aF1 (show n≤100 by omega) (k-1);have g1:=jW ((n:Int)+1-k) (by omega);have g2:=jW (k:Int) (by omega);have hs1:len ((n:Int)+1-k)≤1:=bH (e:=1) (by omega);have hs2:len (k:Int)≤1:=bH (e:=1) (by omega);have hlm:=cJ (ch n (k-1):Int) ((n:Int)+1-k);have g3:=gD (ch n (k-1)) ((n:Int)+1-k) (by omega) (by omega);obtain⟨e1,e2⟩:=bKr hlt hk0;have g4:=kU ((ch n (k-1):Int)*((n:Int)+1-k)) k (by omega) e2 (by omega) (by omega);rw[e1]at g4
   have hget:(yH n k).getD (k-1) 0=(ch n (k-1):Int):=aBt (by omega);have happ:=aYu n k;simp only[aY,i64]at g1 g2 g3 g4;refine cZ hget ?_;refine⟨⟨k+1,by omega,by omega⟩,?_,by simp only;omega⟩
   (refine Sub.heap1 27 ?_ (by simp only[aI,simprocAttr,bl,i64,smT];exact rfl) ?_ ?_;all_goals(first |exact aE _ |with_reducible rfl |(simp only[aI,simprocAttr,bl,i64,smT])|skip))
   rw[happ,← uZ]
  ·obtain rfl:k=n+1:=by omega
   refine dP ?_;exact lU
end
section
open Go Go.Lg Go.Num
attribute [local irreducible] lrun lwp exThen exBlk keep goodPost sg mg bq mI
theorem bq0:bq 0=1:=by decide+kernel
theorem aK9 (n:Nat) (hn:n≤60):PGd 128 [i64 n] (encF (bn (n+1))):=by
 have h1:=iG 1 (by omega);have h0:=iG 0 (by omega);rw[bE,jP];rw[show((1:Int):Rat)=bq 0 by rw[bq0];rfl]at h1
 have hb1:bn 1=[bq 0]:=rfl;rw[aH,i64]at*
 refine aA aV Tryz.func128 rfl (by decide) (nt:=53) rfl (rs:=[.tmp 2]) rfl (aW rfl) ?_;refine dP ?_;refine aG (α:={m:Nat // 0<m∧m≤n+1}) (fun m=>st 53 (lk [(0,i64 n),(2,nilL),(3,.own 0 0 m.1 4),(4,i64 m.1)]) (cG [(0,⟨47,qc (bn m.1),false⟩)]) 1) (fun m=>n+1-m.1) ⟨1,by omega,by omega⟩ ?_ ?_
 ·(refine Sub.heap1 2 ?_ (by simp only[aI,simprocAttr,bl,i64,smT];exact rfl) ?_ ?_;all_goals(first |exact aE _ |with_reducible rfl |(simp only[aI,simprocAttr,bl,i64,smT])|skip))
  rw[hb1,← jK]
 ·rintro⟨m,hm0,hm⟩;simp only[st];have hl:=jP m;by_cases hlt:m≤n
  ·have hrow:=aOx (m+1) (by omega);rw[oH,jO,i64]at hrow
   have hl2:=jO (m+1) (m+1+1)
   (repeat(first|apply zO (by decide+kernel)|apply zP (by decide+kernel)|((fail_if_success refine aEv ?_);apply zS;(case h=>constructor<;>decide))|((first|apply cB rfl|apply aS);(case hs=>(simp(disch:=first|omega|exact kD rfl|exact kX rfl) only[smY,simprocAttr,bl,i64,smT];exact rfl));first|refine bZ ?_|refine cA ?_|refine zq ?_)))
   refine rY rfl (by decide) rfl (by simp(disch:=first|omega|exact kD rfl|exact kX rfl) only[smY,simprocAttr,bl,i64,smT];exact rfl) h0 ?_
   (repeat(first|apply zO (by decide+kernel)|apply zP (by decide+kernel)|((fail_if_success refine aEv ?_);apply zS;(case h=>constructor<;>decide))|((first|apply cB rfl|apply aS);(case hs=>(simp(disch:=first|omega|exact kD rfl|exact kX rfl) only[smY,simprocAttr,bl,i64,smT];exact rfl));first|refine bZ ?_|refine cA ?_|refine zq ?_)))
   refine rY rfl (by decide) rfl (by simp(disch:=first|omega|exact kD rfl|exact kX rfl) only[smY,simprocAttr,bl,i64,smT];exact rfl) hrow ?_
   (repeat(first|apply zO (by decide+kernel)|apply zP (by decide+kernel)|((fail_if_success refine aEv ?_);apply zS;(case h=>constructor<;>decide))|((first|apply cB rfl|apply aS);(case hs=>(simp(disch:=first|omega|exact kD rfl|exact kX rfl) only[smY,simprocAttr,bl,i64,smT];exact rfl));first|refine bZ ?_|refine cA ?_|refine zq ?_)))
   refine aG (α:={k:Nat // k≤m}) (fun k=>st 53 (lk [(0,i64 n),(2,nilL),(3,.own 0 0 m 4),(4,i64 m),(5,.ptr 1 0),(6,.sl (m+1+1) (ic (yH (m+1) (m+1+1)))),(22,.own 0 0 m 4),(23,i64 m),(24,i64 k.1)]) (cG [(0,⟨47,qc (bn m),false⟩),(1,⟨47,[sg (mI (m+1) k.1).num,mg (mI (m+1) k.1).num,sg ((mI (m+1) k.1).den:Int),mg ((mI (m+1) k.1).den:Int)],false⟩)]) 2) (fun k=>m-k.1) ⟨0,by omega⟩ ?_ ?_
   ·(refine fY [0,5] ?_ ?_ ?_;all_goals(first|(simp only[aB,aI,simprocAttr,bl,i64,smT];done) |(simp only[aI,simprocAttr,bl,i64,smT];try((repeat' apply And.intro);all_goals rfl)) |skip))
    simp only[aI7];exact⟨trivial,rfl⟩
   ·rintro⟨k,hk⟩;simp only[st];by_cases hkl:k<m
    ·have c1:=aF1 (show m+1≤100 by omega) k;have c2:=aD2 (n:=m+1) (k:=k) (by omega) (by omega);have c3:=aOw k;have c4:=jZ ((ch (m+1) k:Int):Rat) (bq k);have c5:=sK (ch (m+1) k:Int);have g1:=oD (ch (m+1) k) (by omega);have g2:=gS ((ch (m+1) k:Int):Rat) (bq k) (by omega) (by omega);have g3:=kZ (mI (m+1) k) (((ch (m+1) k:Int):Rat)*bq k) (by omega) (by omega);rw[← aI8]at g3
     have e1:(yH (m+1) (m+1+1)).getD k 0=(ch (m+1) k:Int):=aBt (by omega);have e2:(bn m).getD k 0=bq k:=aD1 hkl;simp only[aY,aH]at g1 g2 g3;refine cZ (nd e1 e2) ?_;refine⟨⟨k+1,by omega⟩,?_,by simp only;omega⟩;exact zL0 [0,1]
    ·obtain rfl:k=m:=by omega
     have c2:=aD2 (n:=k+1) (k:=k) (by omega) (by omega);have g1:=iG (-(k:Int)-1) (by omega);have c3:=sK (-(k:Int)-1);have c4:len (-(k:Int)-1)≤1:=bH (e:=1) (by omega)
     have hne:((-(k:Int)-1:Int):Rat)≠0:=by
      intro e;have:(-(k:Int)-1:Int)=0:=by exact_mod_cast e
      omega
     have g2:=uT (mI (k+1) k) ((-(k:Int)-1:Int):Rat) hne (by omega) (by omega);rw[aU9 hm0 (by omega)]at g2
     simp only[aH,i64]at g1 g2;have happ:=aU8 k
     (repeat(first|apply zO (by decide+kernel)|apply zP (by decide+kernel)|(apply zS;(case h=>constructor<;>decide))|((first|apply cB rfl|apply aS|apply zT rfl (by decide) rfl);(case hs=>(simp(disch:=first|omega|exact kD rfl|exact kX rfl) only[smY,simprocAttr,bl,i64,smT,Int.zero_sub];exact rfl));first|refine bZ ?_|refine cA ?_|refine zq ?_|(case hg=>assumption))))
     refine⟨⟨k+1,by omega,by omega⟩,?_,by simp only;omega⟩
     (refine Sub.heap1 18 ?_ (by simp only[aI,simprocAttr,bl,i64,smT];exact rfl) ?_ ?_;all_goals(first |exact aE _ |with_reducible rfl |(simp only[aI,simprocAttr,bl,i64,smT])|skip))
     rw[happ,← iI]
  ·obtain rfl:m=n+1:=by omega
   refine dP ?_;exact lU
end
section
open Go Go.Lg Go.Num
def dgF:Nat→Nat→List Nat
 |0,_=>[]
 |k+1,n=>match n with
  |0=>[]
  |m+1=>dC ((m+1) % 4294967296) fun d=>d::dC ((m+1) / 4294967296) fun r=>dgF k r
theorem aSm:∀ (k n:Nat),n<4294967296^k→dgF k n=aC n
 |0,n,h=>by
  obtain rfl:n=0:=by simp at h;exact h
  rw[bD];rfl
 |k+1,0,_=>by rw[bD];rfl
 |k+1,m+1,h=>by
  rw[Nat.pow_succ]at h
  have:=aSm k ((m+1) / 4294967296) (by omega);rw[dgF,cF,cF,this,← jV (by omega)]
def rdD:LV→Option Nat
 | .lit (.int .u32 (.ofNat d))=>bif Nat.blt d 4294967296 then some d else none
 |_=>none
def bKs:List LV→Option (List Nat)
 |[]=>some []
 |c::cs=>match rdD c,bKs cs with
  |some d,some ds=>some (d::ds)
  |_,_=>none
def aF3:List Nat→Bool
 |[]=>true
 |[d]=> !(Nat.beq d 0)
 |_::ds=>aF3 ds
def rdM:LV→Option Nat
 | .sl n cs=>match bKs cs with
   |some ds=>bif Nat.beq n ds.length && aF3 ds then some (val ds)else none
   |none=>none
 |_=>none
def rdI:LV→LV→Option Int
 | .lit (.bool false),m=>(rdM m).map Int.ofNat
 | .lit (.bool true),m=>match rdM m with
   |some (k+1)=>some (Int.negSucc k)
   |_=>none
 |_,_=>none
def rdQ:List LV→Option Rat
 |[a,b,c,d]=>match rdI a b,rdI c d with
  |some n,some (.ofNat e)=>iE n fun n=>dC e fun e=>if h:e≠0∧Nat.Coprime n.natAbs e then some ⟨n,e,h.1,h.2⟩else none
  |_,_=>none
 |_=>none
def rdF:Nat→List LV→Option (List Rat)
 |0,[]=>some []
 |k+1,a::b::c::d::r=>match rdQ [a,b,c,d],rdF k r with
  |some q,some f=>some (q::f)
  |_,_=>none
 |_,_=>none
theorem bUu {c:LV}{d:Nat}(h:rdD c=some d):c= .lit (.int .u32 (d:Int))∧d<4294967296:=by
 unfold rdD at h;split at h
 ·rename_i e
  cases hb:Nat.blt e 4294967296 with
  |true=>
   rw[hb]at h
   cases h
   exact⟨rfl,Nat.le_of_ble_eq_true hb⟩
  |false=>rw[hb]at h;cases h
 ·cases h
theorem aVe:∀ {cs:List LV}{ds:List Nat},bKs cs=some ds→cs=dB ds∧OkD ds
 |[],ds,h=>by cases h;exact⟨rfl,OkD.nil⟩
 |c::cs,ds,h=>by
  unfold bKs at h;split at h
  · rename_i d ds' h1 h2
    cases h
    obtain⟨e1,l1⟩:=bUu h1;obtain⟨e2,l2⟩:=aVe h2;subst e1;subst e2;exact⟨rfl,OkD.cons l1 l2⟩
  · cases h
theorem aI9:∀ {ds:List Nat},aF3 ds=true→∀ h:ds≠[],ds.getLast h≠0
 |[],_,h=>absurd rfl h
 |[d],hl,_=>by
  simp only[aF3,Bool.not_eq_true']at hl;intro e;simp only[List.getLast_singleton]at e;subst e
  cases hl
 |a::b::ds,hl,h=>by
  rw[List.getLast_cons (by simp)];exact aI9 (ds:=b::ds) hl (by simp)
theorem aSn {m:LV}{n:Nat}(h:rdM m=some n):m=dg (aC n):=by
 unfold rdM at h;split at h
 ·rename_i k cs;split at h
  ·rename_i ds hd;obtain⟨e1,e2⟩:=aVe hd
   cases hb:(Nat.beq k ds.length && aF3 ds)with
   |true=>
    rw[hb]at h
    cases h
    rw[Bool.and_eq_true]at hb
    have hk:=Nat.eq_of_beq_eq_true hb.1;rw[qH e2 (aI9 hb.2),e1,hk]
    rfl
   |false=>rw[hb]at h;cases h
  ·cases h
 ·cases h
theorem kB {a b:LV}{z:Int}(h:rdI a b=some z):a=sg z∧b=mg z:=by
 unfold rdI at h;split at h
 ·obtain⟨n,hn,rfl⟩:=Option.map_eq_some_iff.1 h;rw[aSn hn];refine⟨?_,rfl⟩;have:¬(Int.ofNat n<0):=by simp
  simp[sg,bl]
 ·split at h
  ·rename_i k hk
   cases h
   rw[aSn hk];refine⟨?_,rfl⟩;have:Int.negSucc k<0:=Int.negSucc_lt_zero k;simp[sg,bl]
  ·cases h
 ·cases h
theorem vA {l:List LV}{q:Rat}(h:rdQ l=some q):l=dD q:=by
 unfold rdQ at h;split at h
 ·split at h
  ·rename_i a b c d n e h1 h2;rw[cY,cF]at h
   split at h
   ·cases h
    obtain⟨a1,a2⟩:=kB h1;obtain⟨a3,a4⟩:=kB h2;rw[dR,a1,a2,a3,a4];rfl
   ·cases h
  ·cases h
 ·cases h
theorem bDo:∀ {k:Nat}{l:List LV}{f:List Rat},rdF k l=some f→l=f.flatMap dD∧k=f.length
 |0,[],f,h=>by cases h;exact⟨rfl,rfl⟩
 |0,_::_,f,h=>by cases h
 |k+1,[],f,h=>by cases h
 |k+1,[_],f,h=>by cases h
 |k+1,[_,_],f,h=>by cases h
 |k+1,[_,_,_],f,h=>by cases h
 |k+1,a::b::c::d::r,f,h=>by
  unfold rdF at h;split at h
  · rename_i q f' h1 h2
    cases h
    have e1:=vA h1;obtain⟨e2,e3⟩:=bDo h2;rw[List.flatMap_cons,← e1,← e2];exact⟨rfl,by simp[e3]⟩
  · cases h
def fQ {α:Type}(q:Rat) (k:Rat→α):α:=iE q.num fun n=>dC q.den fun e=>if h:e≠0∧Nat.Coprime n.natAbs e then k ⟨n,e,h.1,h.2⟩else k q
theorem aOy {α:Type}(q:Rat) (k:Rat→α):fQ q k=k q:=by
 unfold fQ;rw[cY,cF];split <;>rfl
def wrI (z:Int):List LV:=match z with
 | .ofNat n=>[.lit (.bool false),dg (dgF 100 n)]
 | .negSucc n=>[.lit (.bool true),dg (dgF 100 (n+1))]
def wrQ (q:Rat):LV:= .agg (wrI q.num++wrI q.den)
theorem aLa {z:Int}(h:z.natAbs<4294967296^100):wrI z=[sg z,mg z]:=by
 unfold wrI;split
 ·rename_i n;rw[aSm _ _ (by simpa using h)];simp[sg,mg,bl]
 ·rename_i n;rw[aSm 100 (n+1) h];simp[sg,mg,bl]
def dS (q:Rat):Bool:=Nat.ble (q.num.natAbs+1) (4294967296^100) && Nat.ble (q.den+1) (4294967296^100)
theorem eM {q:Rat}(h:dS q=true):lq q≤200:=by
 unfold dS at h;rw[Bool.and_eq_true]at h
 have h1:=Nat.le_of_ble_eq_true h.1;have h2:=Nat.le_of_ble_eq_true h.2;unfold lq len;rw[Int.natAbs_natCast];have:=bV (n:=q.num.natAbs) (k:=100) (by omega);have:=bV (n:=q.den) (k:=100) (by omega);omega
theorem aBw {q:Rat}(h:dS q=true):wrQ q=bG q:=by
 unfold dS at h;rw[Bool.and_eq_true]at h
 rw[wrQ,aH,aLa (Nat.le_of_ble_eq_true h.1),aLa (by rw[Int.natAbs_natCast];exact Nat.le_of_ble_eq_true h.2)];rfl
def bKt (x:Rat):List Rat→Option Rat
 |[]=>some 0
 |c::f=>match bKt x f with
  |some s=>fQ (s*x) fun m=>fQ (m+c) fun r=>bif dS m && dS r && dS c then some r else none
  |none=>none
theorem aVf (x:Rat):∀ {f:List Rat}{r:Rat},bKt x f=some r→r=hor f x∧(∀ c∈f,lq c≤200)∧∀ k,lq (hor (f.drop k) x)≤200∧lq (hor (f.drop k) x*x)≤200+lq x
 |[],r,h=>by
  cases h
  refine⟨rfl,by simp,fun k=> ?_⟩;rw[List.drop_nil];have:hor [] x=0:=rfl;rw[this,Rat.zero_mul];have:lq 0≤200:=eM (by decide+kernel)
  omega
 |c::f,r,h=>by
  unfold bKt at h;split at h
  · rename_i s hs;obtain⟨e1,e2,e3⟩:=aVf x hs;rw[aOy,aOy]at h
    cases hb:(dS (s*x) && dS (s*x+c) && dS c)with
    |true=>
     rw[hb]at h
     simp only[Bool.and_eq_true]at hb
     cases h
     have he:s*x+c=hor (c::f) x:=by rw[e1];rfl
     refine⟨he,?_,fun k=> ?_⟩
     · intro d hd;rcases List.mem_cons.1 hd with rfl |hd
       · exact eM hb.2
       · exact e2 d hd
     · cases k with
       |zero=>
        rw[List.drop_zero,← he];have h1:=eM hb.1.2;have h2:=jZ (s*x+c) x
        omega
       |succ k=>
        rw[List.drop_succ_cons]
        exact e3 k
    |false=>rw[hb]at h;cases h
  · cases h
def aD3 (args:List LV):Option LV:=
 match args with
 |[.sl n cs,.agg l]=>match rdF n cs,rdQ l with
  |some f,some x=>match bKt x f with
   |some r=>bif dS x && dS r && Nat.ble f.length 100 then some (wrQ r)else none
   |none=>none
  |_,_=>none
 |_=>none
theorem aSo {args:List LV}{r:LV}(h:aD3 args=some r):PGd 131 args r:=by
 unfold aD3 at h;split at h
 ·rename_i n cs l;split at h
  ·rename_i f x h1 h2;obtain⟨e1,e2⟩:=bDo h1;have e3:=vA h2;split at h
   ·rename_i q hq;obtain⟨a1,a2,a3⟩:=aVf x hq
    cases hb:(dS x && dS q && Nat.ble f.length 100)with
    |true=>
     rw[hb]at h
     simp only[Bool.and_eq_true]at hb
     cases h
     have hx:=eM hb.1.1;have hl:=Nat.le_of_ble_eq_true hb.2;rw[aBw hb.1.2,a1,e1,e2,e3]
     exact aI5 f x (by omega) (by omega) (fun c hc=>by have:=a2 c hc;omega) (fun k=>by have:=(a3 k).1;omega) (fun k=>by have:=(a3 k).2;omega)
    |false=>rw[hb]at h;cases h
   ·cases h
  ·cases h
 ·cases h
def pV (g:Rat→Rat→Rat) (args:List LV):Option LV:=
 match args with
 |[.agg l,.agg m]=>match rdQ l,rdQ m with
  |some x,some y=>fQ (g x y) fun r=>bif dS x && dS y && dS r then some (wrQ r)else none
  |_,_=>none
 |_=>none
theorem rC {fid:FuncId}{g:Rat→Rat→Rat}(hg:∀ p q,lq p≤34359738368→lq q≤34359738368→PGd fid [bG p,bG q] (bG (g p q))) {args:List LV}{r:LV}(h:pV g args=some r):PGd fid args r:=by
 unfold pV at h;split at h
 ·split at h
  ·rename_i l m x y h1 h2;rw[aOy]at h
   cases hb:(dS x && dS y && dS (g x y))with
   |true=>
    rw[hb]at h
    simp only[Bool.and_eq_true]at hb
    cases h
    have hx:=eM hb.1.1;have hy:=eM hb.1.2;rw[aBw hb.2,vA h1,vA h2]
    exact hg x y (by omega) (by omega)
   |false=>rw[hb]at h;cases h
  ·cases h
 ·cases h
def aLb (args:List LV):Option LV:=
 match args with
 |[.lit (.int .u64 (.ofNat n))]=>bif Nat.blt n 18446744073709551616 then dC (Lib.bitLen n) fun k=>some (i64 k)else none
 |_=>none
theorem aYz {args:List LV}{r:LV}(h:aLb args=some r):PGd 257 args r:=by
 unfold aLb at h;split at h
 ·rename_i n
  cases hb:Nat.blt n 18446744073709551616 with
  |true=>
   rw[hb,cond_true,cF]at h
   cases h
   exact aFa (x:=n) (Nat.le_of_ble_eq_true hb)
  |false=>rw[hb]at h;cases h
 ·cases h
def aAa (args:List LV):Option LV:=
 match args with
 |[.lit (.int .u32 (.ofNat n))]=>bif Nat.blt n 4294967296 then dC (Lib.bitLen n) fun k=>some (i64 k)else none
 |_=>none
theorem aOz {args:List LV}{r:LV}(h:aAa args=some r):PGd 293 args r:=by
 unfold aAa at h;split at h
 ·rename_i n
  cases hb:Nat.blt n 4294967296 with
  |true=>
   rw[hb,cond_true,cF]at h
   cases h
   exact aE9 (x:=n) (Nat.le_of_ble_eq_true hb)
  |false=>rw[hb]at h;cases h
 ·cases h
def aAb (args:List LV):Option LV:=
 match args with
 |[m]=>match rdM m with
  |some n=>bif Nat.ble (n+1) (4294967296^100)then some m else none
  |none=>none
 |_=>none
theorem aO0 {args:List LV}{r:LV}(h:aAb args=some r):PGd 255 args r:=by
 unfold aAb at h;split at h
 ·split at h
  ·rename_i m n hn
   cases hb:Nat.ble (n+1) (4294967296^100)with
   |true=>
    rw[hb,cond_true]at h
    cases h
    rw[aSn hn];have:=bV (n:=n) (k:=100) (Nat.le_of_ble_eq_true hb)
    exact nZ _ (by omega)
   |false=>rw[hb]at h;cases h
  ·cases h
 ·cases h
theorem bKu:eV Tryz.prog fun _ _=>none:=fun _ _ _ h=>nomatch h
theorem aR {f0:Nat}{g:List LV→Option LV}{o:FuncId→List LV→Option LV}(hg:∀ args r,g args=some r→PGd f0 args r) (ho:eV Tryz.prog o):eV Tryz.prog (fun f args=>bif Nat.beq f f0 then g args else o f args):=by
 intro f args r h;simp only at h
 cases h1:Nat.beq f f0 with
 |true=>rw[h1]at h;rw[Nat.eq_of_beq_eq_true h1];exact hg args r h
 |false=>rw[h1]at h;exact ho f args r h
def orc (f:FuncId) (args:List LV):Option LV:=
 bif Nat.beq f 131 then aD3 args else bif Nat.beq f 59 then pV (· + ·) args else bif Nat.beq f 74 then pV (· * ·) args else bif Nat.beq f 130 then pV (· - ·) args else bif Nat.beq f 69 then pV (· + ·) args else bif Nat.beq f 150 then pV (· * ·) args else bif Nat.beq f 161 then pV (· - ·) args else bif Nat.beq f 257 then aLb args else bif Nat.beq f 293 then aAa args else bif Nat.beq f 255 then aAb args else none
theorem bUv:eV Tryz.prog orc:=by
 intro f args r h;exact aR (f0:=131) (g:=aD3) (fun _ _=>aSo) (aR (f0:=59) (g:=pV (· + ·)) (fun _ _=>rC (g:=(· + ·)) (fun p q a b=>kZ p q a b)) (aR (f0:=74) (g:=pV (· * ·)) (fun _ _=>rC (g:=(· * ·)) (fun p q a b=>gS p q a b)) (aR (f0:=130) (g:=pV (· - ·)) (fun _ _=>rC (g:=(· - ·)) (fun p q a b=>nL p q a b)) (aR (f0:=69) (g:=pV (· + ·)) (fun _ _=>rC (g:=(· + ·)) (fun p q a b=>lC p q a b)) (aR (f0:=150) (g:=pV (· * ·)) (fun _ _=>rC (g:=(· * ·)) (fun p q a b=>eB p q a b)) (aR (f0:=161) (g:=pV (· - ·)) (fun _ _=>rC (g:=(· - ·)) (fun p q a b=>aFz p q a b)) (aR (f0:=257) (g:=aLb) (fun _ _=>aYz) (aR (f0:=293) (g:=aAa) (fun _ _=>aOz) (aR (f0:=255) (g:=aAb) (fun _ _=>aO0) bKu))))))))) f args r h
end
end Go.Proofs.YtaidcaemdkncgaaGreatDoor
