/- Contracts of functions of the program, and what proves them (texts: B13 B14 B15). -/
import Derived.Test.YtaidcaemdkncgaaGreatDoorZSAH
set_option linter.all false
set_option maxRecDepth 100000
set_option maxHeartbeats 8000000
namespace Go.Proofs.YtaidcaemdkncgaaGreatDoor
section
open Go Go.Lg Go.Num
attribute [local irreducible] lrun lwp exThen exBlk keep goodPost mutPost
def aFr (n d:Int):LV:= .agg [bl (decide (n<0)),dg (aC n.natAbs),bl (decide (d<0)),dg (aC d.natAbs)]
def bG (q:Rat):LV:= .agg [bl (decide (q.num<0)),dg (aC q.num.natAbs),bl false,dg (aC q.den)]
theorem bKi (q:Rat):bG q=aFr q.num (q.den:Int):=by
 have:¬(q.den:Int)<0:=by omega
 simp[bG,aFr,this]
def kW (n:Nat):LV:= .agg [bl false,dg (aC n)]
theorem dF (n:Nat):aO (n:Int)=kW n:=by
 have:¬(n:Int)<0:=by omega
 simp[aO,kW,this]
theorem uS (z:Int) (h:len z≤1099511627776):PGd 139 [aO z] (bl (decide (z=1))):=by
 unfold len at h;have hok:=(aU z.natAbs).getD 0
 have key:(decide (z=1))=(decide ((aC z.natAbs).length=1) && decide ((aC z.natAbs).getD 0 0=1) && decide (¬z<0)):=by
  rw[Bool.eq_iff_iff];simp only[Bool.and_eq_true,decide_eq_true_eq];constructor
  ·rintro rfl;simp[eU]
  ·rintro⟨⟨h1,h2⟩,h3⟩;have:=(aUn h1).1;omega
 rw[key];simp only[aO,bl];refine aA aV Tryz.func139 rfl (by decide) (nt:=19) rfl (rs:=[.tmp 2]) rfl (aW rfl) ?_;by_cases h1:(aC z.natAbs).length=1
 ·by_cases h2:(aC z.natAbs).getD 0 0=1
  ·by_cases h3:z<0
   ·refine aM ?_;exact lV
   ·refine aM ?_;exact lV
  ·refine aM ?_;exact lV
 ·refine aM ?_;exact lV
theorem aYj (n d:Int) (h:d=0∨n=0) (hn:len n≤137438953472) (hd:len d≤137438953472):PGd 142 [aO n,aO d] (bG 0):=by
 have h1:=lX n (by omega);have h2:=lX d (by omega);have hof:=jW 1 (by omega);unfold len at hn hd;have e0:(aC 0).length=0:=by simp[bD]
 simp only[aO,bl,i64]at h1 h2 hof⊢;refine aA aV Tryz.func142 rfl (by decide) (nt:=56) rfl (rs:=[.cell 4 47]) rfl (aW rfl) ?_;refine vZ ?_;rcases h with rfl |rfl
 ·refine aM ?_;refine cQ (g:=hof) (k:= ?_);refine aM ?_;refine gZ ?_;refine iQ ?_;simp[bG,aFr,bl,dg,bD,dB]
 ·by_cases hd0:(aC d.natAbs).length=0
  ·refine aM ?_;refine cQ (g:=hof) (k:= ?_);refine aM ?_;refine gZ ?_;refine iQ ?_;simp[bG,aFr,bl,dg,bD,dB]
  ·refine aM ?_;refine cQ (g:=hof) (k:= ?_);refine aM ?_;refine gZ ?_;refine iQ ?_;simp[bG,aFr,bl,dg,bD,dB]
set_option maxHeartbeats 2000000 in
theorem wE (n d:Int) (hn:len n≤137438953472) (hd:len d≤137438953472):PGd 142 [aO n,aO d] (bG (Rat.divInt n d)):=by
 by_cases h0:d=0∨n=0
 ·have:Rat.divInt n d=0:=by rcases h0 with rfl |rfl <;>simp
  rw[this];exact aYj n d h0 hn hd
 have hd0:d≠0:=fun e=>h0 (.inl e)
 have hn0:n≠0:=fun e=>h0 (.inr e)
 have hp:=mX (n:=n) hd0;have h1:=lX n (by omega);have h2:=lX d (by omega);have h3:=aFd n (by omega);have h4:=aFd d (by omega);have hd':=hd;have hn':=hn;unfold len at hd' hn';have hdl:(aC d.natAbs).length≠0:=fun e=>hd0 (by have:=bR.1 (List.eq_nil_of_length_eq_zero e);omega)
 have hnl:(aC n.natAbs).length≠0:=fun e=>hn0 (by have:=bR.1 (List.eq_nil_of_length_eq_zero e);omega)
 rw[bKi];simp only[aO,bl,i64]at h1 h2 h3 h4⊢;refine aA aV Tryz.func142 rfl (by decide) (nt:=56) rfl (rs:=[.cell 4 47]) rfl (aW rfl) ?_;refine vZ ?_;by_cases hneg:d<0
 ·refine aM ?_;refine cQ (g:=h3) (k:= ?_);refine aM ?_;refine cQ (g:=h4) (k:= ?_);have hnl2:=mW n;have hdl2:=mW d;rw[if_pos hneg,← Int.neg_neg d,← Int.neg_gcd,← Int.gcd_neg,Int.neg_neg d,show((d.natAbs:Nat):Int)= -d by omega]at hp
  generalize hNN: -n=N at*;generalize hDD: -d=D at*;have hg0:(Int.gcd N D:Nat)≠0:=fun e=>by have:=Int.gcd_eq_zero_iff.1 e;omega
  have hgl:len ((Int.gcd N D:Nat):Int)≤137438953472:=Nat.le_trans (xU (x:=N) (y:=D) (by omega)) (by omega);have hgo:=aN8 N D (by omega) (by omega);have hone1:=uS D (by omega);have hone2:=uS ((Int.gcd N D:Nat):Int) (by omega);have hen:=kU N ((Int.gcd N D:Nat):Int) (by omega) (Int.emod_eq_zero_of_dvd (Int.gcd_dvd_left ..)) (by omega) (by omega);have hed:=kU D ((Int.gcd N D:Nat):Int) (by omega) (Int.emod_eq_zero_of_dvd (Int.gcd_dvd_right ..)) (by omega) (by omega);simp only[aO,bl,i64]at hgo hone1 hone2 hen hed;by_cases h1:D=1
  ·have e1:decide (D=1)=true:=by simpa using h1
   rw[e1]at hone1
   refine aM ?_;refine cQ (g:=hone1) (k:= ?_);refine aM ?_;refine gZ ?_;refine iQ ?_;rw[h1,Int.gcd_one,Int.natCast_one,Int.ediv_one,Int.ediv_one]at hp
   rw[h1,hp.1,hp.2];simp[aFr,bl,dg]
  ·have e1:decide (D=1)=false:=by simpa using h1
   rw[e1]at hone1
   by_cases h2:((Int.gcd N D:Nat):Int)=1
   ·have e2:decide (((Int.gcd N D:Nat):Int)=1)=true:=by simpa using h2
    rw[e2]at hone2
    refine aM ?_;refine cQ (g:=hone1) (k:= ?_);refine aM ?_;refine cQ (g:=hgo) (k:= ?_);refine aM ?_;refine cQ (g:=hone2) (k:= ?_);refine aM ?_;refine gZ ?_;refine iQ ?_;rw[h2,Int.ediv_one,Int.ediv_one]at hp
    rw[hp.1,hp.2];have hdp:¬D<0:=by omega
    simp[aFr,bl,dg,hdp]
   ·have e2:decide (((Int.gcd N D:Nat):Int)=1)=false:=by simpa using h2
    rw[e2]at hone2
    refine aM ?_;refine cQ (g:=hone1) (k:= ?_);refine aM ?_;refine cQ (g:=hgo) (k:= ?_);refine aM ?_;refine cQ (g:=hone2) (k:= ?_);refine aM ?_;refine cQ (g:=hen) (k:= ?_);refine aM ?_;refine cQ (g:=hed) (k:= ?_);refine aM ?_;refine gZ ?_;refine iQ ?_;rw[hp.1,hp.2];have hdp:0≤D / ((Int.gcd N D:Nat):Int):=Int.ediv_nonneg (by omega) (by omega);simp[aFr,bl,dg,hdp]
 ·rw[if_neg hneg,show((d.natAbs:Nat):Int)=d by omega]at hp
  have hg0:(Int.gcd n d:Nat)≠0:=fun e=>by have:=Int.gcd_eq_zero_iff.1 e;omega
  have hgl:len ((Int.gcd n d:Nat):Int)≤137438953472:=Nat.le_trans (xU (x:=n) (y:=d) (by omega)) (by omega);have hgo:=aN8 n d (by omega) (by omega);have hone1:=uS d (by omega);have hone2:=uS ((Int.gcd n d:Nat):Int) (by omega);have hen:=kU n ((Int.gcd n d:Nat):Int) (by omega) (Int.emod_eq_zero_of_dvd (Int.gcd_dvd_left ..)) (by omega) (by omega);have hed:=kU d ((Int.gcd n d:Nat):Int) (by omega) (Int.emod_eq_zero_of_dvd (Int.gcd_dvd_right ..)) (by omega) (by omega);simp only[aO,bl,i64]at hgo hone1 hone2 hen hed;by_cases h1:d=1
  ·have e1:decide (d=1)=true:=by simpa using h1
   rw[e1]at hone1
   refine aM ?_;refine cQ (g:=hone1) (k:= ?_);refine aM ?_;refine gZ ?_;refine iQ ?_;rw[h1,Int.gcd_one,Int.natCast_one,Int.ediv_one,Int.ediv_one]at hp
   rw[h1,hp.1,hp.2];simp[aFr,bl,dg]
  ·have e1:decide (d=1)=false:=by simpa using h1
   rw[e1]at hone1
   by_cases h2:((Int.gcd n d:Nat):Int)=1
   ·have e2:decide (((Int.gcd n d:Nat):Int)=1)=true:=by simpa using h2
    rw[e2]at hone2
    refine aM ?_;refine cQ (g:=hone1) (k:= ?_);refine aM ?_;refine cQ (g:=hgo) (k:= ?_);refine aM ?_;refine cQ (g:=hone2) (k:= ?_);refine aM ?_;refine gZ ?_;refine iQ ?_;rw[h2,Int.ediv_one,Int.ediv_one]at hp
    rw[hp.1,hp.2];have hdp:¬d<0:=by omega
    simp[aFr,bl,dg,hdp]
   ·have e2:decide (((Int.gcd n d:Nat):Int)=1)=false:=by simpa using h2
    rw[e2]at hone2
    refine aM ?_;refine cQ (g:=hone1) (k:= ?_);refine aM ?_;refine cQ (g:=hgo) (k:= ?_);refine aM ?_;refine cQ (g:=hone2) (k:= ?_);refine aM ?_;refine cQ (g:=hen) (k:= ?_);refine aM ?_;refine cQ (g:=hed) (k:= ?_);refine aM ?_;refine gZ ?_;refine iQ ?_;rw[hp.1,hp.2];have hdp:0≤d / ((Int.gcd n d:Nat):Int):=Int.ediv_nonneg (by omega) (by omega);simp[aFr,bl,dg,hdp]
end
section
open Go Go.Lg Go.Num
attribute [local irreducible] lrun lwp exThen exBlk keep goodPost mutPost
theorem aI2 (a b:Nat) (ha:len (a:Int)≤274877906944) (hb:len (b:Int)≤274877906944):PGd 141 [kW a,kW b] (kW (a*b)):=by
 have:=gD a b ha hb
 rwa [← Int.natCast_mul,dF,dF,dF]at this
theorem yC (a:Int) (b:Nat) (ha:len a≤274877906944) (hb:len (b:Int)≤274877906944):PGd 141 [aO a,kW b] (aO (a*b)):=by
 have:=gD a b ha hb
 rwa [dF]at this
theorem aR9 (a:Nat) (b:Int) (ha:len (a:Int)≤274877906944) (hb:len b≤274877906944):PGd 141 [kW a,aO b] (aO (a*b)):=by
 have:=gD a b ha hb
 rwa [dF]at this
theorem oC (n:Int) (d:Nat) (hn:len n≤137438953472) (hd:len (d:Int)≤137438953472):PGd 142 [aO n,kW d] (bG (Rat.divInt n d)):=by
 have:=wE n d hn hd
 rwa [dF]at this
theorem sL (n:Nat) (h:n≠0) (hl:len (n:Int)≤1099511627776):PGd 75 [kW n] (i64 1):=by
 have:=xV n hl
 rwa [dF,Int.sign_eq_one_of_pos (by omega)]at this
theorem aI3 (n:Nat) (hl:len (n:Int)≤1099511627776):PGd 139 [kW n] (bl (decide (n=1))):=by
 have:=uS n hl;rw[dF]at this
 have e:decide ((n:Int)=1)=decide (n=1):=by
  rw[Bool.eq_iff_iff];simp;omega
 rwa [e]at this
theorem aFs:PGd 123 [i64 1] (kW 1):=by
 have:=jW 1 (by omega);exact(dF 1) ▸ this
theorem iF (q:Rat) (h:lq q≤68719476736):PGd 138 [bG q] (bG q):=by
 have h1:=oC q.num q.den (by unfold lq at h;omega) (by unfold lq at h;omega);rw[aC1]at h1
 simp only[bG,aO,kW,bl]at h1⊢;refine aA aV Tryz.func138 rfl (by decide) (nt:=8) rfl (rs:=[.cell 2 47]) rfl (aW rfl) ?_;refine vZ ?_;exact lV
theorem iG (n:Int) (h: -9223372036854775808≤n∧n≤9223372036854775807):PGd 73 [i64 n] (bG n):=by
 have h1:=jW n h;have h2:=aFs;have e1:((n:Rat)).num=n:=rfl;have e2:((n:Rat)).den=1:=rfl;simp only[bG,aO,kW,bl,i64,e1,e2]at h1 h2⊢;refine aA aV Tryz.func73 rfl (by decide) (nt:=7) rfl (rs:=[.cell 2 47]) rfl (aW rfl) ?_;refine vZ ?_;exact lV
theorem oD (n:Int) (h:len n≤1099511627776):PGd 87 [aO n] (bG n):=by
 have h1:=lX n h;have h2:=aFs;have e1:((n:Rat)).num=n:=rfl;have e2:((n:Rat)).den=1:=rfl;simp only[bG,aO,kW,bl,i64,e1,e2]at h1 h2⊢;refine aA aV Tryz.func87 rfl (by decide) (nt:=7) rfl (rs:=[.cell 2 47]) rfl (aW rfl) ?_;refine vZ ?_;exact lV
theorem aYk (n:Int) (d:Nat) (h0:d≠0) (hn:len n≤137438953472) (hd:len (d:Int)≤137438953472):PGd 137 [aO n,kW d] (.tup [bG (Rat.divInt n d),i64 0]):=by
 have h1:=sL d h0 (by omega);have h2:=oC n d hn hd;simp only[bG,aO,kW,bl,i64]at h1 h2⊢;refine aA aV Tryz.func137 rfl (by decide) (nt:=13) rfl (rs:=[.cell 4 47,.tmp 5]) rfl (aW rfl) ?_;refine vZ ?_;exact lV
theorem aYl (q:Rat) (h:lq q≤68719476736):PGd 220 [bG q] (bG (-q)):=by
 have h0:=aFd q.num (by unfold lq at h;omega);have h1:=oC (-q.num) q.den (by rw[mW];unfold lq at h;omega) (by unfold lq at h;omega);rw[← aC0]at h1
 simp only[bG,aO,kW,bl]at h0 h1⊢;refine aA aV Tryz.func220 rfl (by decide) (nt:=9) rfl (rs:=[.cell 2 47]) rfl (aW rfl) ?_;refine vZ ?_;exact lV
theorem gS (p q:Rat) (hp:lq p≤34359738368) (hq:lq q≤34359738368):PGd 74 [bG p,bG q] (bG (p*q)):=by
 have h1:=gD p.num q.num (by unfold lq at hp;omega) (by unfold lq at hq;omega);have h2:=aI2 p.den q.den (by unfold lq at hp;omega) (by unfold lq at hq;omega);have l1:=cJ p.num q.num;have l2:=cJ (p.den:Int) (q.den:Int);have h3:=oC (p.num*q.num) (p.den*q.den) (by unfold lq at hp hq;omega) (by rw[Int.natCast_mul];unfold lq at hp hq;omega);rw[Int.natCast_mul,← yB]at h3
 simp only[bG,aO,kW,bl]at h1 h2 h3⊢;refine aA aV Tryz.func74 rfl (by decide) (nt:=16) rfl (rs:=[.cell 4 47]) rfl (aW rfl) ?_;refine vZ ?_;exact lV
theorem kY (q:Rat) (h:lq q≤68719476736):PGd 21 [bG q] (i64 q.num.sign):=by
 have h1:=xV q.num (by unfold lq at h;omega);have h2:=sL q.den q.den_nz (by unfold lq at h;omega)
 have hs: -1≤q.num.sign∧q.num.sign≤1:=by
  rcases Int.sign_trichotomy q.num with e |e |e <;>rw[e] <;>omega
 simp only[bG,aO,kW,bl,i64]at h1 h2⊢;refine aA aV Tryz.func21 rfl (by decide) (nt:=10) rfl (rs:=[.tmp 2]) rfl (aW rfl) ?_;refine vZ ?_;refine gZ ?_;refine iQ ?_;simp only[Int.mul_one]
theorem uT (p q:Rat) (h0:q≠0) (hp:lq p≤34359738368) (hq:lq q≤34359738368):PGd 85 [bG p,bG q] (.tup [bG (p / q),i64 0]):=by
 have hn0:q.num≠0:=fun e=>h0 (Rat.num_eq_zero.1 e)
 have h1:=yC p.num q.den (by unfold lq at hp;omega) (by unfold lq at hq;omega);have h2:=aR9 p.den q.num (by unfold lq at hp;omega) (by unfold lq at hq;omega);have l1:=cJ p.num (q.den:Int);have l2:=cJ (p.den:Int) q.num;have h3:=wE (p.num*q.den) (p.den*q.num) (by unfold lq at hp hq;omega) (by unfold lq at hp hq;omega);rw[← aFq]at h3
 have hs:=kY q (by omega);have hsg:q.num.sign≠0:=fun e=>hn0 (Int.sign_eq_zero_iff_zero.1 e)
 generalize q.num.sign=sg at*;simp only[bG,aO,kW,bl,i64]at h1 h2 h3 hs⊢;refine aA aV Tryz.func85 rfl (by decide) (nt:=21) rfl (rs:=[.cell 4 47,.tmp 5]) rfl (aW rfl) ?_;refine vZ ?_;exact lV
end
section
open Go Go.Lg Go.Num
attribute [local irreducible] lrun lwp exThen exBlk keep goodPost mutPost
set_option maxHeartbeats 2000000 in
theorem kZ (p q:Rat) (hp:lq p≤34359738368) (hq:lq q≤34359738368):PGd 59 [bG p,bG q] (bG (p+q)):=by
 have s1:=sL p.den p.den_nz (by unfold lq at hp;omega);have s2:=sL q.den q.den_nz (by unfold lq at hq;omega);have o1:=aI3 p.den (by unfold lq at hp;omega);have o2:=aI3 q.den (by unfold lq at hq;omega);have h1:=yC p.num q.den (by unfold lq at hp;omega) (by unfold lq at hq;omega);have h2:=yC q.num p.den (by unfold lq at hq;omega) (by unfold lq at hp;omega);have l1:=cJ p.num (q.den:Int);have l2:=cJ q.num (p.den:Int);have l3:=sH (p.num*q.den) (q.num*p.den);have l4:=cJ (p.den:Int) (q.den:Int);have h3:=aN5 (p.num*q.den) (q.num*p.den) (by unfold lq at hp hq;omega) (by unfold lq at hp hq;omega);have h4:=aI2 p.den q.den (by unfold lq at hp;omega) (by unfold lq at hq;omega);have h5:=oC (p.num*q.den+q.num*p.den) (p.den*q.den) (by unfold lq at hp hq;omega) (by rw[Int.natCast_mul];unfold lq at hp hq;omega);rw[Int.natCast_mul,← yA]at h5
 have h6:=aN5 p.num q.num (by unfold lq at hp;omega) (by unfold lq at hq;omega);have h7:=aFs;have hpn:(bG p:LV)=bG p:=rfl;simp only[bG,aO,kW,bl,i64]at s1 s2 o1 o2 h1 h2 h3 h4 h5 h6 h7⊢;refine aA aV Tryz.func59 rfl (by decide) (nt:=54) rfl (rs:=[.cell 4 47]) rfl (aW rfl) ?_;refine aM ?_;refine cQ (g:=s1) (k:= ?_);refine aM ?_;refine cQ (g:=s2) (k:= ?_);refine aM ?_;by_cases e1:p.den=1
 ·have e1':decide (p.den=1)=true:=by simpa using e1
  rw[e1']at o1
  refine cQ (g:=o1) (k:= ?_);refine aM ?_;by_cases e2:q.den=1
  ·have e2':decide (q.den=1)=true:=by simpa using e2
   rw[e2']at o2
   refine cQ (g:=o2) (k:= ?_);refine aM ?_;refine cQ (g:=h6) (k:= ?_);refine aM ?_;refine cQ (g:=h7) (k:= ?_);refine aM ?_;refine gZ ?_;refine iQ ?_;obtain⟨a1,a2⟩:=bDj p q e1 e2;rw[a1,a2]
  ·have e2':decide (q.den=1)=false:=by simpa using e2
   rw[e2']at o2
   refine cQ (g:=o2) (k:= ?_);refine aM ?_;refine cQ (g:=h1) (k:= ?_);refine aM ?_;refine cQ (g:=h2) (k:= ?_);refine aM ?_;refine cQ (g:=h3) (k:= ?_);refine aM ?_;refine cQ (g:=h4) (k:= ?_);refine aM ?_;refine cQ (g:=h5) (k:= ?_);refine aM ?_;exact lV
 ·have e1':decide (p.den=1)=false:=by simpa using e1
  rw[e1']at o1
  refine cQ (g:=o1) (k:= ?_);refine aM ?_;refine fX rfl (by decide) rfl ?_;refine aM ?_;refine cQ (g:=h1) (k:= ?_);refine aM ?_;refine cQ (g:=h2) (k:= ?_);refine aM ?_;refine cQ (g:=h3) (k:= ?_);refine aM ?_;refine cQ (g:=h4) (k:= ?_);refine aM ?_;refine cQ (g:=h5) (k:= ?_);refine aM ?_;exact lV
theorem nL (p q:Rat) (hp:lq p≤34359738368) (hq:lq q≤34359738368):PGd 130 [bG p,bG q] (bG (p-q)):=by
 have h1:=aYl q (by omega);have h2:=kZ p (-q) hp (by rw[aR7];exact hq);rw[← Rat.sub_eq_add_neg]at h2
 simp only[bG,bl]at h1 h2⊢;refine aA aV Tryz.func130 rfl (by decide) (nt:=9) rfl (rs:=[.cell 4 47]) rfl (aW rfl) ?_;refine aM ?_;refine cQ (g:=h1) (k:= ?_);refine aM ?_;refine cQ (g:=h2) (k:= ?_);refine aM ?_;exact lV
theorem aSa (q:Rat) (h:lq q≤68719476736):PGd 224 [bG q] (i64 (oB q)):=by
 have h1:=iF q h;have h2:=aBp q.num (by unfold lq at h;omega);have h3:=aBp (q.den:Int) (by unfold lq at h;omega);rw[dF,Int.natAbs_natCast]at h3
 have hb:(if(aK q.den:Int)>(aK q.num.natAbs:Int)then(aK q.den:Int)else(aK q.num.natAbs:Int))=(oB q:Int):=by
  unfold oB;split <;>omega
 simp only[bG,aO,kW,bl,i64]at h1 h2 h3⊢;refine aA aV Tryz.func224 rfl (by decide) (nt:=12) rfl (rs:=[.tmp 2]) rfl (aW rfl) ?_;refine aM ?_;refine cQ (g:=h1) (k:= ?_);refine aM ?_;refine cQ (g:=h2) (k:= ?_);refine aM ?_;refine cQ (g:=h3) (k:= ?_);refine tX hb ?_;exact bIw hb
end
end Go.Proofs.YtaidcaemdkncgaaGreatDoor
