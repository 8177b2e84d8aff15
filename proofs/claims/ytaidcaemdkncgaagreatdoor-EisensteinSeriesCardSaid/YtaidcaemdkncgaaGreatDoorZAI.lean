/- Contracts of functions of the program, and what proves them (texts: B13 B14 B15). -/
import Derived.Test.YtaidcaemdkncgaaGreatDoorZAH
set_option linter.all false
set_option maxRecDepth 100000
set_option maxHeartbeats 8000000
namespace Go.Proofs.YtaidcaemdkncgaaGreatDoor
section
open Go Go.Lg Go.Num
attribute [local irreducible] lrun lwp exThen exBlk keep goodPost mutPost
def aEi (n d:Int):LV:= .agg [bl (decide (n<0)),dg (aC n.natAbs),bl (decide (d<0)),dg (aC d.natAbs)]
def bF (q:Rat):LV:= .agg [bl (decide (q.num<0)),dg (aC q.num.natAbs),bl false,dg (aC q.den)]
theorem bHk (q:Rat):bF q=aEi q.num (q.den:Int):=by
 have:¬(q.den:Int)<0:=by omega
 simp[bF,aEi,this]
def kL (n:Nat):LV:= .agg [bl false,dg (aC n)]
theorem dB (n:Nat):aO (n:Int)=kL n:=by
 have:¬(n:Int)<0:=by omega
 simp[aO,kL,this]
theorem tO (z:Int) (h:len z≤1099511627776):PureGood Tryz.prog 139 [aO z] (bl (decide (z=1))):=by
 unfold len at h
 have hok:=(aS z.natAbs).getD 0
 have key:(decide (z=1))=(decide ((aC z.natAbs).length=1) && decide ((aC z.natAbs).getD 0 0=1) && decide (¬z<0)):=by
  rw[Bool.eq_iff_iff]
  simp only[Bool.and_eq_true,decide_eq_true_eq]
  constructor
  ·rintro rfl;simp[eN]
  ·rintro⟨⟨h1,h2⟩,h3⟩
   have:=(aSb h1).1
   omega
 rw[key]
 simp only[aO,bl]
 refine aA bC Tryz.func139 rfl (by decide) (nt:=19) rfl (rs:=[.tmp 2]) rfl (aZ rfl) ?_
 by_cases h1:(aC z.natAbs).length=1
 ·by_cases h2:(aC z.natAbs).getD 0 0=1
  ·by_cases h3:z<0
   ·refine aM ?_
    exact lM
   ·refine aM ?_
    exact lM
  ·refine aM ?_
   exact lM
 ·refine aM ?_
  exact lM
theorem aVv (n d:Int) (h:d=0∨n=0) (hn:len n≤137438953472) (hd:len d≤137438953472):PureGood Tryz.prog 142 [aO n,aO d] (bF 0):=by
 have h1:=lO n (by omega)
 have h2:=lO d (by omega)
 have hof:=jP 1 (by omega)
 unfold len at hn hd
 have e0:(aC 0).length=0:=by simp[aX]
 simp only[aO,bl,i64]at h1 h2 hof⊢
 refine aA bC Tryz.func142 rfl (by decide) (nt:=56) rfl (rs:=[.cell 4 47]) rfl (aZ rfl) ?_
 refine uU ?_
 rcases h with rfl |rfl
 ·refine aM ?_
  refine cQ (g:=hof) (k:= ?_)
  refine aM ?_
  refine gL ?_
  refine iD ?_
  simp[bF,aEi,bl,dg,aX,eQ]
 ·by_cases hd0:(aC d.natAbs).length=0
  ·refine aM ?_
   refine cQ (g:=hof) (k:= ?_)
   refine aM ?_
   refine gL ?_
   refine iD ?_
   simp[bF,aEi,bl,dg,aX,eQ]
  ·refine aM ?_
   refine cQ (g:=hof) (k:= ?_)
   refine aM ?_
   refine gL ?_
   refine iD ?_
   simp[bF,aEi,bl,dg,aX,eQ]
set_option maxHeartbeats 2000000 in
theorem uY (n d:Int) (hn:len n≤137438953472) (hd:len d≤137438953472):PureGood Tryz.prog 142 [aO n,aO d] (bF (Rat.divInt n d)):=by
 by_cases h0:d=0∨n=0
 ·have:Rat.divInt n d=0:=by rcases h0 with rfl |rfl <;>simp
  rw[this]
  exact aVv n d h0 hn hd
 have hd0:d≠0:=fun e=>h0 (.inl e)
 have hn0:n≠0:=fun e=>h0 (.inr e)
 have hp:=mS (n:=n) hd0
 have h1:=lO n (by omega)
 have h2:=lO d (by omega)
 have h3:=aD3 n (by omega)
 have h4:=aD3 d (by omega)
 have hd':=hd
 have hn':=hn
 unfold len at hd' hn'
 have hdl:(aC d.natAbs).length≠0:=fun e=>hd0 (by have:=bO.1 (List.eq_nil_of_length_eq_zero e);omega)
 have hnl:(aC n.natAbs).length≠0:=fun e=>hn0 (by have:=bO.1 (List.eq_nil_of_length_eq_zero e);omega)
 rw[bHk]
 simp only[aO,bl,i64]at h1 h2 h3 h4⊢
 refine aA bC Tryz.func142 rfl (by decide) (nt:=56) rfl (rs:=[.cell 4 47]) rfl (aZ rfl) ?_
 refine uU ?_
 by_cases hneg:d<0
 ·refine aM ?_
  refine cQ (g:=h3) (k:= ?_)
  refine aM ?_
  refine cQ (g:=h4) (k:= ?_)
  have hnl2:=mR n
  have hdl2:=mR d
  rw[if_pos hneg,← Int.neg_neg d,← Int.neg_gcd,← Int.gcd_neg,Int.neg_neg d,show((d.natAbs:Nat):Int)= -d by omega]at hp
  generalize hNN: -n=N at*
  generalize hDD: -d=D at*
  have hg0:(Int.gcd N D:Nat)≠0:=fun e=>by have:=Int.gcd_eq_zero_iff.1 e;omega
  have hgl:len ((Int.gcd N D:Nat):Int)≤137438953472:=Nat.le_trans (wU (x:=N) (y:=D) (by omega)) (by omega)
  have hgo:=aMi N D (by omega) (by omega)
  have hone1:=tO D (by omega)
  have hone2:=tO ((Int.gcd N D:Nat):Int) (by omega)
  have hen:=kH N ((Int.gcd N D:Nat):Int) (by omega) (Int.emod_eq_zero_of_dvd (Int.gcd_dvd_left ..)) (by omega) (by omega)
  have hed:=kH D ((Int.gcd N D:Nat):Int) (by omega) (Int.emod_eq_zero_of_dvd (Int.gcd_dvd_right ..)) (by omega) (by omega)
  simp only[aO,bl,i64]at hgo hone1 hone2 hen hed
  by_cases h1:D=1
  ·have e1:decide (D=1)=true:=by simpa using h1
   rw[e1]at hone1
   refine aM ?_
   refine cQ (g:=hone1) (k:= ?_)
   refine aM ?_
   refine gL ?_
   refine iD ?_
   rw[h1,Int.gcd_one,Int.natCast_one,Int.ediv_one,Int.ediv_one]at hp
   rw[h1,hp.1,hp.2]
   simp[aEi,bl,dg]
  ·have e1:decide (D=1)=false:=by simpa using h1
   rw[e1]at hone1
   by_cases h2:((Int.gcd N D:Nat):Int)=1
   ·have e2:decide (((Int.gcd N D:Nat):Int)=1)=true:=by simpa using h2
    rw[e2]at hone2
    refine aM ?_
    refine cQ (g:=hone1) (k:= ?_)
    refine aM ?_
    refine cQ (g:=hgo) (k:= ?_)
    refine aM ?_
    refine cQ (g:=hone2) (k:= ?_)
    refine aM ?_
    refine gL ?_
    refine iD ?_
    rw[h2,Int.ediv_one,Int.ediv_one]at hp
    rw[hp.1,hp.2]
    have hdp:¬D<0:=by omega
    simp[aEi,bl,dg,hdp]
   ·have e2:decide (((Int.gcd N D:Nat):Int)=1)=false:=by simpa using h2
    rw[e2]at hone2
    refine aM ?_
    refine cQ (g:=hone1) (k:= ?_)
    refine aM ?_
    refine cQ (g:=hgo) (k:= ?_)
    refine aM ?_
    refine cQ (g:=hone2) (k:= ?_)
    refine aM ?_
    refine cQ (g:=hen) (k:= ?_)
    refine aM ?_
    refine cQ (g:=hed) (k:= ?_)
    refine aM ?_
    refine gL ?_
    refine iD ?_
    rw[hp.1,hp.2]
    have hdp:0≤D / ((Int.gcd N D:Nat):Int):=Int.ediv_nonneg (by omega) (by omega)
    simp[aEi,bl,dg,hdp]
 ·rw[if_neg hneg,show((d.natAbs:Nat):Int)=d by omega]at hp
  have hg0:(Int.gcd n d:Nat)≠0:=fun e=>by have:=Int.gcd_eq_zero_iff.1 e;omega
  have hgl:len ((Int.gcd n d:Nat):Int)≤137438953472:=Nat.le_trans (wU (x:=n) (y:=d) (by omega)) (by omega)
  have hgo:=aMi n d (by omega) (by omega)
  have hone1:=tO d (by omega)
  have hone2:=tO ((Int.gcd n d:Nat):Int) (by omega)
  have hen:=kH n ((Int.gcd n d:Nat):Int) (by omega) (Int.emod_eq_zero_of_dvd (Int.gcd_dvd_left ..)) (by omega) (by omega)
  have hed:=kH d ((Int.gcd n d:Nat):Int) (by omega) (Int.emod_eq_zero_of_dvd (Int.gcd_dvd_right ..)) (by omega) (by omega)
  simp only[aO,bl,i64]at hgo hone1 hone2 hen hed
  by_cases h1:d=1
  ·have e1:decide (d=1)=true:=by simpa using h1
   rw[e1]at hone1
   refine aM ?_
   refine cQ (g:=hone1) (k:= ?_)
   refine aM ?_
   refine gL ?_
   refine iD ?_
   rw[h1,Int.gcd_one,Int.natCast_one,Int.ediv_one,Int.ediv_one]at hp
   rw[h1,hp.1,hp.2]
   simp[aEi,bl,dg]
  ·have e1:decide (d=1)=false:=by simpa using h1
   rw[e1]at hone1
   by_cases h2:((Int.gcd n d:Nat):Int)=1
   ·have e2:decide (((Int.gcd n d:Nat):Int)=1)=true:=by simpa using h2
    rw[e2]at hone2
    refine aM ?_
    refine cQ (g:=hone1) (k:= ?_)
    refine aM ?_
    refine cQ (g:=hgo) (k:= ?_)
    refine aM ?_
    refine cQ (g:=hone2) (k:= ?_)
    refine aM ?_
    refine gL ?_
    refine iD ?_
    rw[h2,Int.ediv_one,Int.ediv_one]at hp
    rw[hp.1,hp.2]
    have hdp:¬d<0:=by omega
    simp[aEi,bl,dg,hdp]
   ·have e2:decide (((Int.gcd n d:Nat):Int)=1)=false:=by simpa using h2
    rw[e2]at hone2
    refine aM ?_
    refine cQ (g:=hone1) (k:= ?_)
    refine aM ?_
    refine cQ (g:=hgo) (k:= ?_)
    refine aM ?_
    refine cQ (g:=hone2) (k:= ?_)
    refine aM ?_
    refine cQ (g:=hen) (k:= ?_)
    refine aM ?_
    refine cQ (g:=hed) (k:= ?_)
    refine aM ?_
    refine gL ?_
    refine iD ?_
    rw[hp.1,hp.2]
    have hdp:0≤d / ((Int.gcd n d:Nat):Int):=Int.ediv_nonneg (by omega) (by omega)
    simp[aEi,bl,dg,hdp]
end
section
open Go Go.Lg Go.Num
attribute [local irreducible] lrun lwp exThen exBlk keep goodPost mutPost
theorem aHd (a b:Nat) (ha:len (a:Int)≤274877906944) (hb:len (b:Int)≤274877906944):PureGood Tryz.prog 141 [kL a,kL b] (kL (a*b)):=by
 have:=fV a b ha hb
 rwa [← Int.natCast_mul,dB,dB,dB]at this
theorem xA (a:Int) (b:Nat) (ha:len a≤274877906944) (hb:len (b:Int)≤274877906944):PureGood Tryz.prog 141 [aO a,kL b] (aO (a*b)):=by
 have:=fV a b ha hb
 rwa [dB]at this
theorem aP5 (a:Nat) (b:Int) (ha:len (a:Int)≤274877906944) (hb:len b≤274877906944):PureGood Tryz.prog 141 [kL a,aO b] (aO (a*b)):=by
 have:=fV a b ha hb
 rwa [dB]at this
theorem nP (n:Int) (d:Nat) (hn:len n≤137438953472) (hd:len (d:Int)≤137438953472):PureGood Tryz.prog 142 [aO n,kL d] (bF (Rat.divInt n d)):=by
 have:=uY n d hn hd
 rwa [dB]at this
theorem rK (n:Nat) (h:n≠0) (hl:len (n:Int)≤1099511627776):PureGood Tryz.prog 75 [kL n] (i64 1):=by
 have:=wV n hl
 rwa [dB,Int.sign_eq_one_of_pos (by omega)]at this
theorem aHe (n:Nat) (hl:len (n:Int)≤1099511627776):PureGood Tryz.prog 139 [kL n] (bl (decide (n=1))):=by
 have:=tO n hl
 rw[dB]at this
 have e:decide ((n:Int)=1)=decide (n=1):=by
  rw[Bool.eq_iff_iff];simp;omega
 rwa [e]at this
theorem aEj:PureGood Tryz.prog 123 [i64 1] (kL 1):=by
 have:=jP 1 (by omega)
 exact(dB 1) ▸ this
theorem gV (q:Rat) (h:lq q≤68719476736):PureGood Tryz.prog 138 [bF q] (bF q):=by
 have h1:=nP q.num q.den (by unfold lq at h;omega) (by unfold lq at h;omega)
 rw[aB0]at h1
 simp only[bF,aO,kL,bl]at h1⊢
 refine aA bC Tryz.func138 rfl (by decide) (nt:=8) rfl (rs:=[.cell 2 47]) rfl (aZ rfl) ?_
 refine uU ?_
 exact lM
theorem gW (n:Int) (h: -9223372036854775808≤n∧n≤9223372036854775807):PureGood Tryz.prog 73 [i64 n] (bF n):=by
 have h1:=jP n h
 have h2:=aEj
 have e1:((n:Rat)).num=n:=rfl
 have e2:((n:Rat)).den=1:=rfl
 simp only[bF,aO,kL,bl,i64,e1,e2]at h1 h2⊢
 refine aA bC Tryz.func73 rfl (by decide) (nt:=7) rfl (rs:=[.cell 2 47]) rfl (aZ rfl) ?_
 refine uU ?_
 exact lM
theorem nQ (n:Int) (h:len n≤1099511627776):PureGood Tryz.prog 87 [aO n] (bF n):=by
 have h1:=lO n h
 have h2:=aEj
 have e1:((n:Rat)).num=n:=rfl
 have e2:((n:Rat)).den=1:=rfl
 simp only[bF,aO,kL,bl,i64,e1,e2]at h1 h2⊢
 refine aA bC Tryz.func87 rfl (by decide) (nt:=7) rfl (rs:=[.cell 2 47]) rfl (aZ rfl) ?_
 refine uU ?_
 exact lM
theorem aVw (n:Int) (d:Nat) (h0:d≠0) (hn:len n≤137438953472) (hd:len (d:Int)≤137438953472):PureGood Tryz.prog 137 [aO n,kL d] (.tup [bF (Rat.divInt n d),i64 0]):=by
 have h1:=rK d h0 (by omega)
 have h2:=nP n d hn hd
 simp only[bF,aO,kL,bl,i64]at h1 h2⊢
 refine aA bC Tryz.func137 rfl (by decide) (nt:=13) rfl (rs:=[.cell 4 47,.tmp 5]) rfl (aZ rfl) ?_
 refine uU ?_
 exact lM
theorem aVx (q:Rat) (h:lq q≤68719476736):PureGood Tryz.prog 220 [bF q] (bF (-q)):=by
 have h0:=aD3 q.num (by unfold lq at h;omega)
 have h1:=nP (-q.num) q.den (by rw[mR];unfold lq at h;omega) (by unfold lq at h;omega)
 rw[← aBz]at h1
 simp only[bF,aO,kL,bl]at h0 h1⊢
 refine aA bC Tryz.func220 rfl (by decide) (nt:=9) rfl (rs:=[.cell 2 47]) rfl (aZ rfl) ?_
 refine uU ?_
 exact lM
theorem gE (p q:Rat) (hp:lq p≤34359738368) (hq:lq q≤34359738368):PureGood Tryz.prog 74 [bF p,bF q] (bF (p*q)):=by
 have h1:=fV p.num q.num (by unfold lq at hp;omega) (by unfold lq at hq;omega)
 have h2:=aHd p.den q.den (by unfold lq at hp;omega) (by unfold lq at hq;omega)
 have l1:=cH p.num q.num
 have l2:=cH (p.den:Int) (q.den:Int)
 have h3:=nP (p.num*q.num) (p.den*q.den) (by unfold lq at hp hq;omega) (by rw[Int.natCast_mul];unfold lq at hp hq;omega)
 rw[Int.natCast_mul,← wZ]at h3
 simp only[bF,aO,kL,bl]at h1 h2 h3⊢
 refine aA bC Tryz.func74 rfl (by decide) (nt:=16) rfl (rs:=[.cell 4 47]) rfl (aZ rfl) ?_
 refine uU ?_
 exact lM
theorem kM (q:Rat) (h:lq q≤68719476736):PureGood Tryz.prog 21 [bF q] (i64 q.num.sign):=by
 have h1:=wV q.num (by unfold lq at h;omega)
 have h2:=rK q.den q.den_nz (by unfold lq at h;omega)
 have hs: -1≤q.num.sign∧q.num.sign≤1:=by
  rcases Int.sign_trichotomy q.num with e |e |e <;>rw[e] <;>omega
 simp only[bF,aO,kL,bl,i64]at h1 h2⊢
 refine aA bC Tryz.func21 rfl (by decide) (nt:=10) rfl (rs:=[.tmp 2]) rfl (aZ rfl) ?_
 refine uU ?_
 refine gL ?_
 refine iD ?_
 simp only[Int.mul_one]
theorem tP (p q:Rat) (h0:q≠0) (hp:lq p≤34359738368) (hq:lq q≤34359738368):PureGood Tryz.prog 85 [bF p,bF q] (.tup [bF (p / q),i64 0]):=by
 have hn0:q.num≠0:=fun e=>h0 (Rat.num_eq_zero.1 e)
 have h1:=xA p.num q.den (by unfold lq at hp;omega) (by unfold lq at hq;omega)
 have h2:=aP5 p.den q.num (by unfold lq at hp;omega) (by unfold lq at hq;omega)
 have l1:=cH p.num (q.den:Int)
 have l2:=cH (p.den:Int) q.num
 have h3:=uY (p.num*q.den) (p.den*q.num) (by unfold lq at hp hq;omega) (by unfold lq at hp hq;omega)
 rw[← aEh]at h3
 have hs:=kM q (by omega)
 have hsg:q.num.sign≠0:=fun e=>hn0 (Int.sign_eq_zero_iff_zero.1 e)
 generalize q.num.sign=sg at*
 simp only[bF,aO,kL,bl,i64]at h1 h2 h3 hs⊢
 refine aA bC Tryz.func85 rfl (by decide) (nt:=21) rfl (rs:=[.cell 4 47,.tmp 5]) rfl (aZ rfl) ?_
 refine uU ?_
 exact lM
end
section
open Go Go.Lg Go.Num
attribute [local irreducible] lrun lwp exThen exBlk keep goodPost mutPost
set_option maxHeartbeats 2000000 in
theorem kN (p q:Rat) (hp:lq p≤34359738368) (hq:lq q≤34359738368):PureGood Tryz.prog 59 [bF p,bF q] (bF (p+q)):=by
 have s1:=rK p.den p.den_nz (by unfold lq at hp;omega)
 have s2:=rK q.den q.den_nz (by unfold lq at hq;omega)
 have o1:=aHe p.den (by unfold lq at hp;omega)
 have o2:=aHe q.den (by unfold lq at hq;omega)
 have h1:=xA p.num q.den (by unfold lq at hp;omega) (by unfold lq at hq;omega)
 have h2:=xA q.num p.den (by unfold lq at hq;omega) (by unfold lq at hp;omega)
 have l1:=cH p.num (q.den:Int)
 have l2:=cH q.num (p.den:Int)
 have l3:=rE (p.num*q.den) (q.num*p.den)
 have l4:=cH (p.den:Int) (q.den:Int)
 have h3:=aMf (p.num*q.den) (q.num*p.den) (by unfold lq at hp hq;omega) (by unfold lq at hp hq;omega)
 have h4:=aHd p.den q.den (by unfold lq at hp;omega) (by unfold lq at hq;omega)
 have h5:=nP (p.num*q.den+q.num*p.den) (p.den*q.den) (by unfold lq at hp hq;omega) (by rw[Int.natCast_mul];unfold lq at hp hq;omega)
 rw[Int.natCast_mul,← wY]at h5
 have h6:=aMf p.num q.num (by unfold lq at hp;omega) (by unfold lq at hq;omega)
 have h7:=aEj
 have hpn:(bF p:LV)=bF p:=rfl
 simp only[bF,aO,kL,bl,i64]at s1 s2 o1 o2 h1 h2 h3 h4 h5 h6 h7⊢
 refine aA bC Tryz.func59 rfl (by decide) (nt:=54) rfl (rs:=[.cell 4 47]) rfl (aZ rfl) ?_
 refine aM ?_
 refine cQ (g:=s1) (k:= ?_)
 refine aM ?_
 refine cQ (g:=s2) (k:= ?_)
 refine aM ?_
 by_cases e1:p.den=1
 ·have e1':decide (p.den=1)=true:=by simpa using e1
  rw[e1']at o1
  refine cQ (g:=o1) (k:= ?_)
  refine aM ?_
  by_cases e2:q.den=1
  ·have e2':decide (q.den=1)=true:=by simpa using e2
   rw[e2']at o2
   refine cQ (g:=o2) (k:= ?_)
   refine aM ?_
   refine cQ (g:=h6) (k:= ?_)
   refine aM ?_
   refine cQ (g:=h7) (k:= ?_)
   refine aM ?_
   refine gL ?_
   refine iD ?_
   obtain⟨a1,a2⟩:=bAy p q e1 e2
   rw[a1,a2]
  ·have e2':decide (q.den=1)=false:=by simpa using e2
   rw[e2']at o2
   refine cQ (g:=o2) (k:= ?_)
   refine aM ?_
   refine cQ (g:=h1) (k:= ?_)
   refine aM ?_
   refine cQ (g:=h2) (k:= ?_)
   refine aM ?_
   refine cQ (g:=h3) (k:= ?_)
   refine aM ?_
   refine cQ (g:=h4) (k:= ?_)
   refine aM ?_
   refine cQ (g:=h5) (k:= ?_)
   refine aM ?_
   exact lM
 ·have e1':decide (p.den=1)=false:=by simpa using e1
  rw[e1']at o1
  refine cQ (g:=o1) (k:= ?_)
  refine aM ?_
  refine kZ rfl (by decide) rfl ?_
  refine aM ?_
  refine cQ (g:=h1) (k:= ?_)
  refine aM ?_
  refine cQ (g:=h2) (k:= ?_)
  refine aM ?_
  refine cQ (g:=h3) (k:= ?_)
  refine aM ?_
  refine cQ (g:=h4) (k:= ?_)
  refine aM ?_
  refine cQ (g:=h5) (k:= ?_)
  refine aM ?_
  exact lM
theorem nC (p q:Rat) (hp:lq p≤34359738368) (hq:lq q≤34359738368):PureGood Tryz.prog 130 [bF p,bF q] (bF (p-q)):=by
 have h1:=aVx q (by omega)
 have h2:=kN p (-q) hp (by rw[aP3];exact hq)
 rw[← Rat.sub_eq_add_neg]at h2
 simp only[bF,bl]at h1 h2⊢
 refine aA bC Tryz.func130 rfl (by decide) (nt:=9) rfl (rs:=[.cell 4 47]) rfl (aZ rfl) ?_
 refine aM ?_
 refine cQ (g:=h1) (k:= ?_)
 refine aM ?_
 refine cQ (g:=h2) (k:= ?_)
 refine aM ?_
 exact lM
theorem aP6 (q:Rat) (h:lq q≤68719476736):PureGood Tryz.prog 224 [bF q] (i64 (nO q)):=by
 have h1:=gV q h
 have h2:=aAo q.num (by unfold lq at h;omega)
 have h3:=aAo (q.den:Int) (by unfold lq at h;omega)
 rw[dB,Int.natAbs_natCast]at h3
 have hb:(if(aK q.den:Int)>(aK q.num.natAbs:Int)then(aK q.den:Int)else(aK q.num.natAbs:Int))=(nO q:Int):=by
  unfold nO;split <;>omega
 simp only[bF,aO,kL,bl,i64]at h1 h2 h3⊢
 refine aA bC Tryz.func224 rfl (by decide) (nt:=12) rfl (rs:=[.tmp 2]) rfl (aZ rfl) ?_
 refine aM ?_
 refine cQ (g:=h1) (k:= ?_)
 refine aM ?_
 refine cQ (g:=h2) (k:= ?_)
 refine aM ?_
 refine cQ (g:=h3) (k:= ?_)
 refine sV hb ?_
 exact bFy hb
end
end Go.Proofs.YtaidcaemdkncgaaGreatDoor
