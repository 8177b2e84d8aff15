/- Contracts of functions of the program, and what proves them (texts: Q12 Q13 NumG NumX X0 OpL D1n D4 Q1 Q2 Q3 Q4 Q8 Q9 Q5). -/
import Derived.Test.YtaidcaemdkncgaaGreatDoorZSAM
import Derived.Test.YtaidcaemdkncgaaGreatDoorZSAO
import Derived.Test.YtaidcaemdkncgaaGreatDoorZSAP
set_option linter.all false
set_option maxRecDepth 100000
set_option maxHeartbeats 8000000
namespace Go.Proofs.YtaidcaemdkncgaaGreatDoor
section
open Go Go.Lg Go.Num
def lgL (root q a:Nat):Nat→Nat→Nat→Nat
 |0,_,k=>k
 |f+1,x,k=>if x=a then k else lgL root q a f (x*root % q) (k+1)
def aB3 (root q a:Nat):Nat→Nat→Bool
 |0,_=>false
 |f+1,x=>bif Nat.beq x a then true else aB3 root q a f (x*root % q)
def lgS (q a:Nat):Nat:=if q % 2=0∧a % 4=3 then q-a else a
def lgA (root q a:Nat):Nat:=if q % 2=0∧root+1=q then a % 4 / 2 else lgL root q (lgS q a) 64 1 0
theorem bD9 (root q a:Nat):∀ f x k,lgL root q a f x k≤k+f
 |0,x,k=>Nat.le_refl _
 |f+1,x,k=>by
  rw[lgL];split
  · omega
  · have:=bD9 root q a f (x*root % q) (k+1);omega
attribute [local irreducible] lrun lwp exThen exBlk keep goodPost lgL aB3
theorem aLn {root q a f x k:Nat}(h:aB3 root q a (f+1) x=true):(x=a∧lgL root q a (f+1) x k=k)∨(x≠a∧aB3 root q a f (x*root % q)=true∧lgL root q a (f+1) x k=lgL root q a f (x*root % q) (k+1)):=by
 rw[aB3]at h
 cases hb:Nat.beq x a with
 |true=>
  have:=Nat.eq_of_beq_eq_true hb
  exact .inl ⟨this,by rw[lgL,if_pos this]⟩
 |false=>
  rw[hb,cond_false]at h
  have:x≠a:=fun e=>by rw[e,Nat.beq_refl]at hb;cases hb
  exact .inr ⟨this,h,by rw[lgL,if_neg this]⟩
theorem aB4 {root q a x:Nat}:aB3 root q a 0 x=false:=by rw[aB3]
theorem aF8 (root ord q:Nat) (a:Int) (a':Nat) (ha:a % (q:Int)=a') (hq:2≤q∧q≤100) (hr:root≤100) (ho:ord≤100) (hab: -4294967296≤a∧a≤4294967296) (hit:(q % 2=0∧root+1=q)∨aB3 root q (lgS q a') 64 1=true):PGd 166 [.agg [i64 root,i64 ord,i64 q],i64 a] (i64 (lgA root q a')):=by
 have b1:=aLm a (b:=q) (by omega);have b2:=aAe a (m:=q) (by omega)
 have hal:a'<q:=by
  have:=Int.emod_lt_of_pos a (show(0:Int)<(q:Int)by omega);omega
 rw[ha]at b2
 generalize hbb:a.tmod (q:Int)=b at*
 have e1:(b+(q:Int)) % (q:Int)=(a':Int):=by
  by_cases h:b<0
  ·rw[if_pos h]at b2
   rw[← b2];exact Int.emod_eq_of_lt (by omega) (by omega)
  ·rw[if_neg h]at b2
   rw[Int.add_emod_right,← b2];exact Int.emod_eq_of_lt (by omega) (by omega)
 have e2:(b+(q:Int)).tmod (q:Int)=(a':Int):=by rw[Int.tmod_eq_emod_of_nonneg (by omega)];exact e1
 unfold lgA;by_cases hc1:q % 2=0∧root+1=q
 ·rw[if_pos hc1];have hd:((a':Int) % 4) / 2=((a' % 4 / 2:Nat):Int):=by omega
  generalize a' % 4 / 2=d at*;refine aA aV Tryz.func166 rfl (by decide) (nt:=55) rfl (rs:=[.tmp 4]) rfl (aW rfl) ?_;refine aBf (nd e1 (nd e2 (nd hbb hd))) ?_;exact aRl (nd e1 (nd e2 (nd hbb hd)))
 ·rw[if_neg hc1];have hit:=hit.resolve_left hc1;unfold lgS at*;by_cases hc2:q % 2=0∧a' % 4=3
  ·rw[if_pos hc2]at hit⊢
   have hs:(q:Int)-(a':Int)=((q-a':Nat):Int):=by omega
   have hcl:q-a'≤100:=by omega
   generalize q-a'=c at*;refine aA aV Tryz.func166 rfl (by decide) (nt:=55) rfl (rs:=[.tmp 4]) rfl (aW rfl) ?_;refine aBf (nd e1 (nd e2 (nd hbb hs))) ?_;refine aG (α:={s:Nat×Nat×Nat // aB3 root q c s.1 s.2.1=true∧s.2.1≤100∧s.2.2≤100∧lgL root q c s.1 s.2.1 s.2.2=lgL root q c 64 1 0∧s.1+s.2.2≤64}) (fun s=>st 55 (lk [(1,i64 c),(2,.ptr 0 0),(5,i64 q),(6,i64 s.1.2.2),(7,i64 s.1.2.1)]) (cG [(0,⟨190,[i64 root,i64 ord,i64 q],false⟩)]) 1) (fun s=>s.1.1) ⟨(64,1,0),hit,by simp only;omega,by simp only;omega,rfl,by simp only;omega⟩ ?_ ?_
   ·exact zO1 0
   ·rintro⟨⟨f,x,k⟩,h1,h2,h3,h4,h5⟩;simp only at h1 h2 h3 h4 h5;simp only[st]
    cases f with
    |zero=>rw[aB4]at h1;cases h1
    |succ f=>
     rcases aLn (k:=k) h1 with⟨e,e2⟩ |⟨e,e1,e2⟩
     · rw[e2]at h4
       rw[← h4];subst e;refine zA3 ?_;exact zQ7
     · rw[e2]at h4
       have hb:x*root≤100*100:=Nat.mul_le_mul h2 hr;have hx:(x:Int)*(root:Int)=((x*root:Nat):Int):=by simp
       have hlt:x*root % q<q:=Nat.mod_lt _ (by omega);have hmd:((x*root:Nat):Int) % (q:Int)=((x*root % q:Nat):Int):=rfl;have hne:¬(x:Int)=(c:Int):=by omega
       generalize x*root=y at*;generalize hz:y % q=z at*;refine aBf (nd hx hmd) ?_;refine⟨⟨(f,z,k+1),e1,by simp only;omega,by simp only;omega,h4,by simp only;omega⟩,?_,by simp only;omega⟩;exact zO1 0
  ·rw[if_neg hc2]at hit⊢
   have hcl:a'≤100:=by omega
   by_cases hq2:q % 2=0
   ·have h43:¬a' % 4=3:=fun e=>hc2 ⟨hq2,e⟩
    have hrt:¬root+1=q:=fun e=>hc1 ⟨hq2,e⟩
    refine aA aV Tryz.func166 rfl (by decide) (nt:=55) rfl (rs:=[.tmp 4]) rfl (aW rfl) ?_;refine aBf (nd e1 (nd e2 hbb)) ?_;refine aG (α:={s:Nat×Nat×Nat // aB3 root q a' s.1 s.2.1=true∧s.2.1≤100∧s.2.2≤100∧lgL root q a' s.1 s.2.1 s.2.2=lgL root q a' 64 1 0∧s.1+s.2.2≤64}) (fun s=>st 55 (lk [(1,i64 a'),(2,.ptr 0 0),(5,i64 q),(6,i64 s.1.2.2),(7,i64 s.1.2.1)]) (cG [(0,⟨190,[i64 root,i64 ord,i64 q],false⟩)]) 1) (fun s=>s.1.1) ⟨(64,1,0),hit,by simp only;omega,by simp only;omega,rfl,by simp only;omega⟩ ?_ ?_
    ·exact zO1 0
    ·rintro⟨⟨f,x,k⟩,h1,h2,h3,h4,h5⟩;simp only at h1 h2 h3 h4 h5;simp only[st]
     cases f with
     |zero=>rw[aB4]at h1;cases h1
     |succ f=>
      rcases aLn (k:=k) h1 with⟨e,e2⟩ |⟨e,e1,e2⟩
      · rw[e2]at h4
        rw[← h4];subst e;refine zA3 ?_;exact zQ7
      · rw[e2]at h4
        have hb:x*root≤100*100:=Nat.mul_le_mul h2 hr;have hx:(x:Int)*(root:Int)=((x*root:Nat):Int):=by simp
        have hlt:x*root % q<q:=Nat.mod_lt _ (by omega);have hmd:((x*root:Nat):Int) % (q:Int)=((x*root % q:Nat):Int):=rfl;have hne:¬(x:Int)=(a':Int):=by omega
        generalize x*root=y at*;generalize hz:y % q=z at*;refine aBf (nd hx hmd) ?_;refine⟨⟨(f,z,k+1),e1,by simp only;omega,by simp only;omega,h4,by simp only;omega⟩,?_,by simp only;omega⟩;exact zO1 0
   ·refine aA aV Tryz.func166 rfl (by decide) (nt:=55) rfl (rs:=[.tmp 4]) rfl (aW rfl) ?_;refine aBf (nd e1 (nd e2 hbb)) ?_;refine aG (α:={s:Nat×Nat×Nat // aB3 root q a' s.1 s.2.1=true∧s.2.1≤100∧s.2.2≤100∧lgL root q a' s.1 s.2.1 s.2.2=lgL root q a' 64 1 0∧s.1+s.2.2≤64}) (fun s=>st 55 (lk [(1,i64 a'),(2,.ptr 0 0),(5,i64 q),(6,i64 s.1.2.2),(7,i64 s.1.2.1)]) (cG [(0,⟨190,[i64 root,i64 ord,i64 q],false⟩)]) 1) (fun s=>s.1.1) ⟨(64,1,0),hit,by simp only;omega,by simp only;omega,rfl,by simp only;omega⟩ ?_ ?_
    ·exact zO1 0
    ·rintro⟨⟨f,x,k⟩,h1,h2,h3,h4,h5⟩;simp only at h1 h2 h3 h4 h5;simp only[st]
     cases f with
     |zero=>rw[aB4]at h1;cases h1
     |succ f=>
      rcases aLn (k:=k) h1 with⟨e,e2⟩ |⟨e,e1,e2⟩
      · rw[e2]at h4
        rw[← h4];subst e;refine zA3 ?_;exact zQ7
      · rw[e2]at h4
        have hb:x*root≤100*100:=Nat.mul_le_mul h2 hr;have hx:(x:Int)*(root:Int)=((x*root:Nat):Int):=by simp
        have hlt:x*root % q<q:=Nat.mod_lt _ (by omega);have hmd:((x*root:Nat):Int) % (q:Int)=((x*root % q:Nat):Int):=rfl;have hne:¬(x:Int)=(a':Int):=by omega
        generalize x*root=y at*;generalize hz:y % q=z at*;refine aBf (nd hx hmd) ?_;refine⟨⟨(f,z,k+1),e1,by simp only;omega,by simp only;omega,h4,by simp only;omega⟩,?_,by simp only;omega⟩;exact zO1 0
end
section
open Go Go.Lg Go.Num
def pR (n i:Nat):Nat:=(pt n).getD (3*i) 0
def pQ (n i:Nat):Nat:=(pt n).getD (3*i+2) 0
def cFt (root q r:Nat):Bool:=(Nat.beq (q % 2) 0 && Nat.beq (root+1) q) ||aB3 root q (lgS q r) 64 1
def cKo (n:Nat):Bool:=(List.range (od n).length).all fun i=>Nat.beq (n % pQ n i) 0 && Nat.ble 2 (pQ n i) && (List.range (pQ n i)).all fun r=> !(Nat.beq (Nat.gcd r (pQ n i)) 1) ||cFt (pR n i) (pQ n i) r
theorem bK6:(List.range 61).all cKo=true:=by decide+kernel
theorem bU4 {n i:Nat}(h:n≤60) (hi:i<(od n).length):n % pQ n i=0∧2≤pQ n i∧∀ r,r<pQ n i→Nat.gcd r (pQ n i)=1→(pQ n i % 2=0∧pR n i+1=pQ n i)∨aB3 (pR n i) (pQ n i) (lgS (pQ n i) r) 64 1=true:=by
 have h:=List.all_eq_true.1 (List.all_eq_true.1 bK6 n (List.mem_range.2 (by omega))) i (List.mem_range.2 hi);rw[Bool.and_eq_true,Bool.and_eq_true,Nat.beq_eq,Nat.ble_eq]at h
 refine⟨h.1.1,h.1.2,fun r hr hg=> ?_⟩;have h2:=List.all_eq_true.1 h.2 r (List.mem_range.2 hr);rw[hg,Bool.or_eq_true]at h2
 rcases h2 with h2 |h2
 ·cases h2
 ·unfold cFt at h2;rw[Bool.or_eq_true,Bool.and_eq_true,Nat.beq_eq,Nat.beq_eq]at h2
  exact h2
def vs (s:Nat×Nat) (o e l:Nat):Nat×Nat:=
 ((s.1*o+e*l*s.2) / Nat.gcd (s.1*o+e*l*s.2) (s.2*o) % (s.2*o / Nat.gcd (s.1*o+e*l*s.2) (s.2*o)),s.2*o / Nat.gcd (s.1*o+e*l*s.2) (s.2*o))
def rsd (a:Int) (q:Nat):Nat:=(a % (q:Int)).toNat
def vf (n:Nat) (v:List Nat) (a:Int):Nat→Nat×Nat
 |0=>(0,1)
 |i+1=>vs (vf n v a i) ((od n).getD i 0) (v.getD i 0) (lgA (pR n i) (pQ n i) (rsd a (pQ n i)))
theorem cFu {s:Nat×Nat}{o e l B:Nat}(h1:s.1<s.2) (h2:s.2≤B) (ho:1≤o∧o≤60):(vs s o e l).1<(vs s o e l).2∧(vs s o e l).2≤B*60:=by
 have hp:0<s.2*o:=Nat.mul_pos (by omega) ho.1;have hg:0<Nat.gcd (s.1*o+e*l*s.2) (s.2*o):=Nat.gcd_pos_of_pos_right _ hp;have hle:Nat.gcd (s.1*o+e*l*s.2) (s.2*o)≤s.2*o:=Nat.le_of_dvd hp (Nat.gcd_dvd_right _ _);have hd:0<s.2*o / Nat.gcd (s.1*o+e*l*s.2) (s.2*o):=Nat.div_pos hle hg;have hb:s.2*o≤B*60:=Nat.mul_le_mul h2 ho.2;have:=Nat.div_le_self (s.2*o) (Nat.gcd (s.1*o+e*l*s.2) (s.2*o));exact⟨Nat.mod_lt _ hd,by unfold vs;simp only;omega⟩
theorem bNr {n:Nat}(hn:n≤60) (v:List Nat) (a:Int):∀ i,i≤(od n).length→(vf n v a i).1<(vf n v a i).2∧(vf n v a i).2≤60^i
 |0,_=>⟨Nat.zero_lt_one,Nat.le_refl _⟩
 |i+1,h=>by
  have ih:=bNr hn v a i (by omega);have:=cFu (e:=v.getD i 0) (l:=lgA (pR n i) (pQ n i) (rsd a (pQ n i))) ih.1 ih.2 (aB1 hn (show i<(od n).length by omega));rw[vf,Nat.pow_succ];exact this
theorem bU5 (r q a:Nat) (ha:a≤100):lgA r q a≤100:=by
 unfold lgA;split
 ·omega
 ·have:=bD9 r q (lgS q a) 64 1 0;omega
theorem bK7 {a:Int}{n q:Nat}(hq:n % q=0) (hq2:2≤q) (hg:Int.gcd a n=1):Nat.gcd (rsd a q) q=1:=by
 have h0:0≤a % (q:Int):=Int.emod_nonneg _ (by omega);have hr:((rsd a q:Nat):Int)=a % (q:Int):=by unfold rsd;omega
 have d1:((Nat.gcd (rsd a q) q:Nat):Int)∣((rsd a q:Nat):Int):=Int.natCast_dvd_natCast.2 (Nat.gcd_dvd_left _ _);have d2:((Nat.gcd (rsd a q) q:Nat):Int)∣(q:Int):=Int.natCast_dvd_natCast.2 (Nat.gcd_dvd_right _ _)
 have d3:((Nat.gcd (rsd a q) q:Nat):Int)∣a:=by
  have h:=Int.dvd_add (Int.dvd_trans d2 (Int.dvd_mul_right (q:Int) (a / (q:Int)))) d1
  rwa [hr,Int.mul_ediv_add_emod]at h
 have d4:Nat.gcd (rsd a q) q∣n:=Nat.dvd_trans (Nat.gcd_dvd_right _ _) (Nat.dvd_of_mod_eq_zero hq);have d5:Nat.gcd (rsd a q) q∣Int.gcd a n:=Nat.dvd_gcd (by simpa using Int.natAbs_dvd_natAbs.2 d3) (by simpa using d4);rw[hg]at d5
 exact Nat.dvd_one.1 d5
attribute [local irreducible] lrun lwp exThen exBlk keep goodPost ec pt gn od lgA
theorem aZa {m:Int}{l:List Int}(hb:ChB m l) (a:Int) (ha: -4294967296≤a∧a≤4294967296) (hm:1≤m∧m≤60) (hg:Int.gcd a m≠1):PGd 77 [.agg [i64 m,.sl l.length (ec l)],i64 a] (.agg [bl true,i64 0,i64 0]):=by
 have gg:=nM a m (by omega) (by omega);have h1:¬((Int.gcd a m:Nat):Int)=1:=by omega
 generalize Int.gcd a m=g at*;simp only[i64,bl]at*;refine aA aV Tryz.func77 rfl (by decide) (nt:=62) rfl (rs:=[.cell 4 89]) rfl (aW rfl) ?_;refine sA ?_;exact zQ2
theorem aZb {n:Nat}{v:List Nat}(n1:1≤n) (n2:n≤60) (hv:v.length=(od n).length) (hv2:∀ i,v.getD i 0≤60) (a:Int) (ha: -4294967296≤a∧a≤4294967296) (hg:Int.gcd a n=1):PGd 77 [.agg [i64 n,.sl (nI v).length (ec (nI v))],i64 a] (.agg [bl false,i64 ((vf n v a (od n).length).1:Nat),i64 ((vf n v a (od n).length).2:Nat)]):=by
 have gg:=nM a n (by omega) (by omega);rw[hg]at gg
 have gp:=yL n1 n2;rw[oK]at gp
 obtain⟨t1,t2,t3,t4,t5,t6,t7,t8,t9⟩:=tb (m:=n) n2;have hvl:=cW v;have hbd:=fun i (hi:i≤(od n).length)=>bNr n2 v a i hi
 simp only[i64,bl]at gg gp⊢;rw[hvl,hv];generalize hk:(od n).length=k at*;refine aA aV Tryz.func77 rfl (by decide) (nt:=62) rfl (rs:=[.cell 4 89]) rfl (aW rfl) ?_;refine sA ?_;refine aG (α:={i:Nat // i≤k}) (fun i=>st 62 (lk [(1,i64 a),(2,.ptr 0 0),(4,.ptr 1 0),(5,i64 ((vf n v a i.1).1:Nat)),(6,i64 ((vf n v a i.1).2:Nat)),(18,.sl k (ec (nI (pt n)))),(19,i64 k),(20,i64 i.1)]) (cG [(0,⟨25,[i64 n,.sl k (ec (nI v))],false⟩),(1,⟨89,[bl false,i64 0,i64 0],false⟩)]) 2) (fun i=>k-i.1) ⟨0,by omega⟩ ?_ ?_
 ·exact zL3 [0,1]
 ·rintro⟨i,hi⟩;simp only[st];by_cases hlt:i<k
  ·obtain⟨q1,q2,q3⟩:=bU4 (n:=n) (i:=i) n2 (by omega);have hX:=bNq (pt n) i (by omega);rw[(t7 i (by omega)).1]at hX
   have hqle:pQ n i≤60:=aD5 t4;have hrle:pR n i≤60:=aD5 t4;have ho:=aB1 (m:=n) (i:=i) n2 (by omega);have hp:=cW (pt n);have hr0:0≤a % (pQ n i:Int):=Int.emod_nonneg _ (by omega);have hr1:a % (pQ n i:Int)<(pQ n i:Int):=Int.emod_lt_of_pos _ (by omega);have hre:a % (pQ n i:Int)=((rsd a (pQ n i):Nat):Int):=by unfold rsd;omega
   have gl:=aF8 (pR n i) ((od n).getD i 0) (pQ n i) a (rsd a (pQ n i)) hre (by omega) (by omega) (by omega) ha (q3 _ (by omega) (bK7 q1 q2 hg));have hlle:=bU5 (pR n i) (pQ n i) (rsd a (pQ n i)) (by omega);have hvi:=qN v i;have hve:=hv2 i;have hb:=hbd i (by omega);have hvf:vf n v a (i+1)=vs (vf n v a i) ((od n).getD i 0) (v.getD i 0) (lgA (pR n i) (pQ n i) (rsd a (pQ n i))):=rfl
   have h60:(60:Nat)^i≤3600:=by
    have:i≤2:=by omega
    match i,this with
    |0,_=>decide
    |1,_=>decide
    |2,_=>decide
   unfold pR pQ at*;generalize lgA ((pt n).getD (3*i) 0) ((pt n).getD (3*i+2) 0) (rsd a ((pt n).getD (3*i+2) 0))=lg at*;generalize (pt n).getD (3*i) 0=ra at*;generalize (pt n).getD (3*i+2) 0=rc at*;generalize (od n).getD i 0=o at*;generalize v.getD i 0=e at*;generalize vf n v a i=s at*;obtain⟨x,y⟩:=s;simp only at hb hvf⊢;unfold vs at hvf;simp only at hvf;have m1:x*o≤3600*60:=Nat.mul_le_mul (by omega) (by omega);have m2:e*lg≤60*100:=Nat.mul_le_mul (by omega) (by omega);have m3:e*lg*y≤60*100*3600:=Nat.mul_le_mul m2 (by omega);have m4:y*o≤3600*60:=Nat.mul_le_mul (by omega) (by omega);have m5:1≤y*o:=Nat.mul_pos (by omega) (by omega);have c1:(x:Int)*(o:Int)=((x*o:Nat):Int):=by simp
   have c2:(e:Int)*(lg:Int)=((e*lg:Nat):Int):=by simp
   have c3:((e*lg:Nat):Int)*(y:Int)=((e*lg*y:Nat):Int):=by simp
   have c4:(y:Int)*(o:Int)=((y*o:Nat):Int):=by simp
   have c5:((x*o:Nat):Int)+((e*lg*y:Nat):Int)=((x*o+e*lg*y:Nat):Int):=by simp
   generalize x*o=A at*;generalize hel:e*lg=B at*;generalize B*y=C at*;generalize y*o=Dn at*;generalize hN:A+C=N at*;have gg2:=nM (N:Int) (Dn:Int) (by omega) (by omega);have hgc:Int.gcd (N:Int) (Dn:Int)=Nat.gcd N Dn:=rfl;rw[hgc]at gg2
   have hgp:0<Nat.gcd N Dn:=Nat.gcd_pos_of_pos_right _ m5;have hgle:Nat.gcd N Dn≤Dn:=Nat.le_of_dvd m5 (Nat.gcd_dvd_right _ _);generalize Nat.gcd N Dn=g at*;have d1:(N:Int) / (g:Int)=((N / g:Nat):Int):=rfl;have d2:(Dn:Int) / (g:Int)=((Dn / g:Nat):Int):=rfl;have d3:0<Dn / g:=Nat.div_pos hgle hgp;have d4:N / g≤N:=Nat.div_le_self _ _;have d5:Dn / g≤Dn:=Nat.div_le_self _ _;generalize N / g=x2 at*;generalize Dn / g=y2 at*;have d6:(x2:Int) % (y2:Int)=((x2 % y2:Nat):Int):=rfl;generalize x2 % y2=z2 at*;have hg0:¬(g:Int)=0:=by omega
   have hy0:¬(y2:Int)=0:=by omega
   simp only[i64]at gl gg2;refine jR (nd hX (nd hp (nd t1 (nd hvi (nd c1 (nd c2 (nd c3 (nd c4 (nd c5 (nd d1 (nd d2 d6))))))))))) ?_;refine⟨⟨i+1,by omega⟩,?_,by simp only;omega⟩;rw[hvf];exact zL3 [0,1]
  ·obtain rfl:i=k:=by omega
   refine sA ?_;exact zQ2
end
end Go.Proofs.YtaidcaemdkncgaaGreatDoor
namespace Go.Num
section
def svS (d:Nat→Nat) (x:Nat→Int) (n:Nat) (j:Nat):Int:=if n % d j=0 then x j else 0
def sv (d:Nat→Nat) (x:Nat→Int) (k n:Nat):Int:=aHy (svS d x n) k
def dc (c:List Int) (j:Nat):Int:=((j+1:Nat):Int)*c.getD j 0
def sS (c:List Int) (n:Nat):Int:=sv (fun j=>j+1) (dc c) c.length n
def qs (s:Nat→Int) (a:Nat→Rat) (n:Nat):Nat→Rat
 |0=>0
 |i+1=>qs s a n i+(s (i+1):Rat)*a (n-1-i)
structure ProdOk (c:List Int) (a:Nat→Rat):Prop where
 len:c.length≤999
 cs:∀ x∈c,-4800≤x∧x≤4800
 a0:a 0=1
 step:∀ n,1≤n→n≤c.length→a n= -(qs (sS c) a n n) / ((n:Int):Rat)
 ba:∀ n,n≤c.length→lq (a n)≤1000
 bq:∀ n i,1≤n→n≤c.length→i≤n→lq (qs (sS c) a n i)≤1000
theorem bU6 {z:Int}{e:Nat}(h:z.natAbs<4294967296^e):len z≤e:=bV h
end
section
theorem aZc {α:Type}{f g:Nat→α}{N i:Nat}{v:α}(hv:g i=v) (hg:∀ m,m<N→m≠i→g m=f m):
  ((List.range N).map f).set i v=(List.range N).map g:=by
 refine List.ext_getElem (by simp) (fun m h1 h2=> ?_);simp only[List.length_map,List.length_range]at h2;rw[List.getElem_set];split
 ·rename_i h;subst h;simp[hv]
 ·rename_i h;simp[hg m h2 (fun e=>h e.symm)]
theorem aS1 {α:Type}{f:Nat→α}{N i:Nat}{z:α}(h:i<N):((List.range N).map f).getD i z=f i:=by simp[List.getD,h]
def aP (a:Nat→Rat) (m:Nat):List Rat:=(List.range m).map a
theorem eC (a:Nat→Rat) (m:Nat):(aP a m).length=m:=by simp[aP]
theorem pY (a:Nat→Rat) (m:Nat):aP a (m+1)=aP a m++[a m]:=by simp[aP,List.range_succ]
theorem sT {a:Nat→Rat}{m i:Nat}(h:i<m):(aP a m).getD i 0=a i:=aS1 h
end
end Go.Num
namespace Go.Lg
open Go
theorem Sub.heapR {n:Nat}{f:Nat→LV}{h:Nat→Option Blk}{nb nb':Nat}{l:List (Nat×LV)}{hl:List (Nat×Blk)}(ρ:List Nat) (hnb:nb'=ρ.length) (hd:ρ.Nodup) (hf:∀ p∈l,renL nb' (fun b=>ρ.getD b 0) p.2=some (f p.1))
  (hlt:∀ p∈hl,p.1<ρ.length) (hb:∀ p∈hl,∃ cs,h (ρ.getD p.1 0)=some ⟨p.2.ty,cs,p.2.fz⟩∧renLs nb' (fun b=>ρ.getD b 0) p.2.cells=some cs):Sub 0 ⟨n,f,h,nb⟩ ⟨n,lk l,cG hl,nb'⟩:=by
 subst hnb;refine Sub.heap (fun b=>ρ.getD b 0) hf (fun p hp'=>⟨hlt p hp',hb p hp'⟩) ?_ ⟨by omega,fun b hb=>by omega⟩;intro p hp' q hq heq;have h1:=hlt p hp';have h2:=hlt q hq;simp only[List.getD_eq_getElem?_getD,List.getElem?_eq_getElem h1,List.getElem?_eq_getElem h2,Option.getD_some]at heq;exact(List.getElem_inj hd).1 heq
theorem bK8 {α:Type}{j:Int}{n m k l:Nat}{x y:α}(h:0≤j∧n≤m∧k≤l):(if 0≤j∧n≤m∧k≤l then x else y)=x:=if_pos h
theorem bEa (a b c d:LV) (n:Nat):yV [a,b,c,d] (n*4+4)=yV [a,b,c,d] (n*4)++[a,b,c,d]:=by
 unfold yV;have e0:n*4 % 4=0:=by omega
 have e1:(n*4+1) % 4=1:=by omega
 have e2:(n*4+2) % 4=2:=by omega
 have e3:(n*4+3) % 4=3:=by omega
 rw[List.range_succ,List.range_succ,List.range_succ,List.range_succ];simp only[List.map_append,List.map_cons,List.map_nil,List.length_cons,List.length_nil,Nat.zero_add,Nat.reduceAdd,e0,e1,e2,e3,List.append_assoc,List.cons_append,List.nil_append];rfl
end Go.Lg
namespace Go.Proofs.YtaidcaemdkncgaaGreatDoor
section
open Go Go.Lg Go.Num
def oqc:Option Rat→List LV
 |none=>[.lit (.bool false),.lit (.slice none 0 0),.lit (.bool false),.lit (.slice none 0 0)]
 |some q=>dD q
def oc (l:List (Option Rat)):List LV:=l.flatMap oqc
theorem aF9:oqc none=[.lit (.bool false),.lit (.slice none 0 0),.lit (.bool false),.lit (.slice none 0 0)]:=rfl
theorem aGa (q:Rat):oqc (some q)=[sg (q).num,mg (q).num,sg ((q).den:Int),mg ((q).den:Int)]:=dR q
theorem aAf (o:Option Rat):(oqc o).length=4:=by cases o <;>rfl
theorem aB5 (l:List (Option Rat)):(oc l).length=l.length*4:=by induction l with
 |nil=>rfl
 |cons a l ih=>rw[oc,List.flatMap_cons,List.length_append,aAf];rw[oc]at ih;rw[ih,List.length_cons];omega
theorem aGb:∀ {l:List (Option Rat)}{j:Nat},j<l.length→∃ a b,oc l=a++oqc (l.getD j none)++b∧a.length=j*4∧∀ o,oc (l.set j o)=a++oqc o++b
 |[],j,h=>by simp at h
 |x::l,0,_=>⟨[],oc l,by simp[oc],rfl,fun o=>by simp[oc]⟩
 |x::l,j+1,h=>by
  obtain⟨a,b,h1,h2,h3⟩:=aGb (l:=l) (j:=j) (by simpa using h);refine⟨oqc x++a,b,?_,?_,fun o=> ?_⟩
  · show oqc x++oc l=_;rw[h1];simp
  · rw[List.length_append,aAf,h2];omega
  · show oqc x++oc (l.set j o)=_;rw[h3];simp
theorem bNs {l:List (Option Rat)}{j:Nat}(h:j<l.length):((oc l).drop (j*4)).take 4=oqc (l.getD j none):=by
 obtain⟨a,b,h1,h2,_⟩:=aGb h;rw[h1,← h2,List.append_assoc,List.drop_left,← aAf (l.getD j none),List.take_left]
theorem lH {l:List (Option Rat)}{j:Nat}(h:j<l.length) (q:Rat):(oc l).take (j*4)++[sg (q).num,mg (q).num,sg ((q).den:Int),mg ((q).den:Int)]++(oc l).drop (j*4+4)=oc (l.set j (some q)):=by
 obtain⟨a,b,h1,h2,h3⟩:=aGb h;rw[h3,← aGa,h1,← h2];have e:a.length+4=(a++oqc (l.getD j none)).length:=by rw[List.length_append,aAf]
 rw[e,List.drop_left,List.append_assoc a (oqc (l.getD j none)) b,List.take_left]
theorem rH:∀ n,yV [.lit (.bool false),.lit (.slice none 0 0),.lit (.bool false),.lit (.slice none 0 0)] (n*4)=oc (List.replicate n none)
 |0=>by rw[Nat.zero_mul,bM8];rfl
 |n+1=>by
  rw[Nat.add_mul,Nat.one_mul,bEa,rH n,List.replicate_succ',oc,oc,List.flatMap_append];rfl
attribute [local irreducible] sg mg
theorem aJg (o:Option Rat):∀ c∈oqc o,aB c=true:=by
 cases o with
 |none=>intro c hc;simp[oqc]at hc;rcases hc with rfl |rfl |rfl |rfl <;>rfl
 |some q=>
  rw[aGa];intro c hc;simp only[List.mem_cons,List.not_mem_nil,or_false]at hc;rcases hc with rfl |rfl |rfl |rfl
  · exact s9 _
  · exact s10 _
  · exact s9 _
  · exact s10 _
theorem rI (l:List (Option Rat)):∀ c∈oc l,aB c=true:=by
 intro c hc;simp only[oc,List.mem_flatMap]at hc;obtain⟨o,_,ho⟩:=hc;exact aJg o c ho
theorem bEb (l:List (Option Rat)):(∀ c∈oc l,aB c=true)=True:=eq_true (rI l)
theorem bU7 {nb:Nat}{ρ:Nat→Nat}(l:List (Option Rat)):renLs nb ρ (oc l)=some (oc l):=cM (rI l)
def mC (a:Nat→Rat) (N i:Nat):List LV:=if i=0 then oc (List.replicate N none)else qc (aP a i)
theorem aD7 (a:Nat→Rat) (N:Nat):oc (List.replicate N none)=mC a N 0:=rfl
theorem bK9 (a:Nat→Rat) (N i:Nat):(mC a N i).take (i*4)=qc (aP a i):=by
 unfold mC;split
 ·rename_i h;subst h;rw[Nat.zero_mul,List.take_zero];rfl
 ·exact aVb (by rw[eC])
theorem bEc (a:Nat→Rat) (N i:Nat):i*4≤(mC a N i).length:=by
 unfold mC;split
 ·rename_i h;subst h;omega
 ·rw[gV,eC];exact Nat.le_refl _
theorem cFv {α:Type}{a:Nat→Rat}{N i k l m n:Nat}{x y:α}(h:k≤l∧m≤n):(if i*4≤(mC a N i).length∧k≤l∧m≤n then x else y)=x:=if_pos ⟨bEc a N i,h⟩
theorem cFw {α:Type}{a:Nat→Rat}{N i:Nat}{x y:α}:(if i*4≤(mC a N i).length then x else y)=x:=if_pos (bEc a N i)
theorem aVr {a:Nat→Rat}{N i:Nat}{q:Rat}(h:a i=q):qc (aP a i)++[sg (q).num,mg (q).num,sg ((q).den:Int),mg ((q).den:Int)]=mC a N (i+1):=by
 subst h;rw[mC,if_neg (by omega),iI,← pY]
theorem aJh (a:Nat→Rat) (N i:Nat):∀ c∈mC a N i,aB c=true:=by
 unfold mC;split
 ·exact rI _
 ·exact lE s9 s10 _
theorem bEd (a:Nat→Rat) (N i:Nat):(∀ c∈mC a N i,aB c=true)=True:=eq_true (aJh a N i)
theorem bU8 {nb:Nat}{ρ:Nat→Nat}(a:Nat→Rat) (N i:Nat):renLs nb ρ (mC a N i)=some (mC a N i):=cM (aJh a N i)
def smM:=nd bK9 (nd @cFv (nd @cFw (nd bEd @bU8)))
def nV (b m:Nat):LV:=if m=0 then nilL else .own b 0 m 4
theorem mZ (b:Nat):nV b 0=nilL:=rfl
theorem oN {b m:Nat}(h:m=0):nV b m=nilL:=if_pos h
theorem lY {b m:Nat}(h:m≠0):nV b m= .own b 0 m 4:=if_neg h
theorem dW (b m:Nat):nV b (m+1)= .own b 0 (m+1) 4:=rfl
def nB (b m:Nat) (cs:List LV):List (Nat×Blk):=if m=0 then[]else[(b,⟨47,cs,false⟩)]
theorem oO {b m:Nat}{cs:List LV}(h:m=0):nB b m cs=[]:=if_pos h
theorem lZ {b m:Nat}{cs:List LV}(h:m≠0):nB b m cs=[(b,⟨47,cs,false⟩)]:=if_neg h
theorem nA (b:Nat) (cs:List LV):nB b 0 cs=[]:=rfl
theorem dX (b m:Nat) (cs:List LV):nB b (m+1) cs=[(b,⟨47,cs,false⟩)]:=rfl
theorem wJ (s:LS) (z:Int):wZ s (mg z)=some (aC z.natAbs).length:=by with_unfolding_all rfl
def smO:=nd aB5 (nd @bNs (nd aF9 (nd aGa (nd rH (nd bEb (nd @bU7 @bK8))))))
end
section
open Go Go.Lg Go.Num
def oqp:Option Rat→List LV
 |none=>[.lit (.bool false),.sl 0 [],.lit (.bool false),.sl 0 []]
 |some q=>dD q
def op (l:List (Option Rat)):List LV:=l.flatMap oqp
theorem oqp_none:oqp none=[.lit (.bool false),.sl 0 [],.lit (.bool false),.sl 0 []]:=rfl
theorem oqp_some (q:Rat):oqp (some q)=[sg (q).num,mg (q).num,sg ((q).den:Int),mg ((q).den:Int)]:=dR q
theorem aAg (o:Option Rat):(oqp o).length=4:=by cases o <;>rfl
theorem op_len (l:List (Option Rat)):(op l).length=l.length*4:=by induction l with
 |nil=>rfl
 |cons a l ih=>rw[op,List.flatMap_cons,List.length_append,aAg];rw[op]at ih;rw[ih,List.length_cons];omega
theorem op_take {l:List (Option Rat)}{m:Nat}(h:m=l.length*4):(op l).take m=op l:=List.take_of_length_le (by rw[op_len];omega)
theorem op_drop (l:List (Option Rat)):∀ j,(op l).drop (j*4)=op (l.drop j):=by
 induction l with
 |nil=>intro j;simp[op]
 |cons x l ih=>
  intro j
  cases j with
  |zero=>simp
  |succ j=>
   have:op (x::l)=oqp x++op l:=by simp[op]
   rw[this,List.drop_succ_cons,← ih,show(j+1)*4=(oqp x).length+j*4 by rw[aAg];omega,← List.drop_drop,List.drop_left]
theorem bEe {l:List (Option Rat)}{s:Nat}(h:s<l.length):(op (l.drop s)).take 4=oqp (l.getD s none):=by
 rw[List.drop_eq_getElem_cons h];have e:l.getD s none=l[s]:=by simp[h]
 have:op (l[s]::l.drop (s+1))=oqp l[s]++op (l.drop (s+1)):=rfl;rw[this,e,show(4:Nat)=(oqp l[s]).length from(aAg _).symm,List.take_left]
theorem op_td {l:List (Option Rat)}{s:Nat}(h:s<l.length):((op l).drop (s*4)).take 4=oqp (l.getD s none):=by
 rw[op_drop];exact bEe h
theorem bEf (l:List Rat):op (l.map some)=qc l:=by
 induction l with
 |nil=>rfl
 |cons x l ih=>simp only[op,qc,List.map_cons,List.flatMap_cons]at*;rw[ih];rfl
theorem vC {h:Nat→Option Blk}{ok:Nat→Bool}{k:Nat}:∀ l:List (Option Rat),fM h ok (k+1) (oc l)=some (op l,[])
 |[]=>rfl
 |none::l=>by
  have e1:oc (none::l)= .lit (.bool false):: .lit (.slice none 0 0):: .lit (.bool false):: .lit (.slice none 0 0)::oc l:=rfl;rw[e1];simp only[jU,vC l,zG,aKi,Option.bind_some,Option.map_some]
  rfl
 |some q::l=>by
  have e1:oc (some q::l)=sg q.num::mg q.num::sg (q.den:Int)::mg (q.den:Int)::oc l:=by
    show dD q++oc l=_;rw[dR];rfl
  have e2:op (some q::l)=sg q.num::mg q.num::sg (q.den:Int)::mg (q.den:Int)::op l:=by
    show dD q++op l=_;rw[dR];rfl
  rw[e1,e2];simp only[jU,vC l,rZ (sQ _),rZ (sR _),Option.bind_some,Option.map_some];rfl
end
end Go.Proofs.YtaidcaemdkncgaaGreatDoor
namespace Go.Num
end Go.Num
namespace Go.Proofs.YtaidcaemdkncgaaGreatDoor
section
open Go Go.Lg Go.Num
attribute [local irreducible] lrun lwp exThen exBlk keep goodPost sg mg bq
theorem bEg {m:Int}(h0:0≤m) (h:m≤100000):lq (m:Rat)≤2:=by
 rw[sK];have:=bH (a:=m) (e:=1) (by omega);omega
end
section
open Go Go.Lg Go.Num
attribute [local irreducible] lrun lwp exThen exBlk keep goodPost sg mg bq
def bp (n k:Nat):List Rat:=(List.range k).map fun j=>((ch n j:Int):Rat)*bq (n-j)
theorem nN (n k:Nat):(bp n k).length=k:=by simp[bp]
theorem aVs (n k:Nat):bp n (k+1)=bp n k++[((ch n k:Int):Rat)*bq (n-k)]:=by simp[bp,List.range_succ]
theorem bU9 {n:Nat}(hn:n≤60) (j:Nat):lq (((ch n j:Int):Rat)*bq (n-j))≤30:=by
 have c1:=aF1 (show n≤100 by omega) j;have c3:=aOw (n-j);have c4:=jZ ((ch n j:Int):Rat) (bq (n-j));have c5:=sK (ch n j:Int);omega
theorem aO7 {n:Nat}(hn:n≤60) (k:Nat):∀ c∈bp n k,lq c≤30:=by
 intro c hc;simp only[bp,List.mem_map]at hc;obtain⟨j,_,rfl⟩:=hc;exact bU9 hn j
def bQ (f:List Rat):List Rat:=(f.reverse.dropWhile (· ==0)).reverse
theorem gT (f:List Rat) {c:Rat}(h:c≠0):bQ (f++[c])=f++[c]:=by
 simp[bQ,h]
theorem kC (f:List Rat):bQ (f++[0])=bQ f:=by
 simp[bQ]
theorem aJi:bQ []=[]:=rfl
theorem aVt {f:List Rat}(h:0<f.length):f=f.take (f.length-1)++[f.getD (f.length-1) 0]:=by
 have h1:f.getD (f.length-1) 0=f[f.length-1]:=by simp[show f.length-1<f.length by omega]
 rw[h1,List.take_append_getElem (by omega),show f.length-1+1=f.length by omega,List.take_length]
theorem bNt (q:Rat):q.num=0↔q=0:=Rat.num_eq_zero
theorem bNu {l:List Rat}{j:Nat}(h:j<l.length):((qc l).drop (j*4+1)).head? =some (mg (l.getD j 0).num):=by
 rw[← List.drop_drop,aVd,List.drop_eq_getElem_cons h];have:l.getD j 0=l[j]:=by simp[h]
 rw[this];simp only[qc,List.flatMap_cons,dR];simp
theorem aO8 (l:List Rat) (k:Nat):(qc l).take (k*4)=qc (l.take k):=by
 by_cases h:k≤l.length
 ·conv=>lhs;rw[← List.take_append_drop k l]
  rw[qc,List.flatMap_append];rw[List.take_append_of_le_length (by have:=gV (l.take k);rw[qc]at this;rw[this,List.length_take];omega),List.take_of_length_le (by have:=gV (l.take k);rw[qc]at this;rw[this,List.length_take];omega)];rfl
 ·rw[List.take_of_length_le (by rw[gV];omega),List.take_of_length_le (by omega)]
theorem iJ (f:List Rat) (hl:f.length≤1000000000):PGd 275 [encF f] (encF (bQ f)):=by
 rw[bE];refine aA aV Tryz.func275 rfl (by decide) (nt:=24) rfl (rs:=[.tmp 2]) rfl (aW rfl) ?_;refine dP ?_;refine aG (α:={g:List Rat // bQ g=bQ f∧g.length≤f.length}) (fun g=>st 24 (lk [(0,.sl g.1.length (qc g.1)),(2,nilL)]) (cG []) 0) (fun g=>g.1.length) ⟨f,rfl,Nat.le_refl _⟩ ?_ ?_
 ·exact zP2
 ·rintro⟨g,hg,hgl⟩;simp only[st];by_cases h0:0<g.length
  ·have hg':=aVt h0;have hh:=bNu (l:=g) (j:=g.length-1) (by omega);by_cases hz:g.getD (g.length-1) 0=0
   ·have hd:(aC 0).length=0:=by simp[bD]
    rw[hz,show(0:Rat).num=0 from rfl]at hh
    (repeat(first|apply zO (by decide+kernel)|apply zP (by decide+kernel)|(apply zS;(case h=>constructor<;>decide))|((first|apply cB rfl|apply aS|apply zT rfl (by decide) rfl);(case hs=>(simp(disch:=first|omega|exact kD rfl|exact kX rfl) only[smY,simprocAttr,bl,i64,smT,wJ,hh,Int.natAbs_zero];exact rfl));first|refine bZ ?_|refine cA ?_|refine zq ?_|(case hg=>assumption))))
    rw[hz]at hg'
    have hg2:bQ (g.take (g.length-1))=bQ f:=by rw[← hg,hg',kC,← hg']
    have hgl2:(g.take (g.length-1)).length=g.length-1:=by rw[List.length_take];omega
    refine⟨⟨g.take (g.length-1),hg2,by omega⟩,?_,by simp only;omega⟩;simp only[hgl2,← aO8];exact zP2
   ·have hzn:(g.getD (g.length-1) 0).num≠0:=fun e=>hz ((bNt _).1 e)
    have hd:(aC (g.getD (g.length-1) 0).num.natAbs).length≠0:=fun e=>hzn (by have:=bR.1 (List.eq_nil_of_length_eq_zero e);omega)
    have hfin:bQ g=g:=by
     conv=>lhs;rw[hg']
     rw[gT _ hz,← hg']
    rw[← hg,hfin,bE];generalize (g.getD (g.length-1) 0).num=z at*
    (repeat(first|apply zO (by decide+kernel)|apply zP (by decide+kernel)|(apply zS;(case h=>constructor<;>decide))|((first|apply cB rfl|apply aS|apply zT rfl (by decide) rfl);(case hs=>(simp(disch:=first|omega|exact kD rfl|exact kX rfl) only[smY,simprocAttr,bl,i64,smT,wJ,hh];exact rfl));first|refine bZ ?_|refine cA ?_|refine zq ?_|(case hg=>assumption))))
    exact lU
  ·have:g=[]:=List.length_eq_zero_iff.1 (by omega);subst this;rw[aJi]at hg
   rw[← hg];refine dP ?_;refine zR1 ?_;refine zV2 ?_;rfl
theorem aGc (z:List LV) (n:Nat):(yV z n).length=n:=by simp[yV]
def z4:List LV:=[bl false,.lit (.slice none 0 0),bl false,.lit (.slice none 0 0)]
def gG (f:List Rat) (k:Nat):List LV:=qc (f.take k)++(yV z4 (f.length*4)).drop (k*4)
theorem sU (f:List Rat):gG f 0=yV z4 (f.length*4):=by simp[gG,qc]
theorem wL (f:List Rat):gG f f.length=qc f:=by
 rw[gG,List.take_length,List.drop_of_length_le (by rw[aGc];omega),List.append_nil]
theorem wM {f:List Rat}{k:Nat}(h:k≤f.length):(gG f k).length=f.length*4:=by
 rw[gG,List.length_append,gV,List.length_take,List.length_drop,aGc];omega
theorem sV {f:List Rat}{k:Nat}(h:k<f.length) {c:Rat}(hc:f.getD k 0=c):(gG f k).take (k*4)++[sg c.num,mg c.num,sg (c.den:Int),mg (c.den:Int)]++(gG f k).drop (k*4+4)=gG f (k+1):=by
 have e1:(qc (f.take k)).length=k*4:=by rw[gV,List.length_take];omega
 have e2:f.take (k+1)=f.take k++[c]:=by
  rw[List.take_succ_eq_append_getElem h];have:f.getD k 0=f[k]:=by simp[h]
  rw[← this,hc]
 rw[gG,List.take_append_of_le_length (by omega),List.take_of_length_le (by omega),List.drop_append,List.drop_of_length_le (by omega),e1,List.nil_append,List.drop_drop,gG,e2,← iI,show k*4+4-k*4=4 by omega,show k*4+4=(k+1)*4 by omega]
theorem fA (f:List Rat) (k:Nat):∀ c∈gG f k,aB c=true:=by
 intro c hc;rcases List.mem_append.1 hc with h |h
 ·exact lE (Q:=fun c=>aB c=true) s9 s10 _ c h
 ·have h1:=List.mem_of_mem_drop h;simp only[yV,List.mem_map,List.mem_range]at h1;obtain⟨i,_,rfl⟩:=h1;have:i % z4.length<4:=Nat.mod_lt _ (by decide);generalize i % z4.length=j at*
  match j,this with
  |0,_=>rfl
  |1,_=>rfl
  |2,_=>rfl
  |3,_=>rfl
theorem jQ (f:List Rat) (hl:f.length≤100000000) (hf:∀ c∈f,lq c≤100000):PGd 219 [encF f] (encF (bQ f)):=by
 have ht:=iJ f (by omega);rw[bE]at*
 refine aA aV Tryz.func219 rfl (by decide) (nt:=24) rfl (rs:=[.tmp 2]) rfl (aW rfl) ?_;refine dP ?_;refine aG (α:={k:Nat // k≤f.length}) (fun k=>st 24 (lk [(0,.sl f.length (qc f)),(2,nilL),(3,.own 0 0 f.length 4),(9,.sl f.length (qc f)),(10,i64 f.length),(11,i64 k.1)]) (cG [(0,⟨47,gG f k.1,false⟩)]) 1) (fun k=>f.length-k.1) ⟨0,by omega⟩ ?_ ?_
 ·(refine Sub.heap1 3 ?_ (by simp only[aI,simprocAttr,bl,i64,smT];exact rfl) ?_ ?_;all_goals(first |exact aE _ |with_reducible rfl |(simp only[aI,simprocAttr,bl,i64,smT])|skip))
  ·rw[sU];rfl
  ·exact fA _ _
 ·rintro⟨k,hk⟩;simp only[st];by_cases h:k<f.length
  ·have hm:lq (f.getD k 0)≤100000:=by
    have:f.getD k 0=f[k]:=by simp[h]
    rw[this];exact hf _ (List.getElem_mem _)
   have hn:=iF (f.getD k 0) (by omega);have hfl:=wM hk;generalize hc:f.getD k 0=c at*;have hst:=sV h hc;rw[aH]at hn
   generalize gG f k=L at*;refine cZ hc ?_;refine⟨⟨k+1,by omega⟩,?_,by simp only;omega⟩
   (refine Sub.heap1 0 ?_ (by simp only[aI,simprocAttr,bl,i64,smT];exact rfl) ?_ ?_;all_goals(first |exact aE _ |with_reducible rfl |(simp only[aI,simprocAttr,bl,i64,smT])|skip))
   ·exact hst
   ·exact fA _ _
  ·obtain rfl:k=f.length:=by omega
   rw[wL];refine dP ?_;refine zR1 ?_;refine zV2 ?_;rfl
theorem bLa (m:Nat):bQ (bp m (m+1))=bp m (m+1):=by
 rw[aVs,gT];rw[Nat.sub_self,aU6,bq0];decide+kernel
theorem aDl (m:Nat) (hm:m≤60):PGd 129 [i64 m] (encF (bp m (m+1))):=by
 have hn:=jQ (bp m (m+1)) (by rw[nN];omega) (fun c hc=>by have:=aO7 hm (m+1) c hc;omega);rw[bLa,bE,nN]at hn
 rw[bE,nN];have g1:=aK9 m (by omega);have g2:=aOx m (by omega);have hl:=jP (m+1);have hl2:=jO m (m+1);rw[bE,jP]at g1
 rw[oH,jO]at g2
 simp only[i64]at g1 g2⊢
 have step:∀ k:Nat,k≤m→PGd 87 [aO (ch m k)] (bG ((ch m k:Int):Rat))∧PGd 74 [bG ((ch m k:Int):Rat),bG (bq (m-k))] (bG (((ch m k:Int):Rat)*bq (m-k)))∧
   (yH m (m+1)).getD k 0=(ch m k:Int)∧(bn (m+1)).getD (m-k) 0=bq (m-k):=by
  intro k hk;have c1:=aF1 (show m≤100 by omega) k;have c3:=aOw (m-k);have c5:=sK (ch m k:Int);exact⟨oD (ch m k) (by omega),gS ((ch m k:Int):Rat) (bq (m-k)) (by omega) (by omega),aBt (by omega),aD1 (by omega)⟩
 have b1:bp m 1=[((ch m 0:Int):Rat)*bq m]:=rfl;obtain⟨w1,w2,e1,e2⟩:=step 0 (by omega);rw[Nat.sub_zero]at w2 e2
 have hs0:((m:Int)-0).toNat=m:=by omega
 generalize ((ch m 0:Int):Rat)*bq m=c0 at*;simp only[aY,aH]at w1 w2;refine aA aV Tryz.func129 rfl (by decide) (nt:=33) rfl (rs:=[.tmp 2]) rfl (aW rfl) ?_;refine dP ?_;refine kV (s':= ?_) (fun Φ hΦ=> ?_) ?_
 rotate_left
 ·refine cZ (nd e1 (nd e2 hs0)) ?_;exact hΦ
 refine aG (α:={k:Nat // 0<k∧k≤m+1}) (fun k=>st 33 (lk [(0,i64 m),(2,nilL),(3,.sl (m+1) (qc (bn (m+1)))),(4,.sl (m+1) (ic (yH m (m+1)))),(5,.own 0 0 k.1 4),(6,i64 k.1)]) (cG [(0,⟨47,qc (bp m k.1),false⟩)]) 1) (fun k=>m+1-k.1) ⟨1,by omega,by omega⟩ ?_ ?_
 ·(refine Sub.heap1 26 ?_ (by simp only[aI,simprocAttr,bl,i64,smT];exact rfl) ?_ ?_;all_goals(first |exact aE _ |with_reducible rfl |(simp only[aI,simprocAttr,bl,i64,smT])|skip))
  rw[b1,← jK]
 ·rintro⟨k,hk0,hk⟩;simp only[st];have hl3:=nN m k;by_cases hlt:k≤m
  ·obtain⟨w1,w2,e1,e2⟩:=step k hlt;have happ:=aVs m k;have hsub:((m:Int)-(k:Int)).toNat=m-k:=by omega
   generalize ((ch m k:Int):Rat)*bq (m-k)=c0 at*;simp only[aY,aH]at w1 w2;refine cZ (nd e1 e2) ?_;refine⟨⟨k+1,by omega,by omega⟩,?_,by simp only;omega⟩
   (refine Sub.heap1 18 ?_ (by simp only[aI,simprocAttr,bl,i64,smT];exact rfl) ?_ ?_;all_goals(first |exact aE _ |with_reducible rfl |(simp only[aI,simprocAttr,bl,i64,smT])|skip))
   rw[happ,← iI]
  ·obtain rfl:k=m+1:=by omega
   refine dP ?_;exact lU
end
section
open Go Go.Lg Go.Num
attribute [local irreducible] lrun lwp exThen exBlk keep goodPost sg mg
def tP (f:List Rat):Prop:=∀ _:0<f.length,f.getD (f.length-1) 0≠0
theorem lI {f:List Rat}(h:tP f):bQ f=f:=by
 by_cases h0:0<f.length
 ·have hg:=aVt h0
  conv=>lhs;rw[hg]
  rw[gT _ (h h0),← hg]
 ·obtain rfl:f=[]:=List.length_eq_zero_iff.1 (by omega);rfl
theorem bVa {f:List Rat}(hf:tP f) (hl:f.length≤1000000) (nb:Nat):mP Tryz.prog 275 [.own 0 0 f.length 4] (cG [(0,⟨47,qc f,false⟩)]) nb (.own 0 0 f.length 4) (cG [(0,⟨47,qc f,false⟩)]) (nb+100):=by
 refine lT aV Tryz.func275 rfl (by decide) (nt:=24) rfl (rs:=[.tmp 2]) rfl (aW rfl) ?_;by_cases h0:0<f.length
 ·have hh:=bNu (l:=f) (j:=f.length-1) (by omega);have hz:=hf h0;have hzn:(f.getD (f.length-1) 0).num≠0:=fun e=>hz ((bNt _).1 e)
  have hd:(aC (f.getD (f.length-1) 0).num.natAbs).length≠0:=fun e=>hzn (by have:=bR.1 (List.eq_nil_of_length_eq_zero e);omega)
  have hh2:(qc f)[(f.length-1)*4+1]? =some (mg (f.getD (f.length-1) 0).num):=by rw[← List.head?_drop];exact hh
  generalize (f.getD (f.length-1) 0).num=z at*;refine dP ?_;refine iV (e:= .exit 0) (s':= ?_) (by simp) (fun Φ hΦ=> ?_) ?_
  rotate_left
  ·(repeat(first|apply zO (by decide+kernel)|apply zP (by decide+kernel)|(apply zS;(case h=>constructor<;>decide))|((first|apply cB rfl|apply aS|apply zT rfl (by decide) rfl);(case hs=>(simp(disch:=first|omega|exact kD rfl|exact kX rfl) only[smY,simprocAttr,bl,i64,smT,wJ,hh2];exact rfl));first|refine bZ ?_|refine cA ?_|refine zq ?_|(case hg=>assumption))))
   exact hΦ
  ·refine dP ?_;exact⟨by simp only[gW];try rfl,rfl,by simp only[List.length_cons,List.length_nil];omega⟩
 ·obtain rfl:f=[]:=List.length_eq_zero_iff.1 (by omega);refine dP ?_;refine iV (e:= .exit 0) (s':= ?_) (by simp) (fun Φ hΦ=> ?_) ?_
  rotate_left
  ·refine dP ?_;exact hΦ
  ·refine dP ?_;exact⟨by simp only[gW];try rfl,rfl,by simp only[List.length_cons,List.length_nil];omega⟩
theorem aGd {P:Program}[Laid P] {base i:Nat}{ok:Nat→Nat→Bool}{ops:Array Oper}{o:Oper}{rest:List Oper}{n nb d m:Nat}{F:Nat→LV}{H H':Nat→Option Blk}{K:LS→Prop}{c:Call}{f:FuncId}{args:List LV}{r:LV}{nb':Nat}
  (hm:max nb (base+ops.size)=m) (hop:o.op= .call c) (hcal:c.callee= .value (.func f)) (hd:o.dst=some d) (hn:d<n) (hw:cS ops o ⟨n,F,H,nb⟩=some true) (hargs:c.args.toList.map (opnd ⟨n,F,H,nb⟩)=args)
  (hg:mP P f args H m r H' nb') (hle:m≤nb')
  (hk:lrun P true base ok ops (i+1) rest ⟨n,dE F d r,H',nb'⟩ K):lrun P true base ok ops i (o::rest) ⟨n,F,H,nb⟩ K:=by
 subst hm;exact bH1 hop hcal rfl hd hn hw (by rw[List.append_nil,hargs];exact hg) hle hk
theorem aGe (f:List Rat) (hla:tP f) (hl:f.length≤1000000) (hf:∀ c∈f,lq c≤100000):jX Tryz.prog 219 [encF f] f.length 4 47 (qc f):=by
 rw[bE];refine sF aV Tryz.func219 rfl (by decide) (nt:=24) rfl (rs:=[.tmp 2]) rfl (aW rfl) (lE s9 s10 _) ?_;refine dP ?_;refine aG (α:={k:Nat // k≤f.length}) (fun k=>st 24 (lk [(0,.sl f.length (qc f)),(2,nilL),(3,.own 0 0 f.length 4),(9,.sl f.length (qc f)),(10,i64 f.length),(11,i64 k.1)]) (cG [(0,⟨47,gG f k.1,false⟩)]) 1) (fun k=>f.length-k.1) ⟨0,by omega⟩ ?_ ?_
 ·(refine Sub.heap1 3 ?_ (by simp only[aI,simprocAttr,bl,i64,smT];exact rfl) ?_ ?_;all_goals(first |exact aE _ |with_reducible rfl |(simp only[aI,simprocAttr,bl,i64,smT])|skip))
  ·rw[sU];rfl
  ·exact fA _ _
 ·rintro⟨k,hk⟩;simp only[st];by_cases h:k<f.length
  ·have hm:lq (f.getD k 0)≤100000:=by
    have:f.getD k 0=f[k]:=by simp[h]
    rw[this];exact hf _ (List.getElem_mem _)
   have hn:=iF (f.getD k 0) (by omega);have hfl:=wM hk;generalize hc:f.getD k 0=c at*;have hst:=sV h hc;rw[aH]at hn
   generalize gG f k=L at*;refine cZ hc ?_;refine⟨⟨k+1,by omega⟩,?_,by simp only;omega⟩
   (refine Sub.heap1 0 ?_ (by simp only[aI,simprocAttr,bl,i64,smT];exact rfl) ?_ ?_;all_goals(first |exact aE _ |with_reducible rfl |(simp only[aI,simprocAttr,bl,i64,smT])|skip))
   ·exact hst
   ·exact fA _ _
  ·obtain rfl:k=f.length:=by omega
   rw[wL];refine dP ?_;refine aGd (by simp only[List.size_toArray,List.length_cons,List.length_nil,Nat.reduceAdd,Nat.max_def,Nat.reduceLeDiff,↓reduceIte];exact rfl) rfl rfl rfl (by decide) rfl (by simp(disch:=first|omega|exact kD rfl|exact kX rfl) only[smY,simprocAttr,bl,i64,smT];try exact rfl) (bVa hla hl _) (by omega) ?_;refine dP ?_;exact⟨0,by simp only[gW];try rfl,rfl⟩
end
section
open Go Go.Lg Go.Num
def aB6 (c:Rat):List Rat→List Rat→Nat→Option (List Rat)
 |[],r,_=>some r
 |b::g,r,i=>bif dS (c*b) && dS (r.getD i 0-c*b)then aB6 c g (r.set i (r.getD i 0-c*b)) (i+1)else none
def aB7 (g:List Rat) (gl:Rat):Nat→List (Option Rat)→List Rat→Option (List (Option Rat)×List Rat)
 |0,q,r=>some (q,r)
 |k+1,q,r=>bif dS (r.getD (k+g.length-1) 0 / gl)then(if r.getD (k+g.length-1) 0 / gl=0 then aB7 g gl k (q.set k (some (r.getD (k+g.length-1) 0 / gl))) r else match aB6 (r.getD (k+g.length-1) 0 / gl) g r k with
  |some r'=>aB7 g gl k (q.set k (some (r.getD (k+g.length-1) 0 / gl))) r'
  |none=>none)else none
theorem wO:∀ l:List Rat,oc (l.map some)=qc l
 |[]=>rfl
 |a::l=>by
  have:=wO l;simp only[oc,qc,List.map_cons,List.flatMap_cons]at this⊢;rw[this];rfl
def mQ (l:List Rat):Prop:=∀ q∈l,dS q=true
theorem lJ {l:List Rat}(h:mQ l) {i:Nat}(hi:i<l.length):lq (l.getD i 0)≤200:=by
 have:l.getD i 0=l[i]:=by simp[hi]
 rw[this];exact eM (h _ (List.getElem_mem hi))
theorem aJj {l:List Rat}(h:mQ l) {i:Nat}{q:Rat}(hq:dS q=true):mQ (l.set i q):=by
 intro x hx;rcases List.mem_or_eq_of_mem_set hx with h1 |rfl
 ·exact h x h1
 ·exact hq
theorem aGf {l:List Rat}{j:Nat}(h:j<l.length) (v:Rat):(qc l).take (j*4)++[sg (v).num,mg (v).num,sg ((v).den:Int),mg ((v).den:Int)]++(qc l).drop (j*4+4)=qc (l.set j v):=by
 rw[← wO,lH (by simpa using h) v,← wO,List.map_set]
theorem aZd (g:List Rat) (gl:Rat) (q:List (Option Rat)) (r:List Rat):aB7 g gl 0 q r=some (q,r):=rfl
theorem aZe {g:List Rat}{gl:Rat}{k:Nat}{q:List (Option Rat)}{r:List Rat}{x:List (Option Rat)×List Rat}(h:aB7 g gl (k+1) q r=some x):dS (r.getD (k+g.length-1) 0 / gl)=true∧(r.getD (k+g.length-1) 0 / gl=0∧aB7 g gl k (q.set k (some (r.getD (k+g.length-1) 0 / gl))) r=some x∨r.getD (k+g.length-1) 0 / gl≠0∧∃ r',aB6 (r.getD (k+g.length-1) 0 / gl) g r k=some r'∧aB7 g gl k (q.set k (some (r.getD (k+g.length-1) 0 / gl))) r'=some x):=by
 rw[aB7]at h
 cases ht:dS (r.getD (k+g.length-1) 0 / gl)with
 |false=>rw[ht,cond_false]at h;cases h
 |true=>
  rw[ht,cond_true]at h
  refine⟨rfl,?_⟩;split at h
  · rename_i hz;exact .inl ⟨hz,h⟩
  · rename_i hz;split at h
    · rename_i r' hr;exact .inr ⟨hz,r',hr,h⟩
    · cases h
theorem bEh (c:Rat) (r:List Rat) (i:Nat):aB6 c [] r i=some r:=rfl
theorem aZf {c b:Rat}{g r r':List Rat}{i:Nat}(h:aB6 c (b::g) r i=some r'):dS (c*b)=true∧dS (r.getD i 0-c*b)=true∧aB6 c g (r.set i (r.getD i 0-c*b)) (i+1)=some r':=by
 rw[aB6]at h
 cases ht:(dS (c*b) && dS (r.getD i 0-c*b))with
 |false=>rw[ht,cond_false]at h;cases h
 |true=>
  rw[ht,cond_true]at h
  rw[Bool.and_eq_true]at ht
  exact⟨ht.1,ht.2,h⟩
attribute [local irreducible] lrun lwp exThen exBlk keep goodPost sg mg dS aB6 aB7 oc
theorem sW (q:Rat) (h:lq q≤100000):PGd 277 [bG q] (bl (decide (q=0))):=by
 have g:=kY q (by omega);have hs:q.num.sign=0↔q=0:=by rw[Int.sign_eq_zero_iff_zero,Rat.num_eq_zero]
 rw[aH]at*
 by_cases h0:q=0
 ·rw[nS h0];rw[hs.2 h0]at g
  simp only[i64,bl]at*;refine aA aV Tryz.func277 rfl (by decide) (nt:=6) rfl (rs:=[.tmp 2]) rfl (aW rfl) ?_;refine dP ?_;exact lU
 ·rw[nT h0];have h1:¬q.num.sign=0:=fun e=>h0 (hs.1 e)
  generalize q.num.sign=s at*;simp only[i64,bl]at*;refine aA aV Tryz.func277 rfl (by decide) (nt:=6) rfl (rs:=[.tmp 2]) rfl (aW rfl) ?_;refine dP ?_;exact lU
theorem aH1 (f g:List Rat) (lf:tP f) (tf:mQ f) (hl:f.length<g.length) (hg:g.length≤1000):PGd 286 [encF f,encF g] (.tup [.sl 0 [],encF f]):=by
 have gn:=jQ f (by omega) (fun c hc=>by have:=eM (tf c hc);omega);rw[lI lf]at gn
 simp only[bE]at*;refine aA aV Tryz.func286 rfl (by decide) (nt:=87) rfl (rs:=[.tmp 4,.tmp 5]) rfl (aW rfl) ?_;refine dP ?_;exact lU
theorem aLo (f g Q R:List Rat) (D:Nat) (lf:tP f) (tf:mQ f) (tg:mQ g) (hG:1≤g.length) (hg:g.length≤1000) (hf:f.length≤1000) (hD:f.length+1=D+g.length) (hD1:1≤D) (h0:g.getD (g.length-1) 0≠0)
  (h:aB7 g (g.getD (g.length-1) 0) D (List.replicate D none) f=some (Q.map some,R)) (hQ:Q.length≤1000) (hR:R.length≤1000):PGd 286 [encF f,encF g] (.tup [encF (bQ Q),encF (bQ R)]):=by
 have gn:=aGe f lf (by omega) (fun c hc=>by have:=eM (tf c hc);omega);have t1:=iJ Q (by omega);have t2:=iJ R (by omega);have hDz:((f.length:Int)-(g.length:Int)+1).toNat=D:=by omega
 have lgl:=lJ tg (i:=g.length-1) (by omega);simp only[bE]at*;refine aA aV Tryz.func286 rfl (by decide) (nt:=87) rfl (rs:=[.tmp 4,.tmp 5]) rfl (aW rfl) ?_;refine dP ?_;refine wB (by simp only[List.size_toArray,List.length_cons,List.length_nil,Nat.reduceAdd,Nat.max_def,Nat.reduceLeDiff,↓reduceIte];exact rfl) rfl rfl rfl (by decide) rfl (by simp(disch:=first|omega|exact kD rfl|exact kX rfl) only[smY,simprocAttr,bl,i64,smT];try exact rfl) gn (by simp[aB]) (by simp[dE]) ?_;refine tW hDz ?_;refine aG (α:={x:Nat×List (Option Rat)×List Rat // x.1≤D∧x.2.1.length=D∧x.2.2.length=f.length∧mQ x.2.2∧aB7 g (g.getD (g.length-1) 0) x.1 x.2.1 x.2.2=some (Q.map some,R)}) (fun x=>st 87 (lk [(0,.sl f.length (qc f)),(1,.sl g.length (qc g)),(4,.own 0 0 D 4),(5,.own 1 0 f.length 4),(6,i64 ((x.1.1:Int)-1))]) (cG [(0,⟨47,oc x.1.2.1,false⟩),(1,⟨47,qc x.1.2.2,false⟩)]) 2) (fun x=>x.1.1) ⟨(D,List.replicate D none,f),Nat.le_refl _,by simp,rfl,tf,h⟩ ?_ ?_
 ·(refine fY [17,5] ?_ ?_ ?_;all_goals(first|(simp only[aB,aI,simprocAttr,bl,i64,smT,smO,hDz];done) |(simp only[aI,simprocAttr,bl,i64,smT,smO,hDz];try((repeat' apply And.intro);all_goals rfl)) |skip))
  all_goals(first |done |((repeat' apply And.intro);all_goals(first |trivial |rfl)))
 ·rintro⟨⟨k,q,r⟩,hk,hq,hr,tr,hd⟩;simp only at hk hq hr tr hd;simp only[st];by_cases hk0:k=0
  ·subst hk0;rw[aZd]at hd
   injection hd with hd;injection hd with hd1 hd2;subst hd1 hd2;rw[List.length_map]at hq
   rw[wO];rw[hq]at t1
   rw[hr]at t2
   refine zA4 ?_;exact zQ5
  ·obtain⟨k,rfl⟩:∃ j,k=j+1:=⟨k-1,by omega⟩;obtain⟨tc,hd⟩:=aZe hd;have la:=lJ tr (i:=k+g.length-1) (by omega);have gq:=uT (r.getD (k+g.length-1) 0) (g.getD (g.length-1) 0) h0 (by omega) (by omega);have gz:=sW (r.getD (k+g.length-1) 0 / g.getD (g.length-1) 0) (by have:=eM tc;omega);have lc:=eM tc;generalize hc:r.getD (k+g.length-1) 0 / g.getD (g.length-1) 0=c at*;generalize ha:r.getD (k+g.length-1) 0=a at*;generalize hgl:g.getD (g.length-1) 0=gl at*;have hk1:((k+1:Nat):Int)-1=k:=by omega
   have hset:=lH (l:=q) (j:=k) (by omega) c;have hgs:(q.set k (some c)).getD k none=some c:=by simp[show k<q.length by omega]
   have hql:(q.set k (some c)).length=D:=by simp[hq]
   simp only[aH]at gq gz;rcases hd with⟨c0,hd⟩ |⟨c0,r',hs,hd⟩
   ·rw[nS c0]at gz
    simp only[i64,bl]at*;refine tW (nd ha (nd hgl (nd hk1 (nd hset hgs)))) ?_;refine⟨⟨(k,q.set k (some c),r),by simp only;omega,by simp only;exact hql,hr,tr,hd⟩,?_,by simp only;omega⟩;exact zL1 [0,1]
   ·rw[nT c0]at gz
    simp only[i64,bl]at*;refine tW (nd ha (nd hgl (nd hk1 (nd hset hgs)))) ?_;refine aG (α:={x:Nat×List Rat // x.1≤g.length∧x.2.length=f.length∧mQ x.2∧aB6 c (g.drop x.1) x.2 (k+x.1)=some r'}) (fun x=>st 87 (lk [(0,.sl f.length (qc f)),(1,.sl g.length (qc g)),(4,.own 0 0 D 4),(5,.own 1 0 f.length 4),(6,i64 k),(57,.sl g.length (qc g)),(58,i64 g.length),(59,i64 x.1.1)]) (cG [(0,⟨47,oc (q.set k (some c)),false⟩),(1,⟨47,qc x.1.2,false⟩)]) 2) (fun x=>g.length-x.1.1) ⟨(0,r),by simp,hr,tr,hs⟩ ?_ ?_
    ·exact zL1 [0,1]
    ·rintro⟨⟨j,y⟩,hj,hy,ty,hsub⟩;simp only at hj hy ty hsub;simp only[st];by_cases hlt:j<g.length
     ·rw[List.drop_eq_getElem_cons hlt]at hsub
      obtain⟨u1,u2,u3⟩:=aZf hsub;have hgj:g.getD j 0=g[j]:=by simp[hlt]
      rw[← hgj]at u1 u2 u3
      have lb:=lJ tg hlt;have ly:=lJ ty (i:=k+j) (by omega);have lm:=eM u1;have gm:=gS c (g.getD j 0) (by omega) (by omega);have gs:=nL (y.getD (k+j) 0) (c*g.getD j 0) (by omega) (by omega);have hys:=aGf (l:=y) (j:=k+j) (by omega) (y.getD (k+j) 0-c*g.getD j 0);have hyl:(y.set (k+j) (y.getD (k+j) 0-c*g.getD j 0)).length=f.length:=by simp[hy]
      have tys:=aJj (i:=k+j) ty u2;have hkj:((k:Int)+(j:Int))=((k+j:Nat):Int):=by simp
      have hkb:k+j<y.length:=by omega
      have hgd:(qc (y.set (k+j) (y.getD (k+j) 0-c*g.getD j 0))).length=f.length*4:=by rw[gV,hyl]
      generalize hv:y.getD (k+j) 0-c*g.getD j 0=v at*;generalize hmm:c*g.getD j 0=mm at*;generalize hb:g.getD j 0=b at*;generalize hx:y.getD (k+j) 0=x at*;simp only[aH]at gm gs;refine tW (nd hb (nd hx (nd hgs (nd hkj hys)))) ?_;refine⟨⟨(j+1,y.set (k+j) v),by simp only;omega,by simp only;exact hyl,tys,by simp only;exact u3⟩,?_,by simp only;omega⟩;exact zL1 [0,1]
     ·obtain rfl:j=g.length:=by omega
      rw[List.drop_length,bEh]at hsub
      injection hsub with hsub;subst hsub;refine zA4 ?_;refine⟨⟨(k,q.set k (some c),y),by simp only;omega,by simp only;exact hql,hy,ty,hd⟩,?_,by simp only;omega⟩;exact zL1 [0,1]
end
section
open Go Go.Lg Go.Num
def rz (l:List Int):List Rat:=l.map fun(z:Int)=>(z:Rat)
def mD (z:Int):Bool:=Nat.ble z.natAbs 4611686018427387904
theorem bX (l:List Int):(rz l).length=l.length:=by simp[rz]
theorem aB8 {z:Int}(h:mD z=true):eW z=true:=by
 unfold mD at h;unfold eW;rw[Nat.ble_eq]at*
 have:(4611686018427387905:Nat)≤4294967296^100:=by decide+kernel
 omega
theorem iK {z:Int}(h:mD z=true):dS (z:Rat)=true:=by
 have:=aB8 h;unfold eW at this;unfold dS;rw[Bool.and_eq_true];refine⟨?_,?_⟩
 ·rw[Rat.num_intCast];exact this
 ·rw[Rat.den_intCast];decide+kernel
def aZg (c:Int):List Int→List Int→Option (List Int)
 |[],r=>some r
 |_::_,[]=>none
 |b::g,x::r=>iE (c*b) fun m=>iE (x-m) fun v=>bif mD m && mD v then match aZg c g r with
  |some l=>some (v::l)
  |none=>none else none
theorem aVu {c:Int}:∀ {g r l:List Int},aZg c g r=some l→l.length=r.length∧∀ lo:List Int,aB6 (c:Rat) (rz g) (rz (lo++r)) lo.length=some (rz (lo++l))
 |[],r,l,h=>by
  cases h
  exact⟨rfl,fun lo=>rfl⟩
 |_::_,[],l,h=>by cases h
 |b::g,x::r,l,h=>by
  unfold aZg at h;rw[cY,cY]at h
  cases hb:(mD (c*b) && mD (x-c*b))with
  |false=>rw[hb,cond_false]at h;cases h
  |true=>
   rw[hb,cond_true]at h
   rw[Bool.and_eq_true]at hb
   split at h
   · rename_i l' hl
     cases h
     obtain⟨e1,e2⟩:=aVu hl;refine⟨by simp[e1],fun lo=> ?_⟩;have e3:=e2 (lo++[x-c*b]);have hx:(rz (lo++x::r)).getD lo.length 0=(x:Rat):=by simp[rz]
     have hset:(rz (lo++x::r)).set lo.length ((x-c*b:Int):Rat)=rz (lo++[x-c*b]++r):=by simp[rz]
     show aB6 (c:Rat) ((b:Rat)::rz g) _ _=_;rw[aB6,hx,← Rat.intCast_mul,← Rat.intCast_sub,iK hb.1,iK hb.2];show aB6 _ _ _ _=_;rw[hset];simp only[List.length_append,List.length_cons,List.length_nil]at e3;rw[e3];simp
   · cases h
def aO9 (g:List Int) (G:Nat):List Int→List Int→List Int→Option (List Int×List Int)
 |[],hi,q=>some (q,hi)
 |x::lo,hi,q=>iE ((x::hi).getD (G-1) 0) fun c=>bif mD c then(bif Nat.beq c.natAbs 0 then aO9 g G lo (x::hi) (c::q)else match aZg c g (x::hi)with
  |some h2=>aO9 g G lo h2 (c::q)
  |none=>none)else none
theorem aLp {g:List Int}(hG:1≤g.length):∀ {lo hi q Q R:List Int},aO9 g g.length lo hi q=some (Q,R)→hi.length+1=g.length+(hi.length+1-g.length)→g.length≤hi.length+1→
  aB7 (rz g) 1 lo.length (List.replicate lo.length none++(rz q).map some) (rz (lo.reverse++hi))=some ((rz Q).map some,rz R)∧Q.length=lo.length+q.length∧R.length=lo.length+hi.length
 |[],hi,q,Q,R,h,_,_=>by
  cases h
  exact⟨rfl,by simp,by simp⟩
 |x::lo,hi,q,Q,R,h,_,hle=>by
  unfold aO9 at h;rw[cY]at h
  generalize hc:(x::hi).getD (g.length-1) 0=c at h
  cases hk:mD c with
  |false=>rw[hk,cond_false]at h;cases h
  |true=>
   rw[hk,cond_true]at h
   have hr:lo.reverse++x::hi=(x::lo).reverse++hi:=by simp
   have hget:(rz ((x::lo).reverse++hi)).getD (lo.length+(rz g).length-1) 0=(c:Rat):=by
     rw[← hr,bX,← hc];have e:lo.length+g.length-1=lo.reverse.length+(g.length-1):=by rw[List.length_reverse];omega
     rw[e];simp only[rz,List.getD,List.getElem?_map,List.getElem?_append_right (Nat.le_add_right _ _),Nat.add_sub_cancel_left]
     cases (x::hi)[g.length-1]? <;>rfl
   have hset:(List.replicate (lo.length+1) none++(rz q).map some).set lo.length (some (c:Rat))=List.replicate lo.length none++(rz (c::q)).map some:=by
     rw[List.replicate_succ',List.append_assoc,List.set_append_right _ _ (by simp),List.length_replicate,Nat.sub_self];rfl
   have hd1:(c:Rat) / 1=c:=by rw[Rat.div_def,show(1:Rat)⁻¹=1 from by decide+kernel,Rat.mul_one]
   cases h0:Nat.beq c.natAbs 0 with
   |true=>
    rw[h0,cond_true]at h
    have hc0:(c:Rat)=0:=by
      have:=Nat.eq_of_beq_eq_true h0;have:c=0:=by omega
      rw[this];rfl
    obtain⟨e1,e2,e3⟩:=aLp hG h (by simp;omega) (by simp;omega);refine⟨?_,by simp only[List.length_cons]at*;omega,by simp only[List.length_cons]at*;omega⟩;rw[List.length_cons,aB7,hget,hd1,iK hk,cond_true,if_pos hc0,hset,← hr]
    exact e1
   |false=>
    rw[h0,cond_false]at h
    have hc0:¬(c:Rat)=0:=fun e=>by
      have:c=0:=Rat.intCast_inj.1 (e.trans Rat.intCast_zero.symm);rw[this]at h0
      cases h0
    split at h
    · rename_i h2 hz;obtain⟨z1,z2⟩:=aVu hz;simp only[List.length_cons]at z1;obtain⟨e1,e2,e3⟩:=aLp hG h (by omega) (by omega);refine⟨?_,by simp only[List.length_cons]at*;omega,by simp only[List.length_cons]at*;omega⟩;rw[List.length_cons,aB7,hget,hd1,iK hk,cond_true,if_neg hc0,hset,← hr];have:=z2 lo.reverse;rw[List.length_reverse]at this
      rw[this];exact e1
    · cases h
end
section
open Go Go.Lg Go.Num
def aH2:Nat→List LV→Option (List Int)
 |0,[]=>some []
 |k+1,a::b::c::d::r=>match rdI a b,rdI c d,aH2 k r with
  |some z,some (.ofNat e),some l=>bif Nat.beq e 1 && mD z then some (z::l)else none
  |_,_,_=>none
 |_,_=>none
theorem yM (z:Int):dD (z:Rat)=[sg z,mg z,sg 1,mg 1]:=by
 rw[dR,Rat.num_intCast,Rat.den_intCast];rfl
theorem pZ:∀ {k:Nat}{cs:List LV}{l:List Int},aH2 k cs=some l→cs=qc (rz l)∧k=l.length∧∀ z∈l,mD z=true
 |0,[],l,h=>by cases h;exact⟨rfl,rfl,by simp⟩
 |0,_::_,l,h=>by cases h
 |k+1,[],l,h=>by cases h
 |k+1,[_],l,h=>by cases h
 |k+1,[_,_],l,h=>by cases h
 |k+1,[_,_,_],l,h=>by cases h
 |k+1,a::b::c::d::r,l,h=>by
  unfold aH2 at h;split at h
  · rename_i z e l' h1 h2 h3
    cases hb:(Nat.beq e 1 && mD z)with
    |false=>rw[hb,cond_false]at h;cases h
    |true=>
     rw[hb,cond_true]at h
     cases h
     rw[Bool.and_eq_true]at hb
     have he:=Nat.eq_of_beq_eq_true hb.1;subst he;obtain⟨e1,e2⟩:=kB h1;obtain⟨e3,e4⟩:=kB h2;obtain⟨e5,e6,e7⟩:=pZ h3;refine⟨?_,by simp[e6],by simpa using⟨hb.2,e7⟩⟩;show _=dD (z:Rat)++qc (rz l');rw[← e5,yM,e1,e2,e3,e4];rfl
  · cases h
def bVb (l:List Int):List LV:=l.flatMap fun z=>wrI z++wrI 1
def aPa (l:List Int):LV:= .sl l.length (bVb l)
theorem aVv:∀ {l:List Int},(∀ z∈l,mD z=true)→bVb l=qc (rz l)
 |[],_=>rfl
 |z::l,h=>by
  have h1:=aSx (aB8 (h z (by simp)));rw[aH,Rat.num_intCast,Rat.den_intCast]at h1
  injection h1 with h1;have h2:=aVv (l:=l) (fun x hx=>h x (by simp[hx]));show(wrI z++wrI 1)++bVb l=dD (z:Rat)++qc (rz l);rw[h2,h1,yM];rfl
theorem wR {l:List Int}(h:∀ z∈l,mD z=true):aPa l=encF (rz l):=by
 rw[aPa,aVv h,bE,bX]
def aJk:List Int→List Int
 |[]=>[]
 |z::l=>bif Nat.beq z.natAbs 0 then aJk l else z::l
def bS (l:List Int):List Int:=(aJk l.reverse).reverse
theorem aPb:∀ l:List Int,rz (aJk l)=(rz l).dropWhile (· ==0)
 |[]=>rfl
 |z::l=>by
  unfold aJk
  cases hb:Nat.beq z.natAbs 0 with
  |true=>
   have:=Nat.eq_of_beq_eq_true hb;have hz:z=0:=by omega
   subst hz;rw[cond_true,aPb l]
   rfl
  |false=>
   have hz:(z:Rat)≠0:=fun e=>by
     have:z=0:=Rat.intCast_inj.1 (e.trans Rat.intCast_zero.symm);rw[this]at hb
     cases hb
   rw[cond_false];show _=List.dropWhile _ ((z:Rat)::rz l);rw[List.dropWhile_cons_of_neg (by simpa using hz)];rfl
theorem oQ (l:List Int):rz (bS l)=bQ (rz l):=by
 unfold bS bQ;rw[show(rz l).reverse=rz l.reverse by simp[rz],← aPb];simp[rz]
theorem aJl:∀ {l:List Int}{z:Int},z∈aJk l→z∈l
 |[],z,h=>h
 |x::l,z,h=>by
  unfold aJk at h
  cases hb:Nat.beq x.natAbs 0 with
  |true=>rw[hb,cond_true]at h;exact List.mem_cons_of_mem _ (aJl h)
  |false=>rw[hb,cond_false]at h;exact h
theorem rJ {l:List Int}{z:Int}(h:z∈bS l):z∈l:=by
 have:=List.mem_reverse.1 h;exact List.mem_reverse.1 (aJl this)
def aH3 (l:List Int):Bool:=l.all mD
def aGg (args:List LV):Option LV:=match args with
 |[.sl n cs]=>match aH2 n cs with
  |some f=>bif Nat.ble n 1000 then some (aPa (bS f))else none
  |none=>none
 |_=>none
theorem aGh {fid:FuncId}(hg:∀ f:List Rat,f.length≤1000→(∀ c∈f,lq c≤200)→PGd fid [encF f] (encF (bQ f))) {args:List LV}{r:LV}(h:aGg args=some r):PGd fid args r:=by
 unfold aGg at h;split at h
 ·rename_i n cs;split at h
  ·rename_i f hf;obtain⟨rfl,rfl,h3⟩:=pZ hf
   cases hb:Nat.ble f.length 1000 with
   |false=>rw[hb,cond_false]at h;cases h
   |true=>
    rw[hb,cond_true]at h
    cases h
    rw[Nat.ble_eq]at hb
    have:=hg (rz f) (by rw[bX];exact hb) (fun c hc=>by
      obtain⟨z,hz,rfl⟩:=List.mem_map.1 hc
      exact eM (iK (h3 z hz)))
    rw[wR (fun z hz=>h3 z (rJ hz)),oQ,← bX,← bE];exact this
  ·cases h
 ·cases h
def aVw (args:List LV):Option LV:=match args with
 |[.sl n cs,.sl k ds]=>match aH2 n cs,aH2 k ds with
  |some f,some g=>bif Nat.ble 1 k && Nat.ble k 1000 && Nat.ble n 1000 && (g.getD (k-1) 0==1) && (Nat.beq n 0 || !(f.getD (n-1) 0==0))then
      (bif Nat.blt n k then some (.tup [.sl 0 [],.sl n cs])else match aO9 g k (f.take (n+1-k)).reverse (f.drop (n+1-k)) []with
        |some (Q,R)=>bif aH3 Q && aH3 R then some (.tup [aPa (bS Q),aPa (bS R)])else none
        |none=>none)else none
  |_,_=>none
 |_=>none
theorem bEi {args:List LV}{r:LV}(h:aVw args=some r):PGd 286 args r:=by
 unfold aVw at h;split at h
 ·rename_i n cs k ds;split at h
  ·rename_i f g hf hg;obtain⟨rfl,rfl,f3⟩:=pZ hf;obtain⟨rfl,rfl,g3⟩:=pZ hg;generalize hcond:(Nat.ble 1 g.length && Nat.ble g.length 1000 && Nat.ble f.length 1000 && (g.getD (g.length-1) 0==1) && (Nat.beq f.length 0 || !(f.getD (f.length-1) 0==0)))=q at h
   cases q with
   |false=>rw[cond_false]at h;cases h
   |true=>
    rw[cond_true]at h
    simp only[Bool.and_eq_true,Bool.or_eq_true,Bool.not_eq_true',Nat.ble_eq,Nat.beq_eq,beq_iff_eq,beq_eq_false_iff_ne,ne_eq]at hcond;obtain⟨⟨⟨⟨c1,c2⟩,c3⟩,c4⟩,c5⟩:=hcond
    have tf:mQ (rz f):=fun c hc=>by
      obtain⟨z,hz,rfl⟩:=List.mem_map.1 hc;exact iK (f3 z hz)
    have tg:mQ (rz g):=fun c hc=>by
      obtain⟨z,hz,rfl⟩:=List.mem_map.1 hc;exact iK (g3 z hz)
    have getz:∀ (l:List Int) (i:Nat),(rz l).getD i 0=((l.getD i 0:Int):Rat):=by
      intro l i;simp only[rz,List.getD,List.getElem?_map]
      cases l[i]? <;>rfl
    have lf:tP (rz f):=by
      intro h0;rw[bX]at h0⊢
      rw[getz];intro e;have:=Rat.intCast_inj.1 (e.trans Rat.intCast_zero.symm);rcases c5 with c5 |c5
      · omega
      · exact c5 this
    have hgl:(rz g).getD ((rz g).length-1) 0=1:=by rw[bX,getz,c4];rfl
    cases hlt:Nat.blt f.length g.length with
    |true=>
     rw[hlt,cond_true]at h
     cases h
     have hlt:f.length<g.length:=Nat.le_of_ble_eq_true hlt;have:=aH1 (rz f) (rz g) lf tf (by rw[bX,bX];exact hlt) (by rw[bX];exact c2);rw[bE,bE,bX,bX]at this
     exact this
    |false=>
     rw[hlt,cond_false]at h
     have hlt:¬f.length<g.length:=fun e=>by
       have:Nat.blt f.length g.length=true:=Nat.ble_eq_true_of_le e;rw[this]at hlt
       cases hlt
     split at h
     · rename_i Q R hd
       cases hall:(aH3 Q && aH3 R)with
       |false=>rw[hall,cond_false]at h;cases h
       |true=>
        rw[hall,cond_true]at h
        cases h
        rw[Bool.and_eq_true]at hall
        have hQ:=List.all_eq_true.1 hall.1;have hR:=List.all_eq_true.1 hall.2;have hlo:(f.take (f.length+1-g.length)).reverse.length=f.length+1-g.length:=by rw[List.length_reverse,List.length_take];omega
        have hhi:(f.drop (f.length+1-g.length)).length=g.length-1:=by rw[List.length_drop];omega
        obtain⟨e1,e2,e3⟩:=aLp c1 hd (by omega) (by omega);rw[hlo]at e1 e2 e3
        rw[hhi]at e3
        rw[List.reverse_reverse,List.take_append_drop]at e1
        have hnil:List.replicate (f.length+1-g.length) none++(rz ([]:List Int)).map some=List.replicate (f.length+1-g.length) none:=by simp[rz]
        rw[hnil]at e1
        have:=aLo (rz f) (rz g) (rz Q) (rz R) (f.length+1-g.length) lf tf tg (by rw[bX];exact c1) (by rw[bX];exact c2) (by rw[bX];exact c3) (by rw[bX,bX];omega) (by omega)
          (by rw[hgl];decide+kernel) (by rw[hgl];exact e1) (by rw[bX,e2];simp;omega) (by rw[bX,e3];omega)
        rw[wR (fun z hz=>hQ z (rJ hz)),wR (fun z hz=>hR z (rJ hz)),oQ,oQ];rw[bE (rz f),bE (rz g),bX,bX]at this
        exact this
     · cases h
  ·cases h
 ·cases h
def cFx (f:FuncId) (args:List LV):Option LV:=bif Nat.beq f 286 then aVw args else bif Nat.beq f 219 then aGg args else bif Nat.beq f 275 then aGg args else cFs f args
theorem bLb:eV Tryz.prog cFx:=by
 intro f args r h;exact aR (f0:=286) (g:=aVw) (fun _ _ h=>bEi h) (aR (f0:=219) (g:=aGg) (fun _ _ h=>aGh (fun f h1 h2=>jQ f (by omega) (fun c hc=>by have:=h2 c hc;omega)) h) (aR (f0:=275) (g:=aGg) (fun _ _ h=>aGh (fun f h1 h2=>iJ f (by omega)) h) aVq)) f args r h
end
section
open Go Go.Lg Go.Num
def aAh (a:Rat):List Rat→List Rat→Nat→Option (List Rat)
 |[],o,_=>some o
 |b::g,o,i=>if b=0 then aAh a g o (i+1)else bif dS (a*b) && dS (o.getD i 0+a*b)then aAh a g (o.set i (o.getD i 0+a*b)) (i+1)else none
def aB9 (g:List Rat):List Rat→List Rat→Nat→Option (List Rat)
 |[],o,_=>some o
 |a::f,o,i=>if a=0 then aB9 g f o (i+1)else match aAh a g o i with
  |some o'=>aB9 g f o' (i+1)
  |none=>none
theorem aZh {a b:Rat}{g o r:List Rat}{i:Nat}(h:aAh a (b::g) o i=some r):(b=0∧aAh a g o (i+1)=some r)∨(b≠0∧dS (a*b)=true∧dS (o.getD i 0+a*b)=true∧aAh a g (o.set i (o.getD i 0+a*b)) (i+1)=some r):=by
 rw[aAh]at h
 split at h
 ·rename_i h0;exact .inl ⟨h0,h⟩
 ·rename_i h0
  cases ht:(dS (a*b) && dS (o.getD i 0+a*b))with
  |false=>rw[ht,cond_false]at h;cases h
  |true=>
   rw[ht,cond_true]at h
   rw[Bool.and_eq_true]at ht
   exact .inr ⟨h0,ht.1,ht.2,h⟩
theorem aZi {a:Rat}{g f o r:List Rat}{i:Nat}(h:aB9 g (a::f) o i=some r):(a=0∧aB9 g f o (i+1)=some r)∨(a≠0∧∃ o',aAh a g o i=some o'∧aB9 g f o' (i+1)=some r):=by
 rw[aB9]at h
 split at h
 ·rename_i h0;exact .inl ⟨h0,h⟩
 ·rename_i h0;split at h
  ·rename_i o' ho;exact .inr ⟨h0,o',ho,h⟩
  ·cases h
theorem bEj (a:Rat) (o:List Rat) (i:Nat):aAh a [] o i=some o:=rfl
theorem bEk (g o:List Rat) (i:Nat):aB9 g [] o i=some o:=rfl
attribute [local irreducible] lrun lwp exThen exBlk keep goodPost sg mg dS aAh aB9 oc gG
theorem aS2 (f g R:List Rat) (tf:mQ f) (tg:mQ g) (hf1:1≤f.length) (hg1:1≤g.length) (hf:f.length≤1000) (hg:g.length≤1000)
  (h:aB9 g f (List.replicate (f.length+g.length-1) 0) 0=some R) (hR:R.length≤10000):PGd 217 [encF f,encF g] (encF (bQ R)):=by
 have t1:=iJ R (by omega);have g0:=iG 0 (by omega);obtain⟨L,hL⟩:∃ L,f.length+g.length=L+1:=⟨f.length+g.length-1,by omega⟩;have hLz:((f.length:Int)+(g.length:Int)-1).toNat=L:=by omega
 have hLi:(f.length:Int)+(g.length:Int)-1=(L:Int):=by omega
 rw[show f.length+g.length-1=L by omega]at h
 have hz0:((0:Int):Rat)=0:=rfl;rw[hz0]at g0
 simp only[bE,aH,i64]at*;have hZl:(List.replicate L (0:Rat)).length=L:=List.length_replicate;generalize hZ:List.replicate L (0:Rat)=Z at*;have hZg:∀ k,Z.getD k 0=0:=fun k=>by rw[← hZ];simp[List.getD,List.getElem?_replicate];split <;>rfl
 have tZ:mQ Z:=fun q hq=>by rw[← hZ]at hq;rw[(List.mem_replicate.1 hq).2];decide+kernel
 refine aA aV Tryz.func217 rfl (by decide) (nt:=74) rfl (rs:=[.tmp 4]) rfl (aW rfl) ?_;refine tW (nd hLz hLi) ?_;refine aG (α:={k:Nat // k≤L}) (fun k=>st 74 (lk [(0,.sl f.length (qc f)),(1,.sl g.length (qc g)),(4,nilL),(5,.own 0 0 L 4),(27,i64 L),(28,i64 k.1)]) (cG [(0,⟨47,gG Z k.1,false⟩)]) 1) (fun k=>L-k.1) ⟨0,by omega⟩ ?_ ?_
 ·(refine Sub.heap1 15 ?_ (by simp only[aI,simprocAttr,bl,i64,smT,smO,hLz,hLi];exact rfl) ?_ ?_;all_goals(first |exact aE _ |with_reducible rfl |(simp only[aI,simprocAttr,bl,i64,smT,smO,hLz,hLi])|skip))
  ·rw[sU,hZl];first |rfl |exact(rH L).symm
  ·exact fA _ _
 ·rintro⟨k,hk⟩;simp only[st];by_cases hlt:k<L
  ·have hst:=sV (f:=Z) (k:=k) (by omega) (hZg k);have hfl:=wM (f:=Z) (k:=k) (by omega);generalize gG Z k=Fk at*;refine dP ?_;refine⟨⟨k+1,by omega⟩,?_,by simp only;omega⟩
   (refine Sub.heap1 0 ?_ (by simp only[aI,simprocAttr,bl,i64,smT];exact rfl) ?_ ?_;all_goals(first |exact aE _ |with_reducible rfl |(simp only[aI,simprocAttr,bl,i64,smT])|skip))
   ·exact hst
   ·exact fA _ _
  ·obtain rfl:k=L:=by omega
   have hfa:gG Z k=qc Z:=by rw[← hZl];exact wL Z
   rw[hfa];refine dP ?_;refine aG (α:={x:Nat×List Rat // x.1≤f.length∧x.2.length=k∧mQ x.2∧aB9 g (f.drop x.1) x.2 x.1=some R}) (fun x=>st 74 (lk [(0,.sl f.length (qc f)),(1,.sl g.length (qc g)),(4,nilL),(5,.own 0 0 k 4),(36,.sl f.length (qc f)),(37,i64 f.length),(38,i64 x.1.1)]) (cG [(0,⟨47,qc x.1.2,false⟩)]) 1) (fun x=>f.length-x.1.1) ⟨(0,Z),by simp,hZl,tZ,h⟩ ?_ ?_
   ·(refine Sub.heap1 0 ?_ (by simp only[aI,simprocAttr,bl,i64,smT];exact rfl) ?_ ?_;all_goals(first |exact aE _ |with_reducible rfl |(simp only[aI,simprocAttr,bl,i64,smT])|skip))
    all_goals(first |exact lE s9 s10 _ |done)
   ·rintro⟨⟨i,o⟩,hi,ho,to,hm⟩;simp only at hi ho to hm;simp only[st];by_cases hif:i<f.length
    ·rw[List.drop_eq_getElem_cons hif]at hm
     have hfi:f.getD i 0=f[i]:=by simp[hif]
     rw[← hfi]at hm
     have la:=lJ tf hif;have gz:=sW (f.getD i 0) (by omega);generalize ha:f.getD i 0=a at*;rw[aH]at gz
     rcases aZi hm with⟨a0,hm⟩ |⟨a0,o',hadd,hm⟩
     ·rw[nS a0]at gz
      simp only[i64,bl]at*;refine cZ ha ?_;refine⟨⟨(i+1,o),by simp only;omega,ho,to,hm⟩,?_,by simp only;omega⟩
      (refine Sub.heap1 0 ?_ (by simp only[aI,simprocAttr,bl,i64,smT];exact rfl) ?_ ?_;all_goals(first |exact aE _ |with_reducible rfl |(simp only[aI,simprocAttr,bl,i64,smT])|skip))
      all_goals(first |exact lE s9 s10 _ |done)
     ·rw[nT a0]at gz
      simp only[i64,bl]at*;refine cZ ha ?_;refine aG (α:={x:Nat×List Rat // x.1≤g.length∧x.2.length=k∧mQ x.2∧aAh a (g.drop x.1) x.2 (i+x.1)=some o'}) (fun x=>st 74 (lk [(0,.sl f.length (qc f)),(1,.sl g.length (qc g)),(4,nilL),(5,.own 0 0 k 4),(7,i64 i),(8,.ptr 1 0),(36,.sl f.length (qc f)),(37,i64 f.length),(38,i64 i),(45,.sl g.length (qc g)),(46,i64 g.length),(47,i64 x.1.1)]) (cG [(0,⟨47,qc x.1.2,false⟩),(1,⟨47,[sg (a).num,mg (a).num,sg ((a).den:Int),mg ((a).den:Int)],false⟩)]) 2) (fun x=>g.length-x.1.1) ⟨(0,o),by simp,ho,to,hadd⟩ ?_ ?_
      ·exact zL0 [0,5]
      ·rintro⟨⟨j,y⟩,hj,hy,ty,hsub⟩;simp only at hj hy ty hsub;simp only[st];by_cases hlt:j<g.length
       ·rw[List.drop_eq_getElem_cons hlt]at hsub
        have hgj:g.getD j 0=g[j]:=by simp[hlt]
        rw[← hgj]at hsub
        have lb:=lJ tg hlt;have gz:=sW (g.getD j 0) (by omega);have hkj:((i:Int)+(j:Int))=((i+j:Nat):Int):=by simp
        have hkb:i+j<y.length:=by omega
        rcases aZh hsub with⟨b0,hs2⟩ |⟨b0,u1,u2,u3⟩
        ·rw[nS b0]at gz
         generalize hb:g.getD j 0=b at*;rw[aH]at gz
         simp only[i64,bl]at*;refine cZ hb ?_;refine⟨⟨(j+1,y),by simp only;omega,by simp only;exact hy,ty,by simp only;exact hs2⟩,?_,by simp only;omega⟩;exact zL0 [0,1]
        ·rw[nT b0]at gz
         have ly:=lJ ty (i:=i+j) (by omega);have lm:=eM u1;have gm:=gS a (g.getD j 0) (by omega) (by omega);have gs:=kZ (y.getD (i+j) 0) (a*g.getD j 0) (by omega) (by omega);have hys:=aGf (l:=y) (j:=i+j) (by omega) (y.getD (i+j) 0+a*g.getD j 0);have hyl:(y.set (i+j) (y.getD (i+j) 0+a*g.getD j 0)).length=k:=by simp[hy]
         have tys:=aJj (i:=i+j) ty u2;generalize hv:y.getD (i+j) 0+a*g.getD j 0=v at*;generalize hmm:a*g.getD j 0=mm at*;generalize hb:g.getD j 0=b at*;generalize hx:y.getD (i+j) 0=x at*;simp only[aH]at gm gs gz;simp only[i64,bl]at*;refine cZ (nd hb (nd hx (nd hkj hys))) ?_;refine⟨⟨(j+1,y.set (i+j) v),by simp only;omega,by simp only;exact hyl,tys,by simp only;exact u3⟩,?_,by simp only;omega⟩;exact zL0 [0,1]
       ·obtain rfl:j=g.length:=by omega
        rw[List.drop_length,bEj]at hsub
        injection hsub with hsub;subst hsub;refine dP ?_;refine⟨⟨(i+1,y),by simp only;omega,hy,ty,hm⟩,?_,by simp only;omega⟩
        (refine Sub.heap1 0 ?_ (by simp only[aI,simprocAttr,bl,i64,smT];exact rfl) ?_ ?_;all_goals(first |exact aE _ |with_reducible rfl |(simp only[aI,simprocAttr,bl,i64,smT])|skip))
        all_goals(first |exact lE s9 s10 _ |done)
    ·obtain rfl:i=f.length:=by omega
     rw[List.drop_length,bEk]at hm
     injection hm with hm;subst hm;rw[ho]at t1
     refine dP ?_;exact lU
end
section
open Go Go.Lg Go.Num
theorem z4p:LV.agg [sg 0,mg 0,sg 0,mg 0]= .agg [.lit (.bool false),.sl 0 [],.lit (.bool false),.sl 0 []]:=by simp[sg,mg,bl,dg,dB,bD]
attribute [local irreducible] lrun lwp exThen exBlk keep goodPost sg mg dS oc gG
end
section
open Go Go.Lg Go.Num
def uO (c:Int):List Int→List Int→Nat→Option (List Int)
 |[],r,_=>some r
 |b::g,r,i=>bif mD (c*b) && mD (r.getD i 0-c*b)then uO c g (r.set i (r.getD i 0-c*b)) (i+1)else none
def aGi (g:List Int):Nat→List Int→List Int→Option (List Int×List Int)
 |0,q,r=>some (q,r)
 |k+1,q,r=>bif mD (r.getD (k+g.length-1) 0)then match uO (r.getD (k+g.length-1) 0) g r k with
  |some r'=>aGi g k (q.set k (r.getD (k+g.length-1) 0)) r'
  |none=>none else none
theorem aZj {g:List Int}{k:Nat}{q r:List Int}{x:List Int×List Int}(h:aGi g (k+1) q r=some x):mD (r.getD (k+g.length-1) 0)=true∧∃ r',uO (r.getD (k+g.length-1) 0) g r k=some r'∧aGi g k (q.set k (r.getD (k+g.length-1) 0)) r'=some x:=by
 rw[aGi]at h
 cases ht:mD (r.getD (k+g.length-1) 0)with
 |false=>rw[ht,cond_false]at h;cases h
 |true=>
  rw[ht,cond_true]at h
  refine⟨rfl,?_⟩;split at h
  · rename_i r' hr;exact⟨r',hr,h⟩
  · cases h
theorem aZk {c b:Int}{g r r':List Int}{i:Nat}(h:uO c (b::g) r i=some r'):mD (c*b)=true∧mD (r.getD i 0-c*b)=true∧uO c g (r.set i (r.getD i 0-c*b)) (i+1)=some r':=by
 rw[uO]at h
 cases ht:(mD (c*b) && mD (r.getD i 0-c*b))with
 |false=>rw[ht,cond_false]at h;cases h
 |true=>
  rw[ht,cond_true]at h
  rw[Bool.and_eq_true]at ht
  exact⟨ht.1,ht.2,h⟩
theorem aS3 {z:Int}(h:mD z=true): -4611686018427387904≤z∧z≤4611686018427387904:=by
 unfold mD at h;rw[Nat.ble_eq]at h
 omega
theorem bLc {l:List Int}(h:∀ z∈l,mD z=true) {i:Nat}{q:Int}(hq:mD q=true):∀ z∈l.set i q,mD z=true:=by
 intro x hx;rcases List.mem_or_eq_of_mem_set hx with h1 |rfl
 ·exact h x h1
 ·exact hq
attribute [local irreducible] lrun lwp exThen exBlk keep goodPost uO aGi ec mD
theorem aGj (f g Q R:List Int) (D:Nat) (of:∀ z∈f,mD z=true) (og:∀ z∈g,mD z=true) (hG:2≤g.length) (hg:g.length≤1000) (hf:f.length≤1000) (hD:f.length+1=D+g.length) (hD1:1≤D)
  (h:aGi g D (List.replicate D 0) f=some (Q,R)):PGd 162 [.sl f.length (ec f),.sl g.length (ec g)] (.tup [.sl D (ec Q),.sl (g.length-1) (ec (R.take (g.length-1)))]):=by
 have hDz:((f.length:Int)-(g.length:Int)+1).toNat=D:=by omega
 have hmx:(if(f.length:Int)-(g.length:Int)+1>0 then(f.length:Int)-(g.length:Int)+1 else 0)=(D:Int):=by rw[if_pos (by omega)];omega
 have hmn:(if(g.length:Int)-1<(f.length:Int)then(g.length:Int)-1 else(f.length:Int))=((g.length-1:Nat):Int):=by rw[if_pos (by omega)];omega
 refine aA aV Tryz.func162 rfl (by decide) (nt:=71) rfl (rs:=[.tmp 4,.tmp 5]) rfl (aW rfl) ?_
 (repeat(first|apply zO (by decide+kernel)|apply zP (by decide+kernel)|(apply zS;(case h=>constructor<;>decide))|((first|apply cB rfl|apply aS|apply zT rfl (by decide) rfl);(case hs=>(simp(disch:=first|omega|exact kD rfl|exact kX rfl) only[smY,simprocAttr,bl,i64,smE,hDz,hmx,hmn,rD];exact rfl));first|refine bZ ?_|refine cA ?_|refine zq ?_|(case hg=>assumption))))
 refine aG (α:={x:Nat×List Int×List Int // x.1≤D∧x.2.1.length=D∧x.2.2.length=f.length∧(∀ z∈x.2.2,mD z=true)∧aGi g x.1 x.2.1 x.2.2=some (Q,R)}) (fun x=>st 71 (lk [(0,.sl f.length (ec f)),(1,.sl g.length (ec g)),(6,.own 0 0 f.length 1),(7,.own 1 0 D 1),(8,i64 ((x.1.1:Int)-1))]) (cG [(0,⟨3,ec x.1.2.2,false⟩),(1,⟨3,ec x.1.2.1,false⟩)]) 2) (fun x=>x.1.1) ⟨(D,List.replicate D 0,f),Nat.le_refl _,by simp,rfl,of,h⟩ ?_ ?_
 ·(refine fY [4,13] ?_ ?_ ?_;all_goals(first|(simp only[aB,aI,simprocAttr,bl,i64,smE,hDz,hmx,hmn,rD];done) |(simp only[aI,simprocAttr,bl,i64,smE,hDz,hmx,hmn,rD];try((repeat' apply And.intro);all_goals rfl)) |skip))
  all_goals(first |done |((repeat' apply And.intro);all_goals(first |trivial |rfl)))
 ·rintro⟨⟨k,q,r⟩,hk,hq,hr,or,hd⟩;simp only at hk hq hr or hd;simp only[st];by_cases hk0:k=0
  ·subst hk0;have hd:some (q,r)=some (Q,R):=by rw[← hd,aGi]
   injection hd with hd;injection hd with hd1 hd2;subst hd1 hd2;refine jR hmn ?_
   ((first|apply dI|apply dK);case hres=>(simp only[gW];simp(disch:=first|omega|exact kD rfl|exact kX rfl) only[smY,simprocAttr,bl,i64,smE,hmn];exact rfl))
   simp(disch:=first|omega|exact kD rfl|exact kX rfl) only[smY,simprocAttr,bl,i64,smE,hmn];rw[List.take_of_length_le (by omega)]
  ·obtain⟨k,rfl⟩:∃ j,k=j+1:=⟨k-1,by omega⟩;obtain⟨oc',r',hs,hd⟩:=aZj hd;have hk1:((k+1:Nat):Int)-1=k:=by omega
   have hcb:=aS3 oc';generalize hc:r.getD (k+g.length-1) 0=c at*;have hql:(q.set k c).length=D:=by simp[hq]
   have hgs:(q.set k c).getD k 0=c:=by simp[show k<q.length by omega]
   refine jR (nd hc (nd hk1 hgs)) ?_;refine aG (α:={x:Nat×List Int // x.1≤g.length∧x.2.length=f.length∧(∀ z∈x.2,mD z=true)∧uO c (g.drop x.1) x.2 (k+x.1)=some r'}) (fun x=>st 71 (lk [(0,.sl f.length (ec f)),(1,.sl g.length (ec g)),(6,.own 0 0 f.length 1),(7,.own 1 0 D 1),(8,i64 k),(9,i64 x.1.1)]) (cG [(0,⟨3,ec x.1.2,false⟩),(1,⟨3,ec (q.set k c),false⟩)]) 2) (fun x=>g.length-x.1.1) ⟨(0,r),by simp,hr,or,hs⟩ ?_ ?_
   ·exact zL3 [0,1]
   ·rintro⟨⟨j,y⟩,hj,hy,oy,hsub⟩;simp only at hj hy oy hsub;simp only[st];by_cases hlt:j<g.length
    ·rw[List.drop_eq_getElem_cons hlt]at hsub
     obtain⟨u1,u2,u3⟩:=aZk hsub;have hgj:g.getD j 0=g[j]:=by simp[hlt]
     rw[← hgj]at u1 u2 u3
     have b1:=aS3 u1;have b2:=aS3 u2;have hyl:(y.set (k+j) (y.getD (k+j) 0-c*g.getD j 0)).length=f.length:=by simp[hy]
     have oys:=bLc (i:=k+j) oy u2;have hkj:((k:Int)+(j:Int))=((k+j:Nat):Int):=by simp
     have hkb:k+j<y.length:=by omega
     generalize hv:y.getD (k+j) 0-c*g.getD j 0=v at*;generalize hmm:c*g.getD j 0=mm at*;generalize hb:g.getD j 0=b at*;generalize hx:y.getD (k+j) 0=x at*;refine jR (nd hb (nd hx (nd hgs (nd hkj (nd hmm hv))))) ?_;refine⟨⟨(j+1,y.set (k+j) v),by simp only;omega,by simp only;exact hyl,oys,by simp only;exact u3⟩,?_,by simp only;omega⟩;exact zL3 [0,1]
    ·obtain rfl:j=g.length:=by omega
     rw[List.drop_length,uO]at hsub
     injection hsub with hsub;subst hsub;refine sA ?_;refine⟨⟨(k,q.set k c,y),by simp only;omega,by simp only;exact hql,hy,oy,hd⟩,?_,by simp only;omega⟩;exact zL3 [0,1]
end
end Go.Proofs.YtaidcaemdkncgaaGreatDoor
