/- Contracts of functions of the program, and what proves them (texts: B11). -/
import Derived.Test.YtaidcaemdkncgaaGreatDoorZSAF
set_option linter.all false
set_option maxRecDepth 100000
set_option maxHeartbeats 8000000
namespace Go.Proofs.YtaidcaemdkncgaaGreatDoor
open Go Go.Lg Go.Num
attribute [local irreducible] lrun lwp exThen exBlk keep goodPost mutPost
theorem aIu {x y:Nat}(lx:(aC x).length≤549755813888) (ly:(aC y).length≤549755813888):∃ ds,OkD ds∧val ds=x+y∧ds.length≤549755813889∧PGd 281 [dg (aC x),dg (aC y)] (dg ds):=by
 refine⟨aIs (aC x) (aC y),fL _ _,?_,by unfold aIs;rw[bO];omega,aX9 (aU x) (aU y) (by omega) (by omega)⟩;unfold aIs;rw[aJ,aJ];refine eG ?_;have h1:4294967296^(aC x).length≤4294967296^max (aC x).length (aC y).length:=Nat.pow_le_pow_right (by omega) (by omega);have h2:4294967296^(aC y).length≤4294967296^max (aC x).length (aC y).length:=Nat.pow_le_pow_right (by omega) (by omega);have h3:=bN x;have h4:=bN y;rw[Nat.pow_succ];omega
theorem aBn {x y:Nat}(h:y≤x) (lx:(aC x).length≤549755813888):∃ ds,OkD ds∧val ds=x-y∧ds.length≤549755813888∧PGd 283 [dg (aC x),dg (aC y)] (dg ds):=by
 have hl:=bM h;have:=aX8 (aU x) (aU y) hl (by rw[aJ,aJ];exact h) (by omega);rw[aJ,aJ]at this
 exact⟨_,fL _ _,eG (Nat.lt_of_le_of_lt (Nat.sub_le x y) (bN x)),by rw[bO];omega,this⟩
theorem aYe (x y:Int) (neg:Bool) (n:Nat) (hy:(if neg then -(n:Int)else n)=y) (hx:len x≤549755813888) (hn:(aC n).length≤549755813888):PGd 225 [aO x,bl neg,dg (aC n)] (aO (x+y)):=by
 unfold len at hx;simp only[aO,bl];refine aA aV Tryz.func225 rfl (by decide) (nt:=35) rfl (rs:=[.cell 6 45]) rfl (aW rfl) ?_;refine aM ?_;refine cQ (g:=(dG _ (by omega))) (k:= ?_);by_cases h1:decide (x<0)=neg
 ·obtain⟨ds,h2,h3,h4,hg⟩:=aIu hx hn;subst h1;have hb:(decide (x<0)==decide (x<0))=true:=beq_self_eq_true _;refine vZ ?_;refine cQ (g:=(kT (neg:=decide (x<0)) (z:=x+y) h2 (by rw[h3,← hy];by_cases h:x<0 <;>simp[h] <;>omega) (by omega))) (k:= ?_);simp only[aO];refine aM ?_;exact lV
 ·have hb:(decide (x<0)==neg)=false:=by simpa using h1
  refine tX hb ?_;refine cQ (g:=(zH (by omega) (by omega))) (k:= ?_);simp only[i64];by_cases h2:n≤x.natAbs
  ·obtain⟨ds,h3,h4,h5,hg⟩:=aBn h2 hx;have hc:¬xS x.natAbs n<0:=by unfold xS;rw[if_neg (by omega)];split <;>simp
   refine vZ ?_
   refine rY rfl (by decide) rfl (by simp(disch:=first|omega|exact kD rfl|exact kX rfl) only[smY,simprocAttr,bl,u32,u64,i64];exact rfl) (kT (neg:=decide (x<0)) (z:=x+y) h3 (by
    rw[h4,← hy]
    cases neg <;>by_cases h:x<0 <;>simp[h]at h1⊢ <;>omega) (by omega)) ?_
   simp only[aO];refine aM ?_;exact lV
  ·obtain⟨ds,h3,h4,h5,hg⟩:=aBn (x:=n) (y:=x.natAbs) (by omega) hn;have hc:xS x.natAbs n<0:=by unfold xS;rw[if_pos (by omega)];simp
   refine vZ ?_
   refine rY rfl (by decide) rfl (by simp(disch:=first|omega|exact kD rfl|exact kX rfl) only[smY,simprocAttr,bl,u32,u64,i64];exact rfl) (kT (neg:=neg) (z:=x+y) h3 (by
    rw[h4,← hy]
    cases neg <;>by_cases h:x<0 <;>simp[h]at h1⊢ <;>omega) (by omega)) ?_
   simp only[aO];refine aM ?_;exact lV
theorem aN5 (x y:Int) (hx:len x≤549755813888) (hy:len y≤549755813888):PGd 140 [aO x,aO y] (aO (x+y)):=by
 have hy':=hy;unfold len at hy';have hi:=aYe x y (decide (y<0)) y.natAbs (by by_cases h:y<0 <;>simp[h] <;>omega) hx hy;simp only[aO,bl]at hi⊢;refine aA aV Tryz.func140 rfl (by decide) (nt:=12) rfl (rs:=[.cell 4 45]) rfl (aW rfl) ?_;refine aM ?_;refine cQ (g:=(dG _ (by omega))) (k:= ?_);refine vZ ?_;exact lV
theorem bCt {x:Nat}(lx:(aC x).length≤549755813888):∃ ds,OkD ds∧val ds=x+1∧ds.length≤549755813889∧PGd 281 [dg (aC x),.sl 1 [.lit (.int .u32 1)]] (dg ds):=by
 have h1:aC 1=[1]:=eU (by omega) (by omega);obtain⟨ds,a,b,c,h⟩:=aIu (x:=x) (y:=1) lx (by rw[h1];simp);rw[h1]at h
 exact⟨ds,a,b,c,h⟩
theorem aN6 (x y:Int) (hy0:y≠0) (hx:len x≤274877906944) (hy:len y≤274877906944):PGd 285 [aO x,aO y] (.tup [aO (x / y),aO (x % y),i64 0]):=by
 unfold len at hx hy;have hyn:y.natAbs≠0:=by omega
 have hyl:(aC y.natAbs).length≠0:=fun e=>hyn (bR.1 (List.eq_nil_of_length_eq_zero e))
 simp only[aO,bl,i64];refine aA aV Tryz.func285 rfl (by decide) (nt:=48) rfl (rs:=[.cell 4 45,.cell 5 45,.tmp 6]) rfl (aW rfl) ?_;refine aM ?_;refine cQ (g:=(dG _ (by omega))) (k:= ?_);refine aM ?_;refine cQ (g:=(dG _ (by omega))) (k:= ?_);refine aM ?_;refine cQ (g:=(uK hyn (by omega) (by omega))) (k:= ?_);obtain⟨en1,en2,en3⟩:=aN4 (x:=x) hy0;have hlq:(aC (x.natAbs / y.natAbs)).length≤274877906944:=Nat.le_trans (bM (Nat.div_le_self _ _)) hx;have hlr:(aC (x.natAbs % y.natAbs)).length≤274877906944:=Nat.le_trans (bM (Nat.le_of_lt (Nat.mod_lt _ (Nat.pos_of_ne_zero hyn)))) hy;have hrlt:=Nat.mod_lt x.natAbs (Nat.pos_of_ne_zero hyn);by_cases h0:x<0∧x.natAbs % y.natAbs≠0
 ·obtain⟨h1,h2⟩:=h0;obtain⟨en4,en5⟩:=en3 h1 h2;have h3:(aC (x.natAbs % y.natAbs)).length≠0:=fun e=>h2 (bR.1 (List.eq_nil_of_length_eq_zero e))
  obtain⟨ds,p1,p2,p3,p4⟩:=bCt (x:=x.natAbs / y.natAbs) (by omega);obtain⟨es,q1,q2,q3,q4⟩:=aBn (x:=y.natAbs) (y:=x.natAbs % y.natAbs) (by omega) (by omega);refine vZ ?_;refine cQ (g:=(kT (z:=x / y) p1 (by rw[en4,p2];by_cases hy:y<0 <;>simp[h1,hy]) (by omega))) (k:= ?_);simp only[aO];refine aM ?_;refine cQ (g:=(kT (z:=x % y) q1 (by rw[en5,q2];simp) (by omega))) (k:= ?_);simp only[aO];refine aM ?_;exact lV
 ·have h9:¬(x<0∧¬x.natAbs % y.natAbs=0):=h0
  have hcase:x / y=(if(decide (x<0) !=decide (y<0))=true then -((x.natAbs / y.natAbs:Nat):Int)else((x.natAbs / y.natAbs:Nat):Int))∧x % y=((x.natAbs % y.natAbs:Nat):Int):=by
   by_cases h1:x<0
   ·exact en2 h1 (by omega)
   ·exact en1 (by omega)
  obtain⟨en4,en5⟩:=hcase;by_cases h1:x<0
  ·have h3:(aC (x.natAbs % y.natAbs)).length=0:=by
    have:x.natAbs % y.natAbs=0:=by omega
    rw[this,bD];rfl
   refine aM ?_;refine cQ (g:=(kS (z:=x / y) (by rw[en4];by_cases hy:y<0 <;>simp[h1,hy]) (by omega))) (k:= ?_);simp only[aO];refine aM ?_;refine cQ (g:=(kS (z:=x % y) (by rw[en5];simp) (by omega))) (k:= ?_);simp only[aO];refine aM ?_;exact lV
  ·skip
   refine aM ?_;refine cQ (g:=(kS (z:=x / y) (by rw[en4];by_cases hy:y<0 <;>simp[h1,hy]) (by omega))) (k:= ?_);simp only[aO];refine aM ?_;refine cQ (g:=(kS (z:=x % y) (by rw[en5];simp) (by omega))) (k:= ?_);simp only[aO];refine aM ?_;exact lV
theorem kU (x y:Int) (hy0:y≠0) (hd:x % y=0) (hx:len x≤274877906944) (hy:len y≤274877906944):PGd 229 [aO x,aO y] (.tup [aO (x / y),i64 0]):=by
 have hg:=aN6 x y hy0 hx hy;rw[hd]at hg
 have h0:(aC 0).length=0:=by simp[bD]
 simp only[aO,bl,i64,Int.natAbs_zero]at hg⊢;refine aA aV Tryz.func229 rfl (by decide) (nt:=26) rfl (rs:=[.cell 4 45,.tmp 5]) rfl (aW rfl) ?_;refine vZ ?_;exact lV
theorem aRy {x:Nat}(h:(aC x).length≤1099511627776):PGd 255 [dg (aC x)] (dg (aC x)):=nZ _ h
theorem aN7 (x y:Nat) (lx:(aC x).length≤549755813888) (ly:(aC y).length≤549755813888):PGd 284 [dg (aC x),dg (aC y)] (dg (aC (Nat.gcd x y))):=by
 refine aA aV Tryz.func284 rfl (by decide) (nt:=42) rfl (rs:=[.tmp 4]) rfl (aW rfl) ?_;refine aM ?_
 refine aG (α:={p:Nat×Nat // Nat.gcd p.1 p.2=Nat.gcd x y∧(aC p.1).length≤549755813888∧(aC p.2).length≤549755813888})
  (fun p=>st 42 (lk [(0,dg (aC p.1.1)),(1,dg (aC p.1.2))]) (cG []) 0) (fun p=>p.1.2) ⟨(x,y),rfl,lx,ly⟩ ?_ ?_
 ·exact zP0
 ·rintro⟨⟨a,b⟩,hg,la,lb⟩;simp only at hg la lb;simp only[st];by_cases hb:b=0
  ·subst hb;have h0:(aC 0).length=0:=by simp[bD]
   rw[Nat.gcd_zero_right]at hg
   refine aM ?_;refine cQ (g:=(aRy (by omega))) (k:= ?_);refine aM ?_;refine gZ ?_;refine iQ ?_;rw[hg]
  ·have hbl:(aC b).length≠0:=fun e=>hb (bR.1 (List.eq_nil_of_length_eq_zero e))
   have hmod:=Nat.mod_lt a (Nat.pos_of_ne_zero hb);by_cases hs:(aC a).length≤2∧(aC b).length≤2
   ·obtain⟨ha2,hb2⟩:=hs;have ba:=len_two ha2;have bb:=len_two hb2;refine aM ?_;refine cQ (g:=(wC ha2)) (k:= ?_);simp only[u64];refine aM ?_;refine cQ (g:=(wC hb2)) (k:= ?_);simp only[u64];refine aM ?_
    refine aG (α:={p:Nat×Nat // Nat.gcd p.1 p.2=Nat.gcd x y∧p.1<18446744073709551616∧p.2<18446744073709551616})
     (fun p=>st 42 (lk [(5,u64 p.1.1),(6,u64 p.1.2)]) (cG []) 0) (fun p=>p.1.2) ⟨(a,b),hg,ba,bb⟩ ?_ ?_
    ·exact zP0
    ·rintro⟨⟨c,d⟩,hg,lc,ld⟩;simp only at hg lc ld;simp only[st];by_cases hd:d=0
     ·subst hd;rw[Nat.gcd_zero_right]at hg
      refine aM ?_;refine cQ (g:=(kR c (by omega))) (k:= ?_);refine aM ?_;refine gZ ?_;refine iQ ?_;rw[hg]
     ·have hmd:=Nat.mod_lt c (Nat.pos_of_ne_zero hd);have hnn:=Int.natCast_nonneg (c % d);refine aM ?_;refine⟨⟨(d,c % d),by simp only;rw[← hg,Nat.gcd_comm,← Nat.gcd_rec,Nat.gcd_comm],ld,by simp only;omega⟩,?_,hmd⟩;exact zP0
   ·have hs':¬((aC a).length≤2∧(aC b).length≤2):=hs;by_cases ha2:(aC a).length≤2
    ·have hb2:¬(aC b).length≤2:=fun h=>hs' ⟨ha2,h⟩
     refine aM ?_;refine cQ (g:=(uK hb la lb)) (k:= ?_);refine aM ?_;refine⟨⟨(b,a % b),by simp only;rw[← hg,Nat.gcd_comm,← Nat.gcd_rec,Nat.gcd_comm],lb,by simp only;exact Nat.le_trans (bM (Nat.le_of_lt hmod)) lb⟩,?_,hmod⟩;exact zP0
    ·skip
     refine aM ?_;refine cQ (g:=(uK hb la lb)) (k:= ?_);refine aM ?_;refine⟨⟨(b,a % b),by simp only;rw[← hg,Nat.gcd_comm,← Nat.gcd_rec,Nat.gcd_comm],lb,by simp only;exact Nat.le_trans (bM (Nat.le_of_lt hmod)) lb⟩,?_,hmod⟩;exact zP0
theorem aN8 (x y:Int) (hx:len x≤549755813888) (hy:len y≤549755813888):PGd 228 [aO x,aO y] (aO (Int.gcd x y:Nat)):=by
 unfold len at hx hy
 have hl:(aC (Nat.gcd x.natAbs y.natAbs)).length≤1099511627776:=by
  by_cases h:x.natAbs=0
  ·rw[h,Nat.gcd_zero_left];omega
  ·have:=bM (Nat.le_of_dvd (Nat.pos_of_ne_zero h) (Nat.gcd_dvd_left x.natAbs y.natAbs));omega
 simp only[aO,bl];refine aA aV Tryz.func228 rfl (by decide) (nt:=13) rfl (rs:=[.cell 4 45]) rfl (aW rfl) ?_;refine aM ?_;refine cQ (g:=(dG _ (by omega))) (k:= ?_);refine aM ?_;refine cQ (g:=(dG _ (by omega))) (k:= ?_);refine aM ?_;refine cQ (g:=(aN7 _ _ (by omega) (by omega))) (k:= ?_);refine aM ?_;refine cQ (g:=(kS (neg:=false) (z:=(Int.gcd x y:Nat)) (by simp[Int.gcd]) hl)) (k:= ?_);simp only[aO];refine aM ?_;exact lV
end Go.Proofs.YtaidcaemdkncgaaGreatDoor
