/- Contracts of functions of the program, and what proves them (texts: C5 Num5 C6 C7 C8). -/
import Derived.Test.YtaidcaemdkncgaaGreatDoorZSAF
import Derived.Test.YtaidcaemdkncgaaGreatDoorZSAJ
set_option linter.all false
set_option maxRecDepth 100000
set_option maxHeartbeats 8000000
namespace Go.Proofs.YtaidcaemdkncgaaGreatDoor
open Go Go.Lg Go.Num
attribute [local irreducible] lrun lwp exThen exBlk keep goodPost
theorem uV (n:Nat) (h:n<18446744073709551616):PGd 289 [u64 n] (dg (aC n)):=by
 have h1:=lB (ds:=[n % 4294967296,n / 4294967296]) (OkD.cons (by omega) (OkD.cons (by omega) OkD.nil)) (by simp);rw[bJv h]at h1
 have hdg:dg [n % 4294967296,n / 4294967296]= .sl 2 [.lit (.int .u32 ((n % 4294967296:Nat):Int)),.lit (.int .u32 ((n / 4294967296:Nat):Int))]:=rfl;rw[hdg]at h1
 simp only[u64];refine aA aV Tryz.func289 rfl (by decide) (nt:=10) rfl (rs:=[.tmp 2]) rfl (aW rfl) ?_;have f1:(n:Int) % 4294967296=((n % 4294967296:Nat):Int):=by omega
 have f2:(n:Int) / 4294967296=((n / 4294967296:Nat):Int):=by omega
 refine aM ?_;simp only[aN,f1,f2];refine cQ (g:=h1) (k:= ?_);refine aM ?_;exact lV
theorem sN {a:List Nat}(ha:OkD a) (hl:a.length≤2):PGd 288 [dg a] (u64 (val a)):=by
 unfold u64;refine aA aV Tryz.func288 rfl (by decide) (nt:=21) rfl (rs:=[.tmp 2]) rfl (aW rfl) ?_;refine aM ?_;refine aG (α:={k:Nat // k≤a.length}) (fun k=>st 21 (lk [(0,dg a),(3,u64 (val (a.drop k.1))),(4,i64 ((k.1:Int)-1))]) (cG []) 0) (fun k=>k.1) ⟨a.length,Nat.le_refl _⟩ ?_ ?_
 ·(refine Sub.plain ?_;simp only[aI,simprocAttr,bl,u32,u64,i64])
  simp[val]
 ·rintro⟨k,hk⟩;simp only[st,u64,i64];rcases k with _ |k
  ·refine aM ?_;exact lV
  ·have hx:=ha.getD k;have hd:=gP a k
   have hlt:val (a.drop (k+1))<4294967296:=by
    have:=jJ (ha.drop (k+1));have h1:(a.drop (k+1)).length≤1:=by rw[List.length_drop];omega
    have h2:4294967296^(a.drop (k+1)).length≤4294967296^1:=Nat.pow_le_pow_right (by omega) h1;omega
   generalize val (a.drop (k+1))=v at*;refine aM ?_;refine⟨⟨k,by omega⟩,?_,Nat.lt_succ_self k⟩
   (refine Sub.plain ?_;simp only[aI,simprocAttr,bl,u32,u64,i64])
   simp only[true_and,LV.lit.injEq,Value.int.injEq];omega
theorem aSd {x:Nat}(h:0<x):aK (x / 2)+1=aK x:=by
 rcases Nat.lt_or_ge x 2 with h2 |h2
 ·obtain rfl:x=1:=by omega
  decide
 ·have h0:x / 2≠0:=by omega
  have h1:=uM h0;have h3:=jF (x / 2);have hp:0<aK (x / 2):=by unfold aK;rw[if_neg h0];omega
  refine(uL (n:=x) (k:=aK (x / 2)) ?_ ?_).symm
  ·obtain⟨m,hm⟩:∃ m,aK (x / 2)=m+1:=⟨aK (x / 2)-1,by omega⟩;rw[hm,Nat.add_sub_cancel]at h1
   rw[hm,Nat.pow_succ];omega
  ·rw[Nat.pow_succ];omega
theorem aFv (b:Bool) (n:Nat) (hl:(aC n).length≤1099511627776):PGd 329 [.agg [bl b,dg (aC n)]] (i64 (aK n)):=by
 unfold bl i64;have h1:=yD hl;by_cases h0:n=0
 ·subst h0;simp only[bD]at h1⊢;refine aA aV Tryz.func329 rfl (by decide) (nt:=29) rfl (rs:=[.tmp 2]) rfl (aW rfl) ?_;refine vZ ?_;refine gZ ?_;refine iQ ?_;rfl
 have hlen:0<(aC n).length:=by rw[List.length_pos_iff,Ne,bR];exact h0
 have htop:=(aU n).getD ((aC n).length-1);have hnz:=aBh h0
 have hnb:aK n=32*((aC n).length-1)+aK ((aC n).getD ((aC n).length-1) 0):=by
  have hp:0<aK ((aC n).getD ((aC n).length-1) 0):=by unfold aK;rw[if_neg hnz];omega
  have:=aIt (k:=aK ((aC n).getD ((aC n).length-1) 0)-1) h0 rfl (uM hnz) (by rw[Nat.sub_add_cancel hp];exact jF _);omega
 generalize hT:(aC n).getD ((aC n).length-1) 0=T at*
 have hTb:aK T≤32:=by
  have:=sI (show T≤4294967295 by omega);have e:aK 4294967295=32:=by decide
  omega
 have hil:(((aC n).length:Int)-1)=(((aC n).length-1:Nat):Int):=by omega
 refine aA aV Tryz.func329 rfl (by decide) (nt:=29) rfl (rs:=[.tmp 2]) rfl (aW rfl) ?_;refine vZ ?_;refine aG (α:={p:Nat×Nat // p.1+aK p.2=aK n∧p.2<4294967296∧p.1≤aK n}) (fun p=>st 29 (lk [(4,i64 p.1.1),(5,u32 p.1.2)]) (cG []) 0) (fun p=>p.1.2) ⟨(32*((aC n).length-1),T),hnb.symm,htop,by simp only;omega⟩ ?_ ?_
 ·(refine Sub.plain ?_;simp only[aI,simprocAttr,bl,u32,u64,i64])
  rw[hT];simp only[and_true,LV.lit.injEq,Value.int.injEq,true_and];omega
 ·rintro⟨⟨m,x⟩,hm,hx,hm2⟩;simp only at hm hx hm2;simp only[st,i64,u32];have hnl:=jM n;by_cases h0:0<x
  ·have hh:=aSd h0;refine aM ?_;refine⟨⟨(m+1,x / 2),by simp only;omega,by simp only;omega,by simp only;omega⟩,?_,by simp only;omega⟩
   (refine Sub.plain ?_;simp only[aI,simprocAttr,bl,u32,u64,i64])
   simp only[true_and,LV.lit.injEq,Value.int.injEq];omega
  ·obtain rfl:x=0:=by omega
   have e0:aK 0=0:=rfl;refine aM ?_;refine gZ ?_;refine iQ ?_;rw[← hm,e0];rfl
theorem aYq {n:Nat}:4294967296^(n / 32)*2^(n % 32)=2^n:=by
 rw[aCz,← Nat.pow_add];congr 1;omega
theorem lM (l:List Nat) (c:Nat):(l++[c]).take (l.length+1)=l++[c]:=List.take_of_length_le (by simp)
theorem aSe (n:Nat):2^(n % 32)≤2147483648:=by
 have:2^(n % 32)≤2^31:=Nat.pow_le_pow_right (by omega) (by omega);omega
set_option maxHeartbeats 1000000 in
theorem xI {a:List Nat}(ha:OkD a) (n:Nat) (la:a.length≤274877906944) (hn:n≤17592186044416):PGd 330 [dg a,i64 n] (dg (aC (val a*2^n))):=by
 unfold i64;refine aA aV Tryz.func330 rfl (by decide) (nt:=42) rfl (rs:=[.tmp 4]) rfl (aW rfl) ?_;refine aM ?_
 refine aG (α:={p:Nat×List Nat×Nat // p.1≤a.length∧p.2.1.length=n / 32+p.1∧OkD p.2.1∧p.2.2<2^(n % 32)∧val p.2.1+4294967296^(n / 32+p.1)*p.2.2=val (a.take p.1)*2^n})
  (fun p=>st 42 (lk [(0,dg a),(1,i64 n),(5,.own 0 0 (n / 32+p.1.1) 1),(6,u64 p.1.2.2),(7,i64 p.1.1)]) (cG [(0,⟨185,dB p.1.2.1,false⟩)]) 1) (fun p=>a.length-p.1.1) ⟨(0,List.replicate (n / 32) 0,0),by simp,by simp,OkD.replicate _,Nat.pow_pos (by omega),by simp[gM,val]⟩ ?_ ?_
 ·(refine Sub.heap1 3 ?_ (by simp only[aI,simprocAttr,bl,u32,u64,i64];exact rfl) ?_ ?_;all_goals(first |exact aE _ |with_reducible rfl |(simp only[aI,simprocAttr,bl,u32,u64,i64])|skip))
  ·rw[show(((n:Nat):Int) / 32).toNat=n / 32 by omega];exact⟨trivial,trivial,rfl⟩
  ·rw[show(((n:Nat):Int) / 32).toNat=n / 32 by omega];simp[dB]
 ·rintro⟨⟨i,l,c⟩,hi,hlen,hok,hc,he⟩;simp only at hi hlen hok hc he;simp only[st];have hx:=ha.getD i;have hp:=aSe n;have hc':c<4294967296:=by omega
  have hcast:(((n:Int) % 32))=((n % 32:Nat):Int):=by omega
  by_cases h1:i<a.length
  ·have hxp:a.getD i 0*2^(n % 32)≤4294967295*2147483648:=Nat.mul_le_mul (by omega) hp
   have ew:IntKind.u64.wrap (IntKind.u64.wrap (((a.getD i 0:Nat):Int)*2^((n:Int) % 32).toNat)+(c:Int))=((a.getD i 0*2^(n % 32)+c:Nat):Int):=by
    rw[show((n:Int) % 32).toNat=n % 32 by omega];have:(((a.getD i 0:Nat):Int)*2^(n % 32))=((a.getD i 0*2^(n % 32):Nat):Int):=by simp
    rw[this,dT,dT];generalize a.getD i 0*2^(n % 32)=t at*;omega
   refine aM ?_;refine⟨⟨(i+1,l++[(a.getD i 0*2^(n % 32)+c) % 4294967296],(a.getD i 0*2^(n % 32)+c) / 4294967296),by simp only;omega,by simp[hlen];omega,hok.append (OkD.cons (by omega) OkD.nil),?_,?_⟩,?_,by simp only;omega⟩
   ·simp only
    have h2:a.getD i 0*2^(n % 32)+c<4294967296*2^(n % 32):=by
     have:a.getD i 0*2^(n % 32)+2^(n % 32)≤4294967296*2^(n % 32):=by
      rw[← Nat.succ_mul];exact Nat.mul_le_mul_right _ hx
     omega
    exact Nat.div_lt_of_lt_mul h2
   ·simp only;rw[dM,hlen,aD,← Nat.add_assoc,Nat.pow_succ,Nat.add_mul,← he]
    have e:4294967296^i*a.getD i 0*2^n=4294967296^(n / 32+i)*(a.getD i 0*2^(n % 32)):=by
     rw[← aYq,Nat.pow_add];simp only[Nat.mul_comm,Nat.mul_left_comm,Nat.mul_assoc]
    rw[e];have h3:=Nat.mod_add_div (a.getD i 0*2^(n % 32)+c) 4294967296;generalize a.getD i 0*2^(n % 32)=t at*;generalize (t+c) / 4294967296=hi at*;generalize (t+c) % 4294967296=lo at*;generalize 4294967296^(n / 32+i)=q at*;rw[Nat.mul_assoc q,Nat.add_assoc,← Nat.mul_add,h3,Nat.mul_add];omega
   ·simp only[]
    (refine Sub.heap1 21 ?_ (by simp only[aI,simprocAttr,bl,u32,u64,i64];exact rfl) ?_ ?_;all_goals(first |exact aE _ |with_reducible rfl |(simp only[aI,simprocAttr,bl,u32,u64,i64])|skip))
    ·rw[ew];exact⟨trivial,trivial,by rw[Nat.add_assoc],rfl⟩
    ·rw[ew,aN,List.take_of_length_le (by omega),jG];rfl
  ·obtain rfl:i=a.length:=by omega
   rw[List.take_of_length_le (Nat.le_refl _)]at he
   have hfin:val (l++[c])=val a*2^n:=by rw[dM,hlen];exact he
   have htr:=lB (hok.append (OkD.cons hc' OkD.nil)) (by simp[hlen];omega);rw[hfin]at htr
   refine aM ?_;rw[List.take_of_length_le (by omega),← jG];rw[show n / 32+a.length=l.length by omega];refine rY rfl (by decide) rfl (by simp(disch:=first|omega|exact kD rfl|exact kX rfl) only[smY,simprocAttr,bl,u32,u64,i64,lM,List.length_append,List.length_singleton];exact rfl) htr ?_
   (repeat(first|apply zO (by decide+kernel)|apply zP (by decide+kernel)|(apply zS;(case h=>constructor<;>decide))|((first|apply cB rfl|apply aS);(case hs=>(simp(disch:=first|omega|exact kD rfl|exact kX rfl) only[smY,simprocAttr,bl,u32,u64,i64,lM,List.length_append,List.length_singleton];exact rfl));first|refine bZ ?_|refine cA ?_|refine zq ?_)))
   ((first|apply dI|apply dK);case hres=>(simp only[gW];simp(disch:=first|omega|exact kD rfl|exact kX rfl) only[smY,simprocAttr,bl,u32,u64,i64,lM,List.length_append,List.length_singleton];exact rfl))
   simp(disch:=first|omega|exact kD rfl|exact kX rfl) only[smY,simprocAttr,bl,u32,u64,i64,lM,List.length_append,List.length_singleton]
end Go.Proofs.YtaidcaemdkncgaaGreatDoor
namespace Go.Num
theorem aSf {q:List Nat}{j:Nat}(h:j<q.length):val q=val (q.take j)+4294967296^j*(q.getD j 0+4294967296*val (q.drop (j+1))):=by
 rw[jL q j (by omega),← gP]
theorem bKl {q:List Nat}{j d:Nat}(h:j<q.length):val (q.set j d)=val (q.take j)+4294967296^j*(d+4294967296*val (q.drop (j+1))):=by
 have h2:j<(q.set j d).length:=by simpa using h
 rw[aSf h2];have e1:(q.set j d).take j=q.take j:=by rw[List.take_set_of_le (Nat.le_refl _)]
 have e2:(q.set j d).getD j 0=d:=by simp[List.getD,h]
 have e3:(q.set j d).drop (j+1)=q.drop (j+1):=by rw[List.drop_set_of_lt (by omega)]
 rw[e1,e2,e3]
theorem aU4 {q:List Nat}(ho:OkD q) {k m:Nat}(hk:k / 32<q.length) (hv:val q=2^(k+1)*m):
  q.getD (k / 32) 0+2^(k % 32)<4294967296∧val (q.set (k / 32) (q.getD (k / 32) 0+2^(k % 32)))=val q+2^k:=by
 have hp:2^k=4294967296^(k / 32)*2^(k % 32):=by
  rw[aCz,← Nat.pow_add];congr 1;omega
 constructor
 ·have h1:=aSf hk
  have hlow:val (q.take (k / 32))<4294967296^(k / 32):=by
   have:=jJ (ho.take (k / 32))
   rwa [List.length_take,Nat.min_eq_left (by omega)]at this
  have hd:=ho.getD (k / 32);rw[hv,Nat.pow_succ,hp]at h1
  generalize hq:q.getD (k / 32) 0=d at*;generalize val (q.drop (k / 32+1))=R at*;generalize val (q.take (k / 32))=L at*;have hpos:0<4294967296^(k / 32):=Nat.pow_pos (by omega);generalize 4294967296^(k / 32)=P at*
  have hL:L=0:=by
   have h2:L=P*(2^(k % 32)*2*m)-P*(d+4294967296*R):=by
    rw[Nat.mul_assoc P,Nat.mul_assoc P]at h1;omega
   rw[← Nat.mul_sub]at h2
   rcases Nat.eq_zero_or_pos (2^(k % 32)*2*m-(d+4294967296*R))with h |h
   ·rw[h2,h,Nat.mul_zero]
   ·have:=Nat.le_mul_of_pos_right P h;omega
  subst hL;rw[Nat.zero_add,Nat.mul_assoc P,Nat.mul_assoc P]at h1
  have h3:=Nat.eq_of_mul_eq_mul_left hpos h1
  obtain⟨t,ht⟩:∃ t,4294967296=2^(k % 32)*2*t:=⟨2^(31-k % 32),by
   rw[← Nat.pow_succ,← Nat.pow_add,show k % 32+1+(31-k % 32)=32 by omega]⟩
  have hs:0<2^(k % 32):=Nat.pow_pos (by omega);generalize 2^(k % 32)=s at*
  have h4:d=s*2*(m-t*R):=by
   have h5:4294967296*R=s*2*(t*R):=by rw[← Nat.mul_assoc,← ht]
   rw[Nat.mul_sub,← h5];omega
  generalize m-t*R=u at*;subst h4
  have h6:u<t:=by
   rw[ht]at hd
   exact Nat.lt_of_mul_lt_mul_left hd
  have h7:s*2*(u+1)≤s*2*t:=Nat.mul_le_mul_left _ h6;rw[Nat.mul_add,← ht]at h7
  omega
 ·rw[bKl hk,aSf hk,hp];generalize 4294967296^(k / 32)=P;generalize 2^(k % 32)=s;rw[Nat.mul_add,Nat.mul_add,Nat.mul_add];omega
theorem aOk {x y k:Nat}:(y*2^k≤x % (y*2^(k+1))→0<y→x / (y*2^k)=2*(x / (y*2^(k+1)))+1∧x % (y*2^k)=x % (y*2^(k+1))-y*2^k)∧
  (¬y*2^k≤x % (y*2^(k+1))→0<y→x / (y*2^k)=2*(x / (y*2^(k+1)))∧x % (y*2^k)=x % (y*2^(k+1))):=by
 have hT:y*2^(k+1)=2*(y*2^k):=by rw[Nat.pow_succ];simp only[Nat.mul_comm,Nat.mul_left_comm]
 rw[hT];have hpos:0<y→0<y*2^k:=fun h=>Nat.mul_pos h (Nat.pow_pos (by omega))
 generalize y*2^k=T at*;have h1:=Nat.mod_add_div x (2*T)
 have h0:∀ r q:Nat,0<T→r<T→x=r+T*q→x / T=q∧x % T=r:=fun r q hp hr hx=>by
  subst hx;rw[Nat.add_mul_div_left _ _ hp,Nat.add_mul_mod_self_left,Nat.div_eq_of_lt hr,Nat.mod_eq_of_lt hr,Nat.zero_add];exact⟨rfl,rfl⟩
 refine⟨fun h hy=> ?_,fun h hy=> ?_⟩
 ·have hp:=hpos hy;have hlt:=Nat.mod_lt x (show 0<2*T by omega);generalize x % (2*T)=r at*;generalize x / (2*T)=q at*;refine h0 (r-T) (2*q+1) hp (by omega) ?_;rw[Nat.mul_add,← Nat.mul_assoc,Nat.mul_comm T 2,← h1];omega
 ·have hp:=hpos hy;generalize x % (2*T)=r at*;generalize x / (2*T)=q at*;refine h0 r (2*q) hp (by omega) ?_;rw[← Nat.mul_assoc,Nat.mul_comm T 2,← h1]
end Go.Num
namespace Go.Proofs.YtaidcaemdkncgaaGreatDoor
section
open Go Go.Lg Go.Num
attribute [local irreducible] lrun lwp exThen exBlk keep goodPost
def dQ (x y:Nat):List Nat:=if(aC x).length≤2∧(aC y).length≤2 then aC (x / y)else if aK x<aK y then[]else jD ((aK x-aK y) / 32+1) (x / y)
theorem aSg {x y:Nat}(hy:0<y) (h:aK y≤aK x):x<y*2^(aK x-aK y+1):=by
 have h1:=jF x;have h2:=uM (show y≠0 by omega);have h3:0<aK y:=by unfold aK;rw[if_neg (by omega)];omega
 have h4:2^(aK y-1)*2^(aK x-aK y+1)≤y*2^(aK x-aK y+1):=Nat.mul_le_mul_right _ h2;rw[← Nat.pow_add,show aK y-1+(aK x-aK y+1)=aK x by omega]at h4
 omega
theorem bDk {x y:Nat}(h:x<y):x / y=0:=Nat.div_eq_of_lt h
theorem aK6 {x y:Nat}(hy:0<y) (h:aK y≤aK x):x / y<4294967296^((aK x-aK y) / 32+1):=by
 have h1:=aSg hy h;have h2:x / y<2^(aK x-aK y+1):=Nat.div_lt_of_lt_mul h1;rw[aCz];have h3:2^(aK x-aK y+1)≤2^(32*((aK x-aK y) / 32+1)):=Nat.pow_le_pow_right (by omega) (by omega);omega
theorem cD0 (x y:Nat):OkD (dQ x y):=by
 unfold dQ;split
 ·exact aU _
 ·split
  ·exact OkD.nil
  ·exact fL _ _
theorem bUl {x y:Nat}(hy:0<y):val (dQ x y)=x / y:=by
 unfold dQ;split
 ·exact aJ _
 ·split
  ·rename_i h
   have:x<y:=by
    rcases Nat.lt_or_ge x y with h2 |h2
    ·exact h2
    ·have:=sI h2;omega
   rw[bDk this];rfl
  ·exact eG (aK6 hy (by omega))
theorem bUm {x y:Nat}:(dQ x y).length≤(aC x).length+1:=by
 unfold dQ;split
 ·have:=bM (Nat.div_le_self x y);omega
 ·split
  ·simp
  ·rw[bO];have:=jM x;omega
set_option maxHeartbeats 2000000 in
theorem aHv (x y:Nat) (hy:0<y) (lx:(aC x).length≤137438953472) (ly:(aC y).length≤137438953472):PGd 309 [dg (aC x),dg (aC y)] (.tup [dg (dQ x y),dg (aC (x % y))]):=by
 have hox:=aU x;have hoy:=aU y;unfold dQ;by_cases h2:(aC x).length≤2∧(aC y).length≤2
 ·rw[if_pos h2];obtain⟨h2,h3⟩:=h2;have w1:=sN hox h2;have w2:=sN hoy h3;rw[aJ]at w1 w2
  have hxl:x<18446744073709551616:=by
   have:=bN x;have h4:4294967296^(aC x).length≤4294967296^2:=Nat.pow_le_pow_right (by omega) h2;omega
  have hyl:y<18446744073709551616:=by
   have:=bN y;have h4:4294967296^(aC y).length≤4294967296^2:=Nat.pow_le_pow_right (by omega) h3;omega
  have hq:x / y≤x:=Nat.div_le_self x y;have hr:x % y<y:=Nat.mod_lt _ hy;have s1:=uV (x / y) (by omega);have s2:=uV (x % y) (by omega);have hq1:x / y<18446744073709551616:=by omega
  have hq0:=Int.natCast_nonneg (x / y);have hy0:¬(y:Int)=0:=by omega
  simp only[u64]at w1 w2 s1 s2;refine aA aV Tryz.func309 rfl (by decide) (nt:=78) rfl (rs:=[.tmp 4,.tmp 5]) rfl (aW rfl) ?_;refine aM ?_;refine cQ (g:=w1) (k:= ?_);refine aM ?_;refine cQ (g:=w2) (k:= ?_);refine aM ?_;refine cQ (g:=s1) (k:= ?_);refine aM ?_;refine cQ (g:=w1) (k:= ?_);refine aM ?_;refine cQ (g:=w2) (k:= ?_);refine aM ?_;refine cQ (g:=s2) (k:= ?_);refine aM ?_;exact lV
 rw[if_neg h2];have hb1:=aFv false x (by omega);have hb2:=aFv false y (by omega);have nl1:=jM x;have nl2:=jM y;simp only[bl,i64]at hb1 hb2;by_cases h3:(aC x).length≤2
 ·have h4:¬(aC y).length≤2:=fun h=>h2 ⟨h3,h⟩
  refine aA aV Tryz.func309 rfl (by decide) (nt:=78) rfl (rs:=[.tmp 4,.tmp 5]) rfl (aW rfl) ?_;refine aM ?_;refine cQ (g:=hb1) (k:= ?_);refine aM ?_;refine cQ (g:=hb2) (k:= ?_);by_cases hs:aK x<aK y
  ·have hxy:x<y:=by
    rcases Nat.lt_or_ge x y with h2 |h2
    ·exact h2
    ·have:=sI h2;omega
   rw[if_pos hs,Nat.mod_eq_of_lt hxy];refine aM ?_;refine gZ ?_;refine iQ ?_;rfl
  rw[if_neg hs];obtain⟨d,hd⟩:∃ d,aK x=aK y+d:=⟨aK x-aK y,by omega⟩;have hqp:=aK6 hy (x:=x) (by omega);have hql:=aSg hy (x:=x) (by omega);rw[hd,Nat.add_sub_cancel_left]at hqp hql
  rw[hd,Nat.add_sub_cancel_left];have hdi:((aK y:Nat):Int)+(d:Int)-((aK y:Nat):Int)=(d:Int):=by omega
  refine aM ?_
  refine aG (α:={p:Nat×List Nat // p.1≤d+1∧p.2.length=d / 32+1∧OkD p.2∧val p.2=2^p.1*(x / (y*2^p.1))})
   (fun p=>st 78 (lk [(0,dg (aC x)),(1,dg (aC y)),(4,nilL),(5,nilL),(6,dg (aC (x % (y*2^p.1.1)))),(8,.own 0 0 (d / 32+1) 1),(9,i64 ((p.1.1:Int)-1))]) (cG [(0,⟨185,dB p.1.2,false⟩)]) 1) (fun p=>p.1.1)
   ⟨(d+1,List.replicate (d / 32+1) 0),by simp,by simp,OkD.replicate _,by simp only;rw[gM,Nat.div_eq_of_lt hql,Nat.mul_zero]⟩ ?_ ?_
  ·simp only[Nat.mod_eq_of_lt hql]
   (refine Sub.heap1 25 ?_ (by simp only[aI,simprocAttr,bl,u32,u64,i64];exact rfl) ?_ ?_;all_goals(first |exact aE _ |with_reducible rfl |(simp only[aI,simprocAttr,bl,u32,u64,i64])|skip))
   ·rw[hdi,show((d:Int) / 32+1).toNat=d / 32+1 by omega];simp only[true_and,and_true,LV.lit.injEq,Value.int.injEq];omega
   ·rw[hdi,show((d:Int) / 32+1).toNat=d / 32+1 by omega];simp[dB]
  ·rintro⟨⟨K,q⟩,hK,hq,hoq,hv⟩;simp only at hK hq hoq hv;simp only[st];rcases K with _ |k
   ·rw[Nat.pow_zero,Nat.one_mul,Nat.mul_one]at hv
    have hpad:=gX hoq hq hv;simp only[Nat.pow_zero,Nat.mul_one];refine aM ?_;refine gZ ?_;refine iQ ?_;rw[← hpad,List.take_of_length_le (by omega),← hq]
   ·have hk1:((k+1:Nat):Int)-1=(k:Int):=by omega
    have hsh:=xI hoy k (by omega) (by omega);rw[aJ]at hsh
    have hRx:x % (y*2^(k+1))≤x:=Nat.mod_le _ _;have hRl:=bM hRx
    have hTl:(aC (y*2^k)).length≤1099511627776:=by
     have h5:=sG y (2^k)
     have h6:(aC (2^k)).length≤k+1:=bV (by
      rw[aCz];exact Nat.pow_lt_pow_right (by omega) (by omega))
     have h7:=aBl (2^k);have h8:aK (2^k)=k+1:=uL (Nat.le_refl _) (by rw[Nat.pow_succ];have:=Nat.pow_pos (n:=k) (show 0<2 by omega);omega);omega
    have aCt:=aOk (x:=x) (y:=y) (k:=k);have hset:=aU4 hoq (k:=k) (by rw[hq];omega) hv;have hxq:=hoq.getD (k / 32);have hp:=aSe k;generalize hT:y*2^k=T at*;generalize hR:x % (y*2^(k+1))=R at*;have hbl:=uU (aU R) (aU T) (by rw[aJ]) (by rw[aJ]) (by omega) hTl;rw[aJ,aJ]at hbl
    simp only[i64,hk1]at hsh⊢;refine tX hk1 ?_;refine aHq hk1 (g:=hsh) (k:= ?_);refine tX hk1 ?_;simp only[bl]at hbl;by_cases hge:T≤R
    ·rw[decide_eq_false (by omega)]at hbl
     have hmi:=pT (aU R) (aU T) (by omega) (bM hge) (by rw[aJ,aJ];exact hge);rw[aJ,aJ]at hmi
     have htr:=lB (fL (aC R).length (R-T)) (by rw[bO];omega);rw[eG aD0]at htr
     obtain⟨e1,e2⟩:=aCt.1 hge hy;refine aHq hk1 (g:=hbl) (k:= ?_);refine tX hk1 ?_;refine aHq hk1 (g:=hmi) (k:= ?_);refine tX hk1 ?_;refine aHq hk1 (g:=htr) (k:= ?_);refine tX hk1 ?_;refine⟨⟨(k,q.set (k / 32) (q.getD (k / 32) 0+2^(k % 32))),by simp only;omega,by simp[hq],hoq.set hset.1,?_⟩,?_,Nat.lt_succ_self k⟩
     ·simp only;rw[hset.2,hv,hT,e1,Nat.pow_succ,Nat.mul_add,Nat.mul_one,Nat.mul_assoc]
     ·simp only[hT,e2]
      (refine Sub.heap1 0 ?_ (by simp only[aI,simprocAttr,bl,u32,u64,i64,hk1];exact rfl) ?_ ?_;all_goals(first |exact aE _ |with_reducible rfl |(simp only[aI,simprocAttr,bl,u32,u64,i64,hk1])|skip))
      ·have ep:IntKind.u32.wrap (1*2^(k % 32))=((2^(k % 32):Nat):Int):=by
        have:(1:Int)*2^(k % 32)=((2^(k % 32):Nat):Int):=by simp
        rw[this,aN];generalize 2^(k % 32)=p at*;omega
       rw[show((k:Int) / 32).toNat=k / 32 by omega,show((k:Int) % 32).toNat=k % 32 by omega,ep];have hs1:=hset.1;generalize 2^(k % 32)=p at*;rw[show((((q.getD (k / 32) 0:Nat):Int)+(p:Int)) % 4294967296).toNat=q.getD (k / 32) 0+p by omega]
    ·rw[decide_eq_true (by omega)]at hbl
     obtain⟨e1,e2⟩:=aCt.2 hge hy;refine aHq hk1 (g:=hbl) (k:= ?_);refine tX hk1 ?_;refine⟨⟨(k,q),by simp only;omega,hq,hoq,?_⟩,?_,Nat.lt_succ_self k⟩
     ·simp only;rw[hT,e1,hv,Nat.pow_succ,Nat.mul_assoc]
     ·simp only[hT,e2]
      (refine Sub.heap1 0 ?_ (by simp only[aI,simprocAttr,bl,u32,u64,i64,hk1];exact rfl) ?_ ?_;all_goals(first |exact aE _ |with_reducible rfl |(simp only[aI,simprocAttr,bl,u32,u64,i64,hk1])|skip))
 ·
  refine aA aV Tryz.func309 rfl (by decide) (nt:=78) rfl (rs:=[.tmp 4,.tmp 5]) rfl (aW rfl) ?_;refine aM ?_;refine cQ (g:=hb1) (k:= ?_);refine aM ?_;refine cQ (g:=hb2) (k:= ?_);by_cases hs:aK x<aK y
  ·have hxy:x<y:=by
    rcases Nat.lt_or_ge x y with h2 |h2
    ·exact h2
    ·have:=sI h2;omega
   rw[if_pos hs,Nat.mod_eq_of_lt hxy];refine aM ?_;refine gZ ?_;refine iQ ?_;rfl
  rw[if_neg hs];obtain⟨d,hd⟩:∃ d,aK x=aK y+d:=⟨aK x-aK y,by omega⟩;have hqp:=aK6 hy (x:=x) (by omega);have hql:=aSg hy (x:=x) (by omega);rw[hd,Nat.add_sub_cancel_left]at hqp hql
  rw[hd,Nat.add_sub_cancel_left];have hdi:((aK y:Nat):Int)+(d:Int)-((aK y:Nat):Int)=(d:Int):=by omega
  refine aM ?_
  refine aG (α:={p:Nat×List Nat // p.1≤d+1∧p.2.length=d / 32+1∧OkD p.2∧val p.2=2^p.1*(x / (y*2^p.1))})
   (fun p=>st 78 (lk [(0,dg (aC x)),(1,dg (aC y)),(4,nilL),(5,nilL),(6,dg (aC (x % (y*2^p.1.1)))),(8,.own 0 0 (d / 32+1) 1),(9,i64 ((p.1.1:Int)-1))]) (cG [(0,⟨185,dB p.1.2,false⟩)]) 1) (fun p=>p.1.1)
   ⟨(d+1,List.replicate (d / 32+1) 0),by simp,by simp,OkD.replicate _,by simp only;rw[gM,Nat.div_eq_of_lt hql,Nat.mul_zero]⟩ ?_ ?_
  ·simp only[Nat.mod_eq_of_lt hql]
   (refine Sub.heap1 25 ?_ (by simp only[aI,simprocAttr,bl,u32,u64,i64];exact rfl) ?_ ?_;all_goals(first |exact aE _ |with_reducible rfl |(simp only[aI,simprocAttr,bl,u32,u64,i64])|skip))
   ·rw[hdi,show((d:Int) / 32+1).toNat=d / 32+1 by omega];simp only[true_and,and_true,LV.lit.injEq,Value.int.injEq];omega
   ·rw[hdi,show((d:Int) / 32+1).toNat=d / 32+1 by omega];simp[dB]
  ·rintro⟨⟨K,q⟩,hK,hq,hoq,hv⟩;simp only at hK hq hoq hv;simp only[st];rcases K with _ |k
   ·rw[Nat.pow_zero,Nat.one_mul,Nat.mul_one]at hv
    have hpad:=gX hoq hq hv;simp only[Nat.pow_zero,Nat.mul_one];refine aM ?_;refine gZ ?_;refine iQ ?_;rw[← hpad,List.take_of_length_le (by omega),← hq]
   ·have hk1:((k+1:Nat):Int)-1=(k:Int):=by omega
    have hsh:=xI hoy k (by omega) (by omega);rw[aJ]at hsh
    have hRx:x % (y*2^(k+1))≤x:=Nat.mod_le _ _;have hRl:=bM hRx
    have hTl:(aC (y*2^k)).length≤1099511627776:=by
     have h5:=sG y (2^k)
     have h6:(aC (2^k)).length≤k+1:=bV (by
      rw[aCz];exact Nat.pow_lt_pow_right (by omega) (by omega))
     have h7:=aBl (2^k);have h8:aK (2^k)=k+1:=uL (Nat.le_refl _) (by rw[Nat.pow_succ];have:=Nat.pow_pos (n:=k) (show 0<2 by omega);omega);omega
    have aCt:=aOk (x:=x) (y:=y) (k:=k);have hset:=aU4 hoq (k:=k) (by rw[hq];omega) hv;have hxq:=hoq.getD (k / 32);have hp:=aSe k;generalize hT:y*2^k=T at*;generalize hR:x % (y*2^(k+1))=R at*;have hbl:=uU (aU R) (aU T) (by rw[aJ]) (by rw[aJ]) (by omega) hTl;rw[aJ,aJ]at hbl
    simp only[i64,hk1]at hsh⊢;refine tX hk1 ?_;refine aHq hk1 (g:=hsh) (k:= ?_);refine tX hk1 ?_;simp only[bl]at hbl;by_cases hge:T≤R
    ·rw[decide_eq_false (by omega)]at hbl
     have hmi:=pT (aU R) (aU T) (by omega) (bM hge) (by rw[aJ,aJ];exact hge);rw[aJ,aJ]at hmi
     have htr:=lB (fL (aC R).length (R-T)) (by rw[bO];omega);rw[eG aD0]at htr
     obtain⟨e1,e2⟩:=aCt.1 hge hy;refine aHq hk1 (g:=hbl) (k:= ?_);refine tX hk1 ?_;refine aHq hk1 (g:=hmi) (k:= ?_);refine tX hk1 ?_;refine aHq hk1 (g:=htr) (k:= ?_);refine tX hk1 ?_;refine⟨⟨(k,q.set (k / 32) (q.getD (k / 32) 0+2^(k % 32))),by simp only;omega,by simp[hq],hoq.set hset.1,?_⟩,?_,Nat.lt_succ_self k⟩
     ·simp only;rw[hset.2,hv,hT,e1,Nat.pow_succ,Nat.mul_add,Nat.mul_one,Nat.mul_assoc]
     ·simp only[hT,e2]
      (refine Sub.heap1 0 ?_ (by simp only[aI,simprocAttr,bl,u32,u64,i64,hk1];exact rfl) ?_ ?_;all_goals(first |exact aE _ |with_reducible rfl |(simp only[aI,simprocAttr,bl,u32,u64,i64,hk1])|skip))
      ·have ep:IntKind.u32.wrap (1*2^(k % 32))=((2^(k % 32):Nat):Int):=by
        have:(1:Int)*2^(k % 32)=((2^(k % 32):Nat):Int):=by simp
        rw[this,aN];generalize 2^(k % 32)=p at*;omega
       rw[show((k:Int) / 32).toNat=k / 32 by omega,show((k:Int) % 32).toNat=k % 32 by omega,ep];have hs1:=hset.1;generalize 2^(k % 32)=p at*;rw[show((((q.getD (k / 32) 0:Nat):Int)+(p:Int)) % 4294967296).toNat=q.getD (k / 32) 0+p by omega]
    ·rw[decide_eq_true (by omega)]at hbl
     obtain⟨e1,e2⟩:=aCt.2 hge hy;refine aHq hk1 (g:=hbl) (k:= ?_);refine tX hk1 ?_;refine⟨⟨(k,q),by simp only;omega,hq,hoq,?_⟩,?_,Nat.lt_succ_self k⟩
     ·simp only;rw[hT,e1,hv,Nat.pow_succ,Nat.mul_assoc]
     ·simp only[hT,e2]
      (refine Sub.heap1 0 ?_ (by simp only[aI,simprocAttr,bl,u32,u64,i64,hk1];exact rfl) ?_ ?_;all_goals(first |exact aE _ |with_reducible rfl |(simp only[aI,simprocAttr,bl,u32,u64,i64,hk1])|skip))
end
section
open Go Go.Lg Go.Num
attribute [local irreducible] lrun lwp exThen exBlk keep goodPost
set_option maxHeartbeats 2000000 in
theorem mY (x y:Int) (hy:y≠0) (lx:len x≤137438953472) (ly:len y≤137438953472):PGd 290 [aO x,aO y] (.tup [aO (x / y),aO (x % y)]):=by
 have hn1:=fG x (by omega);have hn2:=fG y (by omega);have habs:=aBr y (by omega)
 have hlr:len ((x.natAbs % y.natAbs:Nat):Int)≤137438953472:=by
  have h1:=Nat.mod_lt x.natAbs (Int.natAbs_pos.2 hy);exact Nat.le_trans (wD (by rw[Int.natAbs_natCast];omega)) ly
 have hsub:=aYp (y.natAbs:Int) ((x.natAbs % y.natAbs:Nat):Int) (by unfold len at ly⊢;rw[Int.natAbs_natCast];omega) (by omega);unfold len at lx ly hlr;rw[Int.natAbs_natCast]at hlr
 have hyp:=Int.natAbs_pos.2 hy;have hd:=aHv x.natAbs y.natAbs hyp lx ly;have hrs:=eJ (neg:=false) (aU (x.natAbs % y.natAbs)) (by omega);rw[aJ,if_neg (by decide)]at hrs
 have hQo:=cD0 x.natAbs y.natAbs;have hQv:=bUl (x:=x.natAbs) hyp;have hQl:=bUm (x:=x.natAbs) (y:=y.natAbs);have hqs:=eJ (neg:=(decide (x<0) !=decide (y<0))) hQo (by omega);have hpl:=aFu hQo (b:=[1]) (OkD.cons (by omega) OkD.nil) (by omega) (by simp)
 have hpv:val (jD (max (dQ x.natAbs y.natAbs).length [1].length+1) (val (dQ x.natAbs y.natAbs)+val [1]))=val (dQ x.natAbs y.natAbs)+1:=by
  refine eG ?_;have h1:=jJ hQo;have h2:4294967296^(dQ x.natAbs y.natAbs).length≤4294967296^(max (dQ x.natAbs y.natAbs).length [1].length):=Nat.pow_le_pow_right (by omega) (by omega);rw[Nat.pow_succ];simp only[val]at*;omega
 have hps:=eJ (neg:= !decide (y<0)) (fL (max (dQ x.natAbs y.natAbs).length [1].length+1) (val (dQ x.natAbs y.natAbs)+val [1])) (by rw[bO];simp;omega);generalize jD (max (dQ x.natAbs y.natAbs).length [1].length+1) (val (dQ x.natAbs y.natAbs)+val [1])=S at*;rw[hpv,hQv]at hps
 rw[hQv]at hqs
 generalize dQ x.natAbs y.natAbs=D at*;have hdg1:dg [1]= .sl 1 [.lit (.int .u32 1)]:=rfl;rw[hdg1]at hpl
 have ed:=aN4 (x:=x) hy;have hmn:((x.natAbs % y.natAbs:Nat):Int).natAbs=x.natAbs % y.natAbs:=rfl
 have hpos:(0<(aC (x.natAbs % y.natAbs)).length)↔x.natAbs % y.natAbs≠0:=by
  rw[List.length_pos_iff,Ne,bR]
 have hcall:=hd;by_cases hx:x<0∧x.natAbs % y.natAbs≠0
 ·obtain⟨hx,h0⟩:=hx;obtain⟨e1,e2⟩:=ed.2.2 hx h0;have hp1:=hpos.2 h0;rw[show(y.natAbs:Int)-((x.natAbs % y.natAbs:Nat):Int)=x % y by rw[e2];have:=Nat.mod_lt x.natAbs hyp;omega]at hsub
  have e3:(if(!decide (y<0))=true then -((x.natAbs / y.natAbs+1:Nat):Int)else((x.natAbs / y.natAbs+1:Nat):Int))=x / y:=by
   rw[e1];by_cases hy0:y<0 <;>simp[hx,hy0]
  rw[e3]at hps
  clear ed e1 e2 e3 hqs hpos;simp only[aO,bl,hmn,Int.natAbs_natCast]at hn1 hn2 habs hsub hrs hps⊢;refine aA aV Tryz.func290 rfl (by decide) (nt:=52) rfl (rs:=[.cell 4 45,.cell 5 45]) rfl (aW rfl) ?_;refine aM ?_;refine cQ (g:=hn1) (k:= ?_);refine aM ?_;refine cQ (g:=hn2) (k:= ?_);refine aM ?_;refine cQ (g:=hd) (k:= ?_);refine aM ?_;refine cQ (g:=hrs) (k:= ?_);refine aM ?_;refine cQ (g:=hpl) (k:= ?_);refine aM ?_;refine cQ (g:=hps) (k:= ?_);refine aM ?_;refine cQ (g:=habs) (k:= ?_);refine aM ?_;refine cQ (g:=hsub) (k:= ?_);refine aM ?_;exact lV
 ·have hE:x / y=(if(decide (x<0) !=decide (y<0))=true then -((x.natAbs / y.natAbs:Nat):Int)else((x.natAbs / y.natAbs:Nat):Int))∧x % y=((x.natAbs % y.natAbs:Nat):Int):=by
   by_cases h1:x<0
   ·exact ed.2.1 h1 (Decidable.byContradiction fun h=>hx ⟨h1,h⟩)
   ·exact ed.1 (by omega)
  obtain⟨e1,e2⟩:=hE;rw[← e1]at hqs
  have hx':¬(x<0∧0<(aC (x.natAbs % y.natAbs)).length):=fun⟨h1,h2⟩=>hx ⟨h1,hpos.1 h2⟩
  rw[e2];clear ed e1 e2 hpos hps hsub habs;simp only[aO,bl,hmn,Int.natAbs_natCast]at hn1 hn2 hrs hqs⊢;generalize hx0:decide (x<0)=n1 at*;generalize decide (y<0)=n2 at*
  cases n1 with
  |true=>
   have h2:¬0<(aC (x.natAbs % y.natAbs)).length:=fun h=>hx' ⟨of_decide_eq_true hx0,h⟩
   cases n2 with
   |true=>
    simp only[bne_self_eq_false]at hqs;refine aA aV Tryz.func290 rfl (by decide) (nt:=52) rfl (rs:=[.cell 4 45,.cell 5 45]) rfl (aW rfl) ?_;refine aM ?_;refine cQ (g:=hn1) (k:= ?_);refine aM ?_;refine cQ (g:=hn2) (k:= ?_);refine aM ?_;refine cQ (g:=hd) (k:= ?_);refine aM ?_;refine cQ (g:=hrs) (k:= ?_);refine aM ?_;refine cQ (g:=hqs) (k:= ?_);refine aM ?_
    exact lV
   |false=>
    simp only[Bool.true_bne,Bool.not_false]at hqs;refine aA aV Tryz.func290 rfl (by decide) (nt:=52) rfl (rs:=[.cell 4 45,.cell 5 45]) rfl (aW rfl) ?_;refine aM ?_;refine cQ (g:=hn1) (k:= ?_);refine aM ?_;refine cQ (g:=hn2) (k:= ?_);refine aM ?_;refine cQ (g:=hd) (k:= ?_);refine aM ?_;refine cQ (g:=hrs) (k:= ?_);refine aM ?_;refine cQ (g:=hqs) (k:= ?_);refine aM ?_
    exact lV
  |false=>
   cases n2 with
   |true=>
    simp only[Bool.false_bne]at hqs;refine aA aV Tryz.func290 rfl (by decide) (nt:=52) rfl (rs:=[.cell 4 45,.cell 5 45]) rfl (aW rfl) ?_;refine aM ?_;refine cQ (g:=hn1) (k:= ?_);refine aM ?_;refine cQ (g:=hn2) (k:= ?_);refine aM ?_;refine cQ (g:=hd) (k:= ?_);refine aM ?_;refine cQ (g:=hrs) (k:= ?_);refine aM ?_;refine cQ (g:=hqs) (k:= ?_);refine aM ?_
    exact lV
   |false=>
    simp only[bne_self_eq_false]at hqs;refine aA aV Tryz.func290 rfl (by decide) (nt:=52) rfl (rs:=[.cell 4 45,.cell 5 45]) rfl (aW rfl) ?_;refine aM ?_;refine cQ (g:=hn1) (k:= ?_);refine aM ?_;refine cQ (g:=hn2) (k:= ?_);refine aM ?_;refine cQ (g:=hd) (k:= ?_);refine aM ?_;refine cQ (g:=hrs) (k:= ?_);refine aM ?_;refine cQ (g:=hqs) (k:= ?_);refine aM ?_;exact lV
end
section
open Go Go.Lg Go.Num
attribute [local irreducible] lrun lwp exThen exBlk keep goodPost
theorem wF (x y:Int) (hy:y≠0) (lx:len x≤137438953472) (ly:len y≤137438953472):PGd 243 [aO x,aO y] (aO (x / y)):=by
 have h1:=mY x y hy lx ly;generalize hq:x / y=q at*;generalize hr:x % y=r at*;simp only[aO,bl]at h1⊢;refine aA aV Tryz.func243 rfl (by decide) (nt:=14) rfl (rs:=[.cell 4 45]) rfl (aW rfl) ?_;refine vZ ?_;exact lV
def qL (z:Nat):List LV:=[bl false,dg (aC z)]
set_option maxHeartbeats 2000000 in
theorem aYr (x y:Int) (lx:len x≤137438953472) (ly:len y≤137438953472):PGd 240 [aO x,aO y] (aO ((Int.gcd x y:Nat):Int)):=by
 have h1:=aBr x (by omega);have h2:=aBr y (by omega);unfold len at lx ly;rw[dF]at h1 h2⊢
 have hG:Int.gcd x y=Nat.gcd x.natAbs y.natAbs:=rfl;rw[hG];generalize x.natAbs=a at*;generalize y.natAbs=b at*;by_cases hs:(aC a).length≤2∧(aC b).length≤2
 ·obtain⟨ha2,hb2⟩:=hs;have w1:=sN (aU a) ha2;have w2:=sN (aU b) hb2;rw[aJ]at w1 w2
  have hp2:∀ n,(aC n).length≤2→n<18446744073709551616:=fun n h=>by
   have:=bN n;have h4:4294967296^(aC n).length≤4294967296^2:=Nat.pow_le_pow_right (by omega) h;omega
  have hal:=hp2 a ha2;have hbl:=hp2 b hb2;simp only[kW,aO,bl,u64]at h1 h2 w1 w2⊢;refine aA aV Tryz.func240 rfl (by decide) (nt:=53) rfl (rs:=[.cell 4 45]) rfl (aW rfl) ?_;refine vZ ?_;refine aG (α:={p:Nat×Nat // Nat.gcd p.1 p.2=Nat.gcd a b∧p.1<18446744073709551616∧p.2<18446744073709551616}) (fun p=>st 53 (lk [(4,.ptr 0 0),(7,u64 p.1.1),(8,u64 p.1.2)]) (cG [(0,⟨45,[bl false,.lit (.slice none 0 0)],false⟩)]) 1) (fun p=>p.1.2) ⟨(a,b),rfl,hal,hbl⟩ ?_ ?_
  ·(refine Sub.heap1 2 ?_ (by simp only[aI,simprocAttr,bl,u32,u64,i64];exact rfl) ?_ ?_;all_goals(first |exact aE _ |with_reducible rfl |(simp only[aI,simprocAttr,bl,u32,u64,i64])|skip))
   all_goals simp[aB]
  ·rintro⟨⟨m,n⟩,hg,hm,hn⟩;simp only at hg hm hn;simp only[st,u64,bl];by_cases hn0:0<n
   ·have hmod:m % n<n:=Nat.mod_lt _ hn0;have hmod0:=Int.natCast_nonneg (m % n);have hmod1:m % n<18446744073709551616:=by omega
    have hn00:¬(n:Int)=0:=by omega
    refine aM ?_;refine⟨⟨(n,m % n),?_,hn,hmod1⟩,?_,hmod⟩
    ·simp only;rw[← hg,Nat.gcd_comm m n,Nat.gcd_rec n m,Nat.gcd_comm]
    ·(refine Sub.heap1 0 ?_ (by simp only[aI,simprocAttr,bl,u32,u64,i64];exact rfl) ?_ ?_;all_goals(first |exact aE _ |with_reducible rfl |(simp only[aI,simprocAttr,bl,u32,u64,i64])|skip))
     all_goals simp[aB]
   ·obtain rfl:n=0:=by omega
    rw[Nat.gcd_zero_right]at hg
    rw[← hg];have hsp:=uV m hm;have hml:(aC m).length≤2:=bV (k:=2) (by omega);have hsg:=eJ (neg:=false) (aU m) (by omega);rw[aJ,if_neg (by decide),dF]at hsg
    simp only[kW,bl,u64]at hsp hsg;refine vZ ?_;exact lV
 ·simp only[kW,bl]at h1 h2⊢;by_cases ha2:(aC a).length≤2
  ·have hb2:¬(aC b).length≤2:=fun h=>hs ⟨ha2,h⟩
   refine aA aV Tryz.func240 rfl (by decide) (nt:=53) rfl (rs:=[.cell 4 45]) rfl (aW rfl) ?_;refine vZ ?_;refine aG (α:={p:Nat×Nat // Nat.gcd p.1 p.2=Nat.gcd a b∧(aC p.1).length≤137438953472∧(aC p.2).length≤137438953472}) (fun p=>st 53 (lk [(4,.ptr 0 0),(5,.ptr 1 0),(6,.ptr 2 0)]) (cG [(0,⟨45,[bl false,.lit (.slice none 0 0)],false⟩),(1,⟨45,qL p.1.1,false⟩),(2,⟨45,qL p.1.2,false⟩)]) 3) (fun p=>p.1.2) ⟨(a,b),rfl,lx,ly⟩ ?_ ?_
   ·(refine fY [2,7,8] ?_ ?_ ?_;all_goals(first|(simp only[aB,aI,simprocAttr,bl,u32,u64,i64];done) |(simp only[aI,simprocAttr,bl,u32,u64,i64];try((repeat' apply And.intro);all_goals rfl)) |skip))
    all_goals(simp[qL,bl,renL,dg,aB];try rfl)
   ·rintro⟨⟨m,n⟩,hg,hm,hn⟩;simp only at hg hm hn;simp only[st,bl,qL];by_cases hn0:n=0
    ·subst hn0;rw[Nat.gcd_zero_right]at hg
     rw[← hg];have hz:(aC 0).length=0:=by simp[bD]
     refine aM ?_;exact lV
    ·have hnl:0<(aC n).length:=List.length_pos_iff.2 (fun e=>hn0 (bR.1 e));have he:=mY (m:Int) (n:Int) (by omega) (by unfold len;rw[Int.natAbs_natCast];exact hm) (by unfold len;rw[Int.natAbs_natCast];exact hn);rw[← Int.natCast_ediv,← Int.natCast_emod,dF,dF,dF,dF]at he
     simp only[kW,bl]at he;have hmod:m % n<n:=Nat.mod_lt _ (by omega);have hml:(aC (m % n)).length≤137438953472:=Nat.le_trans (bM (by omega)) hn;refine vZ ?_;refine⟨⟨(n,m % n),?_,hn,hml⟩,?_,hmod⟩
     ·simp only;rw[← hg,Nat.gcd_comm m n,Nat.gcd_rec n m,Nat.gcd_comm]
     ·(refine fY [0,1,2] ?_ ?_ ?_;all_goals(first|(simp only[aB,aI,simprocAttr,bl,u32,u64,i64];done) |(simp only[aI,simprocAttr,bl,u32,u64,i64];try((repeat' apply And.intro);all_goals rfl)) |skip))
      all_goals(simp[qL,bl,renL,dg,aB];try rfl)
  ·refine aA aV Tryz.func240 rfl (by decide) (nt:=53) rfl (rs:=[.cell 4 45]) rfl (aW rfl) ?_;refine vZ ?_;refine aG (α:={p:Nat×Nat // Nat.gcd p.1 p.2=Nat.gcd a b∧(aC p.1).length≤137438953472∧(aC p.2).length≤137438953472}) (fun p=>st 53 (lk [(4,.ptr 0 0),(5,.ptr 1 0),(6,.ptr 2 0)]) (cG [(0,⟨45,[bl false,.lit (.slice none 0 0)],false⟩),(1,⟨45,qL p.1.1,false⟩),(2,⟨45,qL p.1.2,false⟩)]) 3) (fun p=>p.1.2) ⟨(a,b),rfl,lx,ly⟩ ?_ ?_
   ·(refine fY [2,7,8] ?_ ?_ ?_;all_goals(first|(simp only[aB,aI,simprocAttr,bl,u32,u64,i64];done) |(simp only[aI,simprocAttr,bl,u32,u64,i64];try((repeat' apply And.intro);all_goals rfl)) |skip))
    all_goals(simp[qL,bl,renL,dg,aB];try rfl)
   ·rintro⟨⟨m,n⟩,hg,hm,hn⟩;simp only at hg hm hn;simp only[st,bl,qL];by_cases hn0:n=0
    ·subst hn0;rw[Nat.gcd_zero_right]at hg
     rw[← hg];have hz:(aC 0).length=0:=by simp[bD]
     refine aM ?_;exact lV
    ·have hnl:0<(aC n).length:=List.length_pos_iff.2 (fun e=>hn0 (bR.1 e));have he:=mY (m:Int) (n:Int) (by omega) (by unfold len;rw[Int.natAbs_natCast];exact hm) (by unfold len;rw[Int.natAbs_natCast];exact hn);rw[← Int.natCast_ediv,← Int.natCast_emod,dF,dF,dF,dF]at he
     simp only[kW,bl]at he;have hmod:m % n<n:=Nat.mod_lt _ (by omega);have hml:(aC (m % n)).length≤137438953472:=Nat.le_trans (bM (by omega)) hn;refine vZ ?_;refine⟨⟨(n,m % n),?_,hn,hml⟩,?_,hmod⟩
     ·simp only;rw[← hg,Nat.gcd_comm m n,Nat.gcd_rec n m,Nat.gcd_comm]
     ·(refine fY [0,1,2] ?_ ?_ ?_;all_goals(first|(simp only[aB,aI,simprocAttr,bl,u32,u64,i64];done) |(simp only[aI,simprocAttr,bl,u32,u64,i64];try((repeat' apply And.intro);all_goals rfl)) |skip))
      all_goals(simp[qL,bl,renL,dg,aB];try rfl)
end
end Go.Proofs.YtaidcaemdkncgaaGreatDoor
