/- Contracts of functions of the program, and what proves them (texts: RP1 RP2). -/
import Derived.Test.YtaidcaemdkncgaaGreatDoorZSAS
import Derived.Test.YtaidcaemdkncgaaGreatDoorZSAU
import Derived.Test.YtaidcaemdkncgaaGreatDoorZSBD
set_option linter.all false
set_option maxRecDepth 100000
set_option maxHeartbeats 8000000
namespace Go.Proofs.YtaidcaemdkncgaaGreatDoor
section
open Go Go.Lg Go.Num
def enI (ix:Nat→Option Nat) (q j:Nat):Int:=match ix j with
 |some i=>((i*q:Nat):Int)
 |none=> -1
def aT7 (L m:Nat) (d:Int) (a b:Nat→Nat) (j:Nat):Bool:= !(Nat.beq (Nat.gcd (j+1) L) 1) ||decide ((a j+b j) % m=wnN d m j)
def bAj (L m:Nat) (d:Int) (a b:Nat→Nat):Bool:=(List.range L).all (aT7 L m d a b)
def pwF (m e:Nat) (a b:Nat→Int) (j:Nat):Bool:=(decide (a j<0)==decide (b j<0)) && (decide (a j<0) ||decide (a j=(b j*e) % m))
def pwB (n n' m e:Nat) (a b:Nat→Int):Bool:=(List.range n).all (pwF m e a b) && Nat.beq n n'
theorem aEj {n o c:Nat}{v:List Int}{b:Bool}{ix:Nat→Option Nat}(h:SeD n v o c b ix) {j m:Nat}(hj:j<60) (hm:m % o=0) (hm1:1≤m) (hm2:m≤100000):PGd 93 [.agg [i64 n,.sl v.length (ec v)],i64 ((j:Int)+1),i64 m] (i64 (enI ix (m / o) j))∧ -1≤enI ix (m / o) j∧enI ix (m / o) j<m:=by
 unfold enI
 cases hi:ix j with
 |none=>exact⟨(iW h hj hi).2,by simp only;omega,by simp only;omega⟩
 |some i=>
  obtain⟨_,g2,g3⟩:=fV h hj hi hm hm1 hm2;exact⟨g2,by simp only;omega,by simp only;omega⟩
theorem bG8 {ix:Nat→Option Nat}{q j:Nat}(h:ix j≠none):enI ix q j=(rtI ix q j:Nat):=by
 unfold enI rtI
 cases hi:ix j with
 |none=>exact absurd hi h
 |some i=>rfl
attribute [local irreducible] lrun lwp exThen exBlk keep goodPost ec pt gn od rE sg mg sgN rtI enI
theorem aIf {n1 o1 c1 n2 o2 c2:Nat}{v1 v2:List Int}{b1 b2:Bool}{ix1 ix2:Nat→Option Nat}(h1:SeD n1 v1 o1 c1 b1 ix1) (h2:SeD n2 v2 o2 c2 b2 ix2) {L m:Nat}{d:Int}(hL:L≤60) (hd:d∈fdL) (m1:1≤m) (m2:m≤3600) (hm1:(2*m) % o1=0) (hm2:(2*m) % o2=0) (hs:∀ j,j<L→Nat.gcd (j+1) L=1→ix1 j≠none∧ix2 j≠none) (go:PGd 92 [.agg [i64 n1, .sl v1.length (ec v1)], .agg [i64 n2, .sl v2.length (ec v2)]] (i64 m)) (k:Int):
  PGd 197 [.agg [i64 n1,.sl v1.length (ec v1)],.agg [i64 n2,.sl v2.length (ec v2)],.agg [i64 L,i64 k,i64 d]] (bl (bAj L (2*m) d (rtI ix1 (2*m / o1)) (rtI ix2 (2*m / o2)))):=by
 have gr1:=fun j (hj:j<60)=>aEj h1 hj hm1 (show 1≤2*m by omega) (show 2*m≤100000 by omega)
 have gr2:=fun j (hj:j<60)=>aEj h2 hj hm2 (show 1≤2*m by omega) (show 2*m≤100000 by omega)
 have gk:=fun(j:Nat) (hj:j<60)=>(aWi hd hj).2
 have gg:=fun(j:Nat) (hj:j<60)=>aGy (j+1) L (by omega) (by omega)
 have e1:=fun j (hj:j<L) (hg:Nat.gcd (j+1) L=1)=>bG8 (q:=2*m / o1) (hs j hj hg).1
 have e2:=fun j (hj:j<L) (hg:Nat.gcd (j+1) L=1)=>bG8 (q:=2*m / o2) (hs j hj hg).2
 generalize enI ix1 (2*m / o1)=ea at*;generalize enI ix2 (2*m / o2)=eb at*;generalize rtI ix1 (2*m / o1)=a at*;generalize rtI ix2 (2*m / o2)=b at*;generalize ec v1=x1 at*;generalize ec v2=x2 at*
 have hF:(∃ j,j<L∧aT7 L (2*m) d a b j=false)→bAj L (2*m) d a b=false:=fun⟨j,hj,h⟩=>by
  cases h0:bAj L (2*m) d a b with
  |false=>rfl
  |true=>exact absurd (List.all_eq_true.1 h0 j (List.mem_range.2 hj)) (by rw[h];simp)
 have hT:(∀ j,j<L→aT7 L (2*m) d a b j=true)→bAj L (2*m) d a b=true:=fun h=>List.all_eq_true.2 fun j hj=>h j (List.mem_range.1 hj)
 generalize bAj L (2*m) d a b=R at*;have t2:((2*m:Nat):Int) / 2=(m:Int):=by omega
 have t0:((2*m:Nat):Int)=2*(m:Int):=rfl;simp only[i64,bl,t0]at*;refine aA aV Tryz.func197 rfl (by decide) (nt:=45) rfl (rs:=[.tmp 6]) rfl (aW rfl) ?_;refine sA ?_;refine aG (α:={j:Nat // j≤L∧∀ i,i<j→aT7 L (2*m) d a b i=true}) (fun j=>st 45 (lk [(3,.ptr 0 0),(4,.ptr 1 0),(5,.ptr 2 0),(7,.lit (.int .i64 (2*(m:Int)))),(8,.lit (.int .i64 ((j.1:Int)+1)))]) (cG [(0,⟨25,[.lit (.int .i64 n1),.sl v1.length x1],false⟩),(1,⟨25,[.lit (.int .i64 n2),.sl v2.length x2],false⟩),(2,⟨67,[.lit (.int .i64 L),.lit (.int .i64 k),.lit (.int .i64 d)],false⟩)]) 3) (fun j=>L-j.1) ⟨0,by omega,fun i hi=>by omega⟩ ?_ ?_
 ·simp only[Int.natCast_zero,Int.zero_add];exact zL3 [0,1,2]
 ·rintro⟨j,hj,hall⟩;simp only[st]
  have next:aT7 L (2*m) d a b j=true→∀ i,i<j+1→aT7 L (2*m) d a b i=true:=fun h i hi=>by
   rcases Nat.lt_or_ge i j with c |c
   ·exact hall i c
   ·obtain rfl:i=j:=by omega
    exact h
  by_cases hlt:j<L
  ·obtain⟨g1,_,q1⟩:=gr1 j (by omega);obtain⟨g2,_,q2⟩:=gr2 j (by omega);obtain⟨kk,g3,hz⟩:=gk j (by omega);have g4:=gg j (by omega);have s1:=e1 j hlt;have s2:=e2 j hlt;have ei:aT7 L (2*m) d a b j=(!(Nat.beq (Nat.gcd (j+1) L) 1) ||decide ((a j+b j) % (2*m)=if sgN d j=true then 2*m / 2 else 0)):=rfl;rw[show((j+1:Nat):Int)=(j:Int)+1 from rfl]at g4
   have t1:((a j:Int)+(b j:Int)) % (2*(m:Int))=(((a j+b j) % (2*m):Nat):Int):=rfl;have rlt:(a j+b j) % (2*m)<2*m:=Nat.mod_lt _ (by omega);have m0:¬2*(m:Int)=0:=by omega
   rw[show 2*m / 2=m by omega]at ei
   clear gg gk gr1 gr2 e1 e2;generalize (a j+b j) % (2*m)=r at*;generalize sgN d j=sb at*;generalize Nat.gcd (j+1) L=g at*;by_cases hg:g=1
   ·subst hg;rw[Nat.beq_refl]at ei
    rw[s1 rfl]at g1 q1
    rw[s2 rfl]at g2 q2
    clear s1 s2;generalize a j=aj at*;generalize b j=bj at*;obtain⟨w,hw⟩:∃ w,w=if kk<0 then m else 0:=⟨_,rfl⟩;have hsw:(if sb=true then m else 0)=w:=by rw[hw];by_cases hk:kk<0 <;>simp[hk,← hz]
    rw[hsw]at ei
    by_cases hs:r=w
    ·have hn:=next (by rw[ei];simp[hs]);by_cases hk:kk<0
     ·rw[if_pos hk]at hw
      subst hw;subst hs;refine jR (nd t1 t2) ?_;refine⟨⟨j+1,by omega,hn⟩,?_,by simp only;omega⟩;exact aE7 (nd t1 t2) [0,1,2]
     ·rw[if_neg hk]at hw
      subst hw;subst hs;refine jR (nd t1 t2) ?_;refine⟨⟨j+1,by omega,hn⟩,?_,by simp only;omega⟩;exact aE7 (nd t1 t2) [0,1,2]
    ·obtain rfl:=hF ⟨j,hlt,by rw[ei];simp[hs]⟩;by_cases hk:kk<0
     ·rw[if_pos hk]at hw
      subst hw;have hs':¬(r:Int)=(w:Int):=by omega
      refine jR (nd t1 t2) ?_;exact aE2 (nd t1 t2)
     ·rw[if_neg hk]at hw
      subst hw;have hs':¬(r:Int)=0:=by omega
      refine jR (nd t1 t2) ?_;exact aE2 (nd t1 t2)
   ·have hg':¬(g:Int)=1:=by omega
    have hgb:Nat.beq g 1=false:=Bool.eq_false_iff.2 (fun e=>hg (Nat.eq_of_beq_eq_true e));have hn:=next (by rw[ei,hgb];rfl);refine jR (nd t1 t2) ?_;refine⟨⟨j+1,by omega,hn⟩,?_,by simp only;omega⟩;exact aE7 (nd t1 t2) [0,1,2]
  ·obtain rfl:j=L:=by omega
   obtain rfl:=hT hall;refine sA ?_;exact zQ2
theorem aQo {n1 o1 c1 n2 o2 c2:Nat}{v1 v2:List Int}{b1 b2:Bool}{ix1 ix2:Nat→Option Nat}(h1:SeD n1 v1 o1 c1 b1 ix1) (h2:SeD n2 v2 o2 c2 b2 ix2) {e m:Nat}(m1:1≤m) (m2:m≤3600) (he:e≤3600) (hm1:m % o1=0) (hm2:m % o2=0):
  PGd 199 [.agg [i64 n1,.sl v1.length (ec v1)],.agg [i64 n2,.sl v2.length (ec v2)],i64 e,i64 m] (bl (pwB n1 n2 m e (enI ix1 (m / o1)) (enI ix2 (m / o2)))):=by
 have gr1:=fun j (hj:j<60)=>aEj h1 hj hm1 m1 (show m≤100000 by omega)
 have gr2:=fun j (hj:j<60)=>aEj h2 hj hm2 m1 (show m≤100000 by omega)
 have hn1:=h1.n2;have hn2:=h2.n2;generalize enI ix1 (m / o1)=a at*;generalize enI ix2 (m / o2)=b at*;generalize ec v1=x1 at*;generalize ec v2=x2 at*
 have hF:(∃ j,j<n1∧pwF m e a b j=false)→pwB n1 n2 m e a b=false:=fun⟨j,hj,h⟩=>by
  cases h0:pwB n1 n2 m e a b with
  |false=>rfl
  |true=>
   unfold pwB at h0;rw[Bool.and_eq_true]at h0
   exact absurd (List.all_eq_true.1 h0.1 j (List.mem_range.2 hj)) (by rw[h];simp)
 have hT:(∀ j,j<n1→pwF m e a b j=true)→pwB n1 n2 m e a b=Nat.beq n1 n2:=fun h=>by
  unfold pwB;rw[List.all_eq_true.2 fun j hj=>h j (List.mem_range.1 hj),Bool.true_and]
 generalize pwB n1 n2 m e a b=R at*;simp only[i64,bl]at*;refine aA aV Tryz.func199 rfl (by decide) (nt:=49) rfl (rs:=[.tmp 8]) rfl (aW rfl) ?_;refine sA ?_;refine aG (α:={j:Nat // j≤n1∧∀ i,i<j→pwF m e a b i=true}) (fun j=>st 49 (lk [(2,.lit (.int .i64 e)),(3,.lit (.int .i64 m)),(4,.ptr 0 0),(5,.ptr 1 0),(9,.lit (.int .i64 ((j.1:Int)+1)))]) (cG [(0,⟨25,[.lit (.int .i64 n1),.sl v1.length x1],false⟩),(1,⟨25,[.lit (.int .i64 n2),.sl v2.length x2],false⟩)]) 2) (fun j=>n1-j.1) ⟨0,by omega,fun i hi=>by omega⟩ ?_ ?_
 ·simp only[Int.natCast_zero,Int.zero_add];exact zL3 [0,1]
 ·rintro⟨j,hj,hall⟩;simp only[st]
  have next:pwF m e a b j=true→∀ i,i<j+1→pwF m e a b i=true:=fun h i hi=>by
   rcases Nat.lt_or_ge i j with c |c
   ·exact hall i c
   ·obtain rfl:i=j:=by omega
    exact h
  by_cases hlt:j<n1
  ·obtain⟨g1,q1,q2⟩:=gr1 j (by omega);obtain⟨g2,q3,q4⟩:=gr2 j (by omega);have ei:pwF m e a b j=((decide (a j<0)==decide (b j<0)) && (decide (a j<0) ||decide (a j=(b j*e) % m))):=rfl;clear gr1 gr2;generalize a j=aj at*;generalize b j=bj at*;have m0:¬(m:Int)=0:=by omega
   by_cases ha:aj<0
   ·by_cases hb:bj<0
    ·have hn:=next (by rw[ei];simp[ha,hb]);refine bPa ?_;refine⟨⟨j+1,by omega,hn⟩,?_,by simp only;omega⟩
     (refine fY [0,1] ?_ ?_ ?_;all_goals(first|(simp only[aB,aI,simprocAttr,bl,i64,smE,bne_self_eq_false];done) |(simp only[aI,simprocAttr,bl,i64,smE,bne_self_eq_false];try((repeat' apply And.intro);all_goals rfl)) |skip))
    ·obtain rfl:=hF ⟨j,hlt,by rw[ei];simp[ha,hb]⟩;refine bPa ?_
     ((first|apply dI|apply dK);case hres=>(simp only[gW];simp(disch:=first|omega|exact kD rfl|exact kX rfl) only[smY,simprocAttr,bl,i64,smE,bne_self_eq_false];exact rfl))
     simp(disch:=first|omega|exact kD rfl|exact kX rfl) only[smY,simprocAttr,bl,i64,smE,bne_self_eq_false]
   ·by_cases hb:bj<0
    ·obtain rfl:=hF ⟨j,hlt,by rw[ei];simp[ha,hb]⟩;refine bPa ?_
     ((first|apply dI|apply dK);case hres=>(simp only[gW];simp(disch:=first|omega|exact kD rfl|exact kX rfl) only[smY,simprocAttr,bl,i64,smE,bne_self_eq_false];exact rfl))
     simp(disch:=first|omega|exact kD rfl|exact kX rfl) only[smY,simprocAttr,bl,i64,smE,bne_self_eq_false]
    ·have hbe:bj*e≤3600*3600:=Int.mul_le_mul (by omega) (by omega) (by omega) (by omega);have hbe0:0≤bj*e:=Int.mul_nonneg (by omega) (by omega);have hr0:=Int.emod_nonneg (bj*e) (b:=(m:Int)) (by omega);generalize hbq:bj*(e:Int)=be at*;obtain⟨r,hr⟩:∃ r,be % (m:Int)=r:=⟨_,rfl⟩;rw[hr]at ei hr0
     by_cases hs:aj=r
     ·have hn:=next (by rw[ei];simp[ha,hb,hs] <;>omega);refine bBn (nd hbq hr) ?_;refine⟨⟨j+1,by omega,hn⟩,?_,by simp only;omega⟩
      (refine fY [0,1] ?_ ?_ ?_;all_goals(first|(simp only[aB,aI,simprocAttr,bl,i64,smE,hbq,hr,bne_self_eq_false];done) |(simp only[aI,simprocAttr,bl,i64,smE,hbq,hr,bne_self_eq_false];try((repeat' apply And.intro);all_goals rfl)) |skip))
     ·obtain rfl:=hF ⟨j,hlt,by rw[ei];simp[ha,hb,hs]⟩;refine bBn (nd hbq hr) ?_
      ((first|apply dI|apply dK);case hres=>(simp only[gW];simp(disch:=first|omega|exact kD rfl|exact kX rfl) only[smY,simprocAttr,bl,i64,smE,hbq,hr,bne_self_eq_false];exact rfl))
      simp(disch:=first|omega|exact kD rfl|exact kX rfl) only[smY,simprocAttr,bl,i64,smE,hbq,hr,bne_self_eq_false]
  ·obtain rfl:j=n1:=by omega
   have:=hT hall;by_cases hq:j=n2
   ·subst hq;rw[Nat.beq_refl]at this
    subst this;refine sA ?_;exact zQ2
   ·rw[Bool.eq_false_iff.2 (fun e=>hq (Nat.eq_of_beq_eq_true e))]at this
    subst this;have hq':¬(j:Int)=(n2:Int):=by omega
    refine sA ?_;exact zQ2
end
section
open Go Go.Lg Go.Num
theorem bW5 {d:Int}(h:fdL.any (fun x=>Go.Lg.eqI x d)=true):d∈fdL:=by
 obtain⟨y,hy,hq⟩:=List.any_eq_true.1 h;rw[Go.Lg.eqI_eq]at hq
 obtain rfl:y=d:=by simpa using hq
 exact hy
def isS (x:Option Nat):Bool:=match x with
 |some _=>true
 |none=>false
theorem bG9 {x:Option Nat}(h:isS x=true):x≠none:=by
 rintro rfl
 cases h
noncomputable def cH0 (L n1:Nat) (v1:List Nat) (n2:Nat) (v2:List Nat) (d:Int):Option Bool:=dC (ordN n1 v1) fun o1=>dC (ordN n2 v2) fun o2=>dC (2*Nat.lcm o1 o2) fun m=>dC (m / o1) fun q1=>dC (m / o2) fun q2=>bif (List.range L).all (fun j=> !(Nat.beq (Nat.gcd (j+1) L) 1) ||(isS (ixB o1 n1 v1 j) && isS (ixB o2 n2 v2 j)))then some (bAj L m d (rtI (ixB o1 n1 v1) q1) (rtI (ixB o2 n2 v2) q2))else none
noncomputable def bHa (args:List LV):Option LV:=match args with
 |[.agg [.lit (.int .i64 (.ofNat n1)),.sl k1 c1],.agg [.lit (.int .i64 (.ofNat n2)),.sl k2 c2],.agg [.lit (.int .i64 (.ofNat L)),.lit (.int .i64 k),.lit (.int .i64 d)]]=>match vB c1,vB c2 with
  |some v1,some v2=>bif Nat.ble L 60 && fdL.any (fun x=>Go.Lg.eqI x d) && okC n1 k1 v1 && okC n2 k2 v2 then(match cH0 L n1 v1 n2 v2 d with
   |some b=>some (.lit (.bool (bif b then true else false)))
   |none=>none)else none
  |_,_=>none
 |_=>none
theorem bHb (b:Bool):(bif b then true else false)=b:=by cases b <;>rfl
theorem bW6 {o1 o2:Nat}(a1:1≤o1) (a2:1≤o2) (b1:o1≤60) (b2:o2≤60):1≤Nat.lcm o1 o2∧Nat.lcm o1 o2≤3600:=by
 refine⟨Nat.pos_of_ne_zero (Nat.lcm_ne_zero (by omega) (by omega)),?_⟩;have:=Nat.le_of_dvd (Nat.mul_pos (show 0<o1 by omega) (show 0<o2 by omega)) (Nat.lcm_dvd_mul o1 o2);have:=Nat.mul_le_mul b1 b2;omega
theorem bHc {args:List LV}{r:LV}(h:bHa args=some r):PGd 197 args r:=by
 unfold bHa at h;split at h
 ·rename_i n1 k1 c1 n2 k2 c2 L k d;split at h
  ·rename_i v1 v2 e1 e2
   cases hb:(Nat.ble L 60 && fdL.any (fun x=>Go.Lg.eqI x d) && okC n1 k1 v1 && okC n2 k2 v2)with
   |false=>rw[hb]at h;cases h
   |true=>
    rw[hb,cond_true]at h
    simp only[Bool.and_eq_true,Nat.ble_eq]at hb;obtain⟨⟨⟨hL,hd⟩,h1⟩,h2⟩:=hb;obtain⟨rfl,s1⟩:=yP h1;obtain⟨rfl,s2⟩:=yP h2;split at h
    · rename_i b hk
      cases h
      unfold cH0 at hk;simp only[cF]at hk;obtain⟨m1,m2⟩:=bW6 s1.o1 s2.o1 s1.o2 s2.o2;have p1:=Nat.mod_eq_zero_of_dvd (Nat.dvd_trans (Nat.dvd_lcm_left (ordN n1 v1) (ordN n2 v2)) (Nat.dvd_mul_left _ 2));have p2:=Nat.mod_eq_zero_of_dvd (Nat.dvd_trans (Nat.dvd_lcm_right (ordN n1 v1) (ordN n2 v2)) (Nat.dvd_mul_left _ 2))
      cases hc:((List.range L).all (fun j=> !(Nat.beq (Nat.gcd (j+1) L) 1) ||(isS (ixB (ordN n1 v1) n1 v1 j) && isS (ixB (ordN n2 v2) n2 v2 j))))with
      |false=>rw[hc]at hk;cases hk
      |true=>
       rw[hc,cond_true]at hk
       cases hk
       have g:=aIf s1 s2 (L:=L) hL (bW5 hd) m1 m2 p1 p2 (fun j hj hg=>by
         have:=List.all_eq_true.1 hc j (List.mem_range.2 hj);rw[hg,Nat.beq_refl]at this
         simp only[Bool.not_true,Bool.false_or,Bool.and_eq_true]at this
         exact⟨bG9 this.1,bG9 this.2⟩) (qC s1 s2).2 k
       rw[(fZ e1).1,(fZ e2).1,← cW v1,← cW v2,bHb];exact g
    · cases h
  ·cases h
 ·cases h
noncomputable def bOd (m e n1:Nat) (v1:List Nat) (n2:Nat) (v2:List Nat):Bool:=dC (ordN n1 v1) fun o1=>dC (ordN n2 v2) fun o2=>dC (m / o1) fun q1=>dC (m / o2) fun q2=>pwB n1 n2 m e (enI (ixB o1 n1 v1) q1) (enI (ixB o2 n2 v2) q2)
noncomputable def bHd (args:List LV):Option LV:=match args with
 |[.agg [.lit (.int .i64 (.ofNat n1)),.sl k1 c1],.agg [.lit (.int .i64 (.ofNat n2)),.sl k2 c2],.lit (.int .i64 (.ofNat e)),.lit (.int .i64 (.ofNat m))]=>match vB c1,vB c2 with
  |some v1,some v2=>bif Nat.ble e 3600 && (Nat.ble 1 m && Nat.ble m 3600) && okC n1 k1 v1 && okC n2 k2 v2 && (Nat.beq (m % ordN n1 v1) 0 && Nat.beq (m % ordN n2 v2) 0)then some (.lit (.bool (bif bOd m e n1 v1 n2 v2 then true else false)))else none
  |_,_=>none
 |_=>none
theorem bHe {args:List LV}{r:LV}(h:bHd args=some r):PGd 199 args r:=by
 unfold bHd at h;split at h
 ·rename_i n1 k1 c1 n2 k2 c2 e m;split at h
  ·rename_i v1 v2 e1 e2
   cases hb:(Nat.ble e 3600 && (Nat.ble 1 m && Nat.ble m 3600) && okC n1 k1 v1 && okC n2 k2 v2 && (Nat.beq (m % ordN n1 v1) 0 && Nat.beq (m % ordN n2 v2) 0))with
   |false=>rw[hb]at h;cases h
   |true=>
    rw[hb,cond_true]at h
    cases h
    simp only[Bool.and_eq_true,Nat.ble_eq,Nat.beq_eq]at hb;obtain⟨⟨⟨⟨he,m1,m2⟩,h1⟩,h2⟩,p1,p2⟩:=hb;obtain⟨rfl,s1⟩:=yP h1;obtain⟨rfl,s2⟩:=yP h2;have g:=aQo s1 s2 (e:=e) m1 m2 he p1 p2;rw[(fZ e1).1,(fZ e2).1,← cW v1,← cW v2,bHb];unfold bOd;simp only[cF];exact g
  ·cases h
 ·cases h
noncomputable def bHf (args:List LV):Option LV:=match args with
 |[.agg [.lit (.int .i64 (.ofNat n)),.sl k cs]]=>match vB cs with
  |some v=>bif okC n k v then dC (coN n v) fun c=>some (.lit (.int .i64 (.ofNat c)))else none
  |none=>none
 |_=>none
theorem bHg {args:List LV}{r:LV}(h:bHf args=some r):PGd 64 args r:=by
 unfold bHf at h;split at h
 ·rename_i n k cs;split at h
  ·rename_i v e
   cases hb:okC n k v with
   |false=>rw[hb]at h;cases h
   |true=>
    rw[hb,cond_true,cF]at h
    cases h
    obtain⟨rfl,s⟩:=yP hb;rw[(fZ e).1,← cW v];exact s.coR
  ·cases h
 ·cases h
noncomputable def cH1 (f:FuncId) (args:List LV):Option LV:=bif Nat.beq f 64 then bHf args else rM f args
theorem bMq:eV Tryz.prog cH1:=aR (fun _ _=>bHg) gA
noncomputable def evk (f:Nat) (args:List LV):Option LV:=aSr Tryz.prog cH1 horc bK0 [33,18,290] 600 f args
theorem bHh {f:Nat}{args:List LV}{r:LV}(h:evk f args=some r):PGd f args r:=oI aV bMq wI lF h
end
end Go.Proofs.YtaidcaemdkncgaaGreatDoor
