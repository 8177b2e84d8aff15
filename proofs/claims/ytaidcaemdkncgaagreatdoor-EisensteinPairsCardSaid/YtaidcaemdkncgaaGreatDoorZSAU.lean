/- Contracts of functions of the program, and what proves them (texts: KSr2 KS BC11e DM1 EAk3 EAq). -/
import Derived.KernelRfl
import Derived.Test.YtaidcaemdkncgaaGreatDoorZSAR
import Derived.Test.YtaidcaemdkncgaaGreatDoorZSAS
import Derived.Test.YtaidcaemdkncgaaGreatDoorZSAT
set_option linter.all false
set_option maxRecDepth 100000
set_option maxHeartbeats 8000000
namespace Go.Proofs.YtaidcaemdkncgaaGreatDoor
section
open Go Go.Lg Go.Num
theorem bVx:dL (-56)=true:=by kernel_rfl
theorem bVy:dL (-52)=true:=by kernel_rfl
theorem bVz:dL (-47)=true:=by kernel_rfl
theorem bV0:dL (-40)=true:=by kernel_rfl
theorem bV1:dL (-35)=true:=by kernel_rfl
theorem bV2:dL (-24)=true:=by kernel_rfl
theorem bV3:dL (-20)=true:=by kernel_rfl
theorem bV4:dL (-15)=true:=by kernel_rfl
theorem cGw:dL (-8)=true:=by kernel_rfl
theorem cGx:dL (-4)=true:=by kernel_rfl
theorem cK3:dL (1)=true:=by kernel_rfl
theorem cK4:dL (8)=true:=by kernel_rfl
theorem cGy:dL (13)=true:=by kernel_rfl
theorem cGz:dL (21)=true:=by kernel_rfl
theorem cG0:dL (28)=true:=by kernel_rfl
theorem cG1:dL (33)=true:=by kernel_rfl
theorem cG2:dL (40)=true:=by kernel_rfl
theorem cG3:dL (44)=true:=by kernel_rfl
theorem cG4:dL (56)=true:=by kernel_rfl
theorem cG5:dL (60)=true:=by kernel_rfl
end
section
open Go Go.Lg Go.Num
theorem bV5:∀ d∈fdL,dL d=true:=by
 simp only[fdL,List.forall_mem_cons];exact⟨bVo,bVx,bVp,bVy,bVq,bVz,bVr,bV0,bVs,bV1,bVt,bV2,bVu,bV3,bVv,bV4,bVw,cGw,cGm,cGx,cGn,cK3,cK2,cK4,cGo,cGy,cGp,cGz,cGq,cG0,cGr,cG1,cGs,cG2,cGt,cG3,cGu,cG4,cGv,cG5,by simp⟩
theorem aWi {d:Int}(hd:d∈fdL) {j:Nat}(hj:j<60):(∃ z:Int,PGd 42 [i64 d,i64 ((j:Int)+1)] (i64 z)∧(z<0↔sgN d j=true))∧∃ z:Int,PGd 269 [i64 d,i64 ((j:Int)+1)] (i64 z)∧(z<0↔sgN d j=true):=by
 have h:=List.all_eq_true.1 (bV5 d hd) j (List.mem_range.2 hj);split at h
 ·rename_i a b g1 g2;rw[Bool.and_eq_true,beq_iff_eq,beq_iff_eq,Go.Lg.ltI_eq,Go.Lg.ltI_eq]at h
  exact⟨⟨a,cV gA g1,by rw[← h.1];simp⟩,b,cV gA g2,by rw[← h.2];simp⟩
 ·cases h
end
section
open Go Go.Lg Go.Num
attribute [local irreducible] lrun lwp exThen exBlk keep goodPost ec pt gn od rE sg mg
theorem bFs {R:List Rat}{P:Rat→Prop}(h:∀ j,P (R.getD j 0)):∀ c∈R,P c:=by
 intro c hc;obtain⟨j,hj,rfl⟩:=List.getElem_of_mem hc;have:=h j
 rwa [show R.getD j 0=R[j]by simp[List.getD,hj]]at this
theorem aAo {k:Nat}(k1:1≤k) (k2:k≤40) {n o f:Nat}{v w:List Int}{ix:Nat→Option Nat}(hf:1≤f∧f≤60∧w.length≤10∧o∈pF∧phN o o≤12) (hc:ChD n v o f w ix):
  PGd 17 [i64 k,.agg [i64 n,.sl v.length (ec v)]] (.tup [encF (nD (rz (dJ o)) (bQ (uA ix k f o f))),i64 o,i64 0])∧(∀ c∈nD (rz (dJ o)) (bQ (uA ix k f o f)),lq c≤100000)∧(nD (rz (dJ o)) (bQ (uA ix k f o f))).length≤60:=by
 obtain⟨f1,f2,lw,ho,hp⟩:=hf;have o1:=hc.o1;have o2:=hc.o2;obtain⟨c1,c2,c3,c4⟩:=tT ho;have hfr:=fun i=>aL1 (ix:=ix) (k:=k) (f:=f) (o:=o) (j:=f) k2 f1 f2 (Nat.le_refl _) i
 have hpv:=bFp ix k f o f
 have gN:=xK ho (plP ix k f o f) (sX f1) (oT k2 f2) (L:=260) (by omega) (by rw[aLz];omega) (by
  intro j;have:ov (plP ix k f o f)=uA ix k f o f:=hpv;rw[this]
  exact hfr j) (aZ3 k2 f1 f2 (Nat.le_refl _))
 have:ov (plP ix k f o f)=uA ix k f o f:=hpv;rw[this,aLz]at gN
 have hl2:=rP (uA ix k f o f);rw[gY]at hl2
 refine⟨aTi hc lw _ (oS ho) ⟨_,_,rfl⟩ k1 k2 gN,bFs (fun j=> ?_),by have:=bFr (rz (dJ o)) (bQ (uA ix k f o f));omega⟩;refine sZ (aGx c1 (L:=260) (fun j=> ?_) j) (sX f1) (oT k2 f2) (by omega);rw[iN];exact hfr j
end
section
open Go Go.Lg Go.Num
def rtI (ix:Nat→Option Nat) (q j:Nat):Nat:=match ix j with
 |some i=>i*q
 |none=>0
def wnN (d:Int) (m j:Nat):Nat:=if sgN d j=true then m / 2 else 0
def aPm (L m:Nat) (d:Int) (a b:Nat→Nat) (j:Nat):Bool:= !(Nat.beq (Nat.gcd (j+1) L) 1) ||((!(sgN d j) ||decide (m % 2=0)) && decide ((a j+b j) % m=wnN d m j))
def aPn (L m:Nat) (d:Int) (a b:Nat→Nat):Bool:=(List.range L).all (aPm L m d a b)
theorem aWj {n o c:Nat}{v:List Int}{b:Bool}{ix:Nat→Option Nat}(h:SeD n v o c b ix) {j m:Nat}(hj:j<60) (hm:m % o=0) (hm1:1≤m) (hm2:m≤100000):(∃ x:Bool,PGd 86 [.agg [i64 n,.sl v.length (ec v)],i64 ((j:Int)+1),i64 m] (.tup [i64 (rtI ix (m / o) j:Nat),bl x]))∧rtI ix (m / o) j<m:=by
 unfold rtI
 cases hi:ix j with
 |none=>exact⟨⟨_,(iW h hj hi).1⟩,hm1⟩
 |some i=>
  obtain⟨g1,_,g3⟩:=fV h hj hi hm hm1 hm2;exact⟨⟨_,g1⟩,g3⟩
attribute [local irreducible] lrun lwp exThen exBlk keep goodPost ec pt gn od rE sg mg sgN rtI
theorem aL2 {n1 o1 c1 n2 o2 c2:Nat}{v1 v2:List Int}{b1 b2:Bool}{ix1 ix2:Nat→Option Nat}(h1:SeD n1 v1 o1 c1 b1 ix1) (h2:SeD n2 v2 o2 c2 b2 ix2) {L m:Nat}{d:Int}(hL:L≤60) (hd:d∈fdL) (m1:1≤m) (m2:m≤3600) (hm1:m % o1=0) (hm2:m % o2=0) (go:PGd 82 [.agg [i64 n1, .sl v1.length (ec v1)], .agg [i64 n2, .sl v2.length (ec v2)]] (i64 m)) (k:Int):
  PGd 193 [.agg [i64 L,i64 k,i64 d],.agg [i64 n1,.sl v1.length (ec v1)],.agg [i64 n2,.sl v2.length (ec v2)]] (bl (aPn L m d (rtI ix1 (m / o1)) (rtI ix2 (m / o2)))):=by
 have gr1:=fun j (hj:j<60)=>aWj h1 hj hm1 m1 (show m≤100000 by omega)
 have gr2:=fun j (hj:j<60)=>aWj h2 hj hm2 m1 (show m≤100000 by omega)
 have gk:=fun(j:Nat) (hj:j<60)=>(aWi hd hj).1
 have gg:=fun(j:Nat) (hj:j<60)=>nM ((j+1:Nat):Int) L (by omega) (by omega)
 generalize rtI ix1 (m / o1)=a at*;generalize rtI ix2 (m / o2)=b at*;generalize ec v1=x1 at*;generalize ec v2=x2 at*
 have hF:(∃ j,j<L∧aPm L m d a b j=false)→aPn L m d a b=false:=fun⟨j,hj,h⟩=>by
  cases h0:aPn L m d a b with
  |false=>rfl
  |true=>exact absurd (List.all_eq_true.1 h0 j (List.mem_range.2 hj)) (by rw[h];simp)
 have hT:(∀ j,j<L→aPm L m d a b j=true)→aPn L m d a b=true:=fun h=>List.all_eq_true.2 fun j hj=>h j (List.mem_range.1 hj)
 generalize aPn L m d a b=R at*;have t2:(m:Int) / 2=((m / 2:Nat):Int):=rfl;have t3:(m:Int) % 2=((m % 2:Nat):Int):=rfl;have mb:m / 2≤1800:=by omega
 generalize hmh:m / 2=mh at*;generalize hmr:m % 2=mr at*;simp only[i64,bl]at*;refine aA aV Tryz.func193 rfl (by decide) (nt:=59) rfl (rs:=[.tmp 6]) rfl (aW rfl) ?_;refine sA ?_;refine aG (α:={j:Nat // j≤L∧∀ i,i<j→aPm L m d a b i=true}) (fun j=>st 59 (lk [(3,.ptr 0 0),(4,.ptr 1 0),(5,.ptr 2 0),(7,.lit (.int .i64 m)),(8,.lit (.int .i64 ((j.1:Int)+1)))]) (cG [(0,⟨67,[.lit (.int .i64 L),.lit (.int .i64 k),.lit (.int .i64 d)],false⟩),(1,⟨25,[.lit (.int .i64 n1),.sl v1.length x1],false⟩),(2,⟨25,[.lit (.int .i64 n2),.sl v2.length x2],false⟩)]) 3) (fun j=>L-j.1) ⟨0,by omega,fun i hi=>by omega⟩ ?_ ?_
 ·simp only[Int.natCast_zero,Int.zero_add];exact zL3 [0,1,2]
 ·rintro⟨j,hj,hall⟩;simp only[st]
  have next:aPm L m d a b j=true→∀ i,i<j+1→aPm L m d a b i=true:=fun h i hi=>by
   rcases Nat.lt_or_ge i j with c |c
   ·exact hall i c
   ·obtain rfl:i=j:=by omega
    exact h
  by_cases hlt:j<L
  ·obtain⟨⟨y1,g1⟩,q1⟩:=gr1 j (by omega);obtain⟨⟨y2,g2⟩,q2⟩:=gr2 j (by omega);obtain⟨kk,g3,hz⟩:=gk j (by omega);have g4:=gg j (by omega);have eg:((j+1:Nat):Int).gcd (L:Int)=Nat.gcd (j+1) L:=rfl;rw[eg]at g4
   have ei:aPm L m d a b j=(!(Nat.beq (Nat.gcd (j+1) L) 1) ||((!(sgN d j) ||decide (mr=0)) && decide ((a j+b j) % m=if sgN d j=true then mh else 0))):=by
    unfold aPm wnN;rw[hmh,hmr]
   have t1:((a j:Int)+(b j:Int)) % (m:Int)=(((a j+b j) % m:Nat):Int):=rfl;rw[show((j+1:Nat):Int)=(j:Int)+1 from rfl]at g4
   have rlt:(a j+b j) % m<m:=Nat.mod_lt _ (by omega);have m0:¬(m:Int)=0:=by omega
   clear eg gg gk gr1 gr2;generalize (a j+b j) % m=r at*;generalize a j=aj at*;generalize b j=bj at*;generalize sgN d j=sb at*;obtain⟨g,hgd⟩:∃ g,Nat.gcd (j+1) L=g:=⟨_,rfl⟩;rw[hgd]at g4 ei
   clear hgd;by_cases hg:g=1
   ·subst hg;rw[Nat.beq_refl]at ei
    by_cases hk:kk<0
    ·obtain rfl:=hz.1 hk;rw[if_pos rfl]at ei
     by_cases hm2':mr=0
     ·subst hm2';by_cases hs:r=mh
      ·subst hs;have:=next (by rw[ei];simp);refine jR (nd t1 (nd t2 t3)) ?_;refine⟨⟨j+1,by omega,this⟩,?_,by simp only;omega⟩;exact aE7 (nd t1 (nd t2 t3)) [0,1,2]
      ·have hs':¬(r:Int)=(mh:Int):=by omega
       obtain rfl:=hF ⟨j,hlt,by rw[ei];simp[hs]⟩;refine jR (nd t1 (nd t2 t3)) ?_;exact aE2 (nd t1 (nd t2 t3))
     ·have hs':¬(mr:Int)=0:=by omega
      obtain rfl:=hF ⟨j,hlt,by rw[ei];simp[hm2'] <;>omega⟩;refine jR (nd t1 (nd t2 t3)) ?_;exact aE2 (nd t1 (nd t2 t3))
    ·obtain rfl:sb=false:=Bool.eq_false_iff.2 fun e=>hk (hz.2 e)
     rw[if_neg (by simp)]at ei
     by_cases hs:r=0
     ·subst hs;have:=next (by rw[ei];simp <;>omega);refine jR (nd t1 (nd t2 t3)) ?_;refine⟨⟨j+1,by omega,this⟩,?_,by simp only;omega⟩;exact aE7 (nd t1 (nd t2 t3)) [0,1,2]
     ·have hs':¬(r:Int)=0:=by omega
      obtain rfl:=hF ⟨j,hlt,by rw[ei];simp[hs]⟩;refine jR (nd t1 (nd t2 t3)) ?_;exact aE2 (nd t1 (nd t2 t3))
   ·have hg':¬(g:Int)=1:=by omega
    have hgb:Nat.beq g 1=false:=Bool.eq_false_iff.2 (fun e=>hg (Nat.eq_of_beq_eq_true e));have:=next (by rw[ei,hgb];rfl);refine jR (nd t1 (nd t2 t3)) ?_;refine⟨⟨j+1,by omega,this⟩,?_,by simp only;omega⟩;exact aE7 (nd t1 (nd t2 t3)) [0,1,2]
  ·obtain rfl:j=L:=by omega
   obtain rfl:=hT hall;refine sA ?_;exact zQ2
end
section
open Go Go.Lg Go.Num
noncomputable def coN (n:Nat) (v:List Nat):Nat:=match evo rM 24 [chV n v]with
 |some (.tup [.lit (.int .i64 (.ofNat c)),.lit (.int .i64 (.ofNat e))])=>c
 |_=>0
noncomputable def evN (n:Nat) (v:List Nat):Bool:=match evo rM 23 [chV n v]with
 |some (.tup [.lit (.bool b),.lit (.int .i64 (.ofNat e))])=>b
 |_=>false
theorem rQ {n:Nat}{v:List Nat}(n1:1≤n) (n2:n≤60) (hb:ChB n (nI v)) (he:rE n (nI v)=0) (hl:v.length≤10) (h:aPl n v=true):SeD n (nI v) (ordN n v) (coN n v) (evN n v) (ixB (ordN n v) n v):=by
 unfold aPl at h;simp only[Bool.and_eq_true,cF]at h;obtain⟨⟨⟨hor,hco⟩,hm⟩,hoL,hv⟩:=h;obtain⟨⟨o1,o2⟩,go,gro⟩:=bE5 hor;have hv:=List.all_eq_true.1 hv;unfold bN4 at hco;split at hco
 ·rename_i c e hc;have hcc:coN n v=c:=by unfold coN;rw[hc]
  rw[hcc];rw[Bool.and_eq_true,Bool.and_eq_true,Bool.and_eq_true,Nat.beq_eq,Nat.ble_eq]at hco
  obtain⟨⟨⟨rfl,c2⟩,hci⟩,hpr⟩:=hco
  have hpr:c=n→PGd 57 [.agg [i64 n,.sl (nI v).length (ec (nI v))]] (.tup [.agg [i64 n,.sl (nI v).length (ec (nI v))],i64 0]):=by
   intro ec';subst ec';rw[Nat.beq_refl,Bool.not_true,Bool.false_or]at hpr
   have:=cV gA (bVm hpr)
   rwa [aB2]at this
  have g1:=cV gA hc;have g2:=cV gA (bVl hci);rw[aB2]at g1 g2
  unfold bN3 at hm;split at hm
  ·rename_i b e z a d hev hrv;have hbb:evN n v=b:=by unfold evN;rw[hev]
   rw[hbb];simp only[Bool.and_eq_true,Nat.beq_eq]at hm;obtain⟨⟨rfl,hz⟩,hb2⟩:=hm;have hz:z=false:=by cases z <;>simp_all
   subst hz;have g3:=cV gA hev;have g4:=aAi hrv;rw[aB2]at g3 g4
   have g5:=aC7 n (nI v) hb.m1 hb.ln;have g6:=aHz n (nI v) hb.m1 hb.ln;rw[he]at g5 g6
   refine⟨n1,n2,by rw[cW];exact hl,o1,o2,c2,List.contains_iff_mem.1 hoL,hpr,g5,g6,go,gro,g1,g2,g3,?_,fun j hj hn=> ?_,fun j i hj hi=> ?_⟩
   ·cases b with
    |true=>
     rw[cond_true,Bool.and_eq_true,Nat.beq_eq,Nat.beq_eq]at hb2
     obtain⟨rfl,rfl⟩:=hb2
     exact g4
    |false=>
     rw[cond_false,Bool.and_eq_true,Nat.beq_eq,Nat.beq_eq]at hb2
     obtain⟨rfl,rfl⟩:=hb2;exact g4
   ·have h1:=hv j (List.mem_range.2 hj);rw[Bool.and_eq_true]at h1
    exact(bN2 h1.1).1 hn
   ·have h1:=hv j (List.mem_range.2 hj);rw[Bool.and_eq_true]at h1
    exact⟨((bN2 h1.1).2 i hi).1,bVn h1.1 h1.2 i hi⟩
  ·cases hm
 ·cases hco
end
section
open Go Go.Lg Go.Num
noncomputable def pS (p:Nat×Nat):Bool:=(((gE (od p.1)).drop (p.2*10)).take 10).all (aPl p.1)
end
end Go.Proofs.YtaidcaemdkncgaaGreatDoor
