/- Contracts of functions of the program, and what proves them (texts: PMr4 DM3 DMa0 DMa DMb EB0 EB1 NumPar BCq EB2 EB3 EC1 X1 X3 X4 NumK NumT R1e NumB K6e K7e EC2). -/
import Derived.KernelRfl
import Derived.Test.YtaidcaemdkncgaaGreatDoorZSAQ
import Derived.Test.YtaidcaemdkncgaaGreatDoorZSAR
import Derived.Test.YtaidcaemdkncgaaGreatDoorZSAS
import Derived.Test.YtaidcaemdkncgaaGreatDoorZSBD
import Derived.Test.YtaidcaemdkncgaaGreatDoorZSBE
import Derived.Test.YtaidcaemdkncgaaGreatDoorZSBF
import Derived.Test.YtaidcaemdkncgaaGreatDoorZSBG
set_option linter.all false
set_option maxRecDepth 100000
set_option maxHeartbeats 8000000
namespace Go.Proofs.YtaidcaemdkncgaaGreatDoor
section
open Go Go.Lg Go.Num
theorem cLj:∀ n∈[2,11,12,13,14,20,26,34,35,38,43,44,49,52,57],evz 100 [.lit (.int .i64 (.ofNat n))]=some (aG1 n):=by
 simp only[List.forall_mem_cons]
 (repeat' apply And.intro)
 all_goals first |exact List.forall_mem_nil _ |(as_aux_lemma=>kernel_rfl)
end
section
open Go Go.Lg Go.Num
theorem bV9 {n:Nat}(h:1≤n∧n≤60):evz 100 [.lit (.int .i64 (.ofNat n))]=some (aG1 n):=by
 have k:n∈[3,4,18,21,22,24,28,29,37,39,40,50,54,56,59]∨n∈[5,6,8,15,17,19,23,25,30,31,36,45,48,53,55]∨n∈[1,7,9,10,16,27,32,33,41,42,46,47,51,58,60]∨n∈[2,11,12,13,14,20,26,34,35,38,43,44,49,52,57]:=by
  have:((List.range' 1 60).all fun n=>decide (n∈[3,4,18,21,22,24,28,29,37,39,40,50,54,56,59]∨n∈[5,6,8,15,17,19,23,25,30,31,36,45,48,53,55]∨n∈[1,7,9,10,16,27,32,33,41,42,46,47,51,58,60]∨n∈[2,11,12,13,14,20,26,34,35,38,43,44,49,52,57]))=true:=by decide+kernel
  exact of_decide_eq_true (List.all_eq_true.1 this n (by rw[List.mem_range'_1];omega))
 rcases k with k |k |k |k
 ·exact cLg n k
 ·exact cLh n k
 ·exact cLi n k
 ·exact cLj n k
def aJv (args:List LV):Option LV:=match args with
 |[.lit (.int .i64 (.ofNat n))]=>bif Nat.ble 1 n && Nat.ble n 60 then some (aG1 n)else none
 |_=>none
theorem bFx {args:List LV}{r:LV}(h:aJv args=some r):PGd 100 args r:=by
 unfold aJv at h;split at h
 ·rename_i n
  cases hb:(Nat.ble 1 n && Nat.ble n 60)with
  |false=>rw[hb]at h;cases h
  |true=>
   rw[hb,cond_true]at h
   cases h
   rw[Bool.and_eq_true,Nat.ble_eq,Nat.ble_eq]at hb
   exact bFu (bV9 hb)
 ·cases h
noncomputable def bWa (f:FuncId) (args:List LV):Option LV:=bif Nat.beq f 193 then bFv args else bif Nat.beq f 100 then aJv args else rM f args
theorem aWn:eV Tryz.prog bWa:=aR (fun _ _=>bFw) (aR (fun _ _=>bFx) gA)
noncomputable def evd (f:Nat) (args:List LV):Option LV:=aSr Tryz.prog bWa horc bV7 [33,18,290] 600 f args
theorem aPp {f:Nat}{args:List LV}{r:LV}(h:evd f args=some r):PGd f args r:=oI aV aWn wI lF h
end
section
open Go Go.Lg Go.Num
def iL (z:Int):LV:= .lit (.int .i64 z)
def dZ (i:Nat):Int:=Int.subNatNat i 120
noncomputable def fdb (d:Int):Bool:=match evo rM 39 [iL d]with
 |some (.tup [.lit (.int .i64 _),.lit (.int .i64 (.ofNat f)),.lit (.int .i64 (.ofNat e))])=>Nat.beq e 0 && Nat.beq f 1
 |_=>false
noncomputable def bFy (i:Nat):Bool:=iE (dZ i) fun d=>match evo rM 39 [iL d],evo rM 107 [iL d]with
 |some (.tup [.lit (.int .i64 _),.lit (.int .i64 (.ofNat f)),.lit (.int .i64 (.ofNat e))]),some (.lit (.bool b))=>Nat.ble e 100 && Nat.ble f 1000 && (bif Nat.beq e 0 && Nat.beq f 1 then Go.Lg.eqI d 1 ||b else !(Go.Lg.eqI d 1 ||b)) && (bif Nat.beq e 0 && Nat.beq f 1 then Nat.blt 60 d.natAbs ||fdL.any (fun x=>Go.Lg.eqI x d)else true)
 |_,_=>false
noncomputable def psE (L:Nat):Nat:=match evo rM 108 [.lit (.int .i64 (.ofNat L))]with
 |some (.lit (.int .i64 (.ofNat p)))=>p
 |_=>0
noncomputable def bFz (L:Nat):Bool:=match evo rM 108 [.lit (.int .i64 (.ofNat L))],evo rM 191 [.lit (.int .i64 (.ofNat L))]with
 |some (.lit (.int .i64 (.ofNat p))),some (.tup [.lit (.int .i64 (.ofNat q)),.lit (.int .i64 e)])=>Nat.beq p q && Nat.ble p 1000
 |_,_=>false
theorem cLl:∀ k∈[0,1,2,3,4,5,6,7,8,9,10,11,12,13,14,15,16,17,18,19,20,21,22,23,24],(((List.range 241).drop (k*10)).take 10).all bFy=true:=by
 simp only[List.forall_mem_cons]
 (repeat' apply And.intro)
 all_goals first |exact List.forall_mem_nil _ |(as_aux_lemma=>kernel_rfl)
theorem cLm:∀ L∈[1,2,3,4,5,6,7,8,9,10,11,12,13,14,15,16,17,18,19,20,21,22,23,24,25,26,27,28,29,30,31,32,33,34,35,36,37,38,39,40,41,42,43,44,45,46,47,48,49,50,51,52,53,54,55,56,57,58,59,60],bFz L=true:=by
 simp only[List.forall_mem_cons]
 (repeat' apply And.intro)
 all_goals first |exact List.forall_mem_nil _ |(as_aux_lemma=>kernel_rfl)
theorem bWb:(List.range 241).all bFy=true:=aJd (l:=List.range 241) 10 25 (by decide+kernel) (fun j hj=>cLl j (by
 have:∀ j∈List.range 25,j∈[0,1,2,3,4,5,6,7,8,9,10,11,12,13,14,15,16,17,18,19,20,21,22,23,24]:=by decide+kernel
 exact this j (List.mem_range.2 hj)))
theorem bWc:((List.range 61).drop 1).all bFz=true:=by
 have e:(List.range 61).drop 1=[1,2,3,4,5,6,7,8,9,10,11,12,13,14,15,16,17,18,19,20,21,22,23,24,25,26,27,28,29,30,31,32,33,34,35,36,37,38,39,40,41,42,43,44,45,46,47,48,49,50,51,52,53,54,55,56,57,58,59,60]:=by decide+kernel
 rw[e];exact List.all_eq_true.2 cLm
end
section
open Go Go.Lg Go.Num
theorem wS {d:Int}(h1: -120≤d) (h2:d≤120):(∃ (x:Int) (f e:Nat),e≤100∧f≤1000∧PGd 39 [i64 d] (.tup [i64 x,i64 f,i64 e])∧(fdb d=true↔e=0∧f=1))∧(∃ b,PGd 107 [i64 d] (bl b)∧(fdb d=true↔d=1∨b=true))∧(fdb d=true→d.natAbs≤60→d∈fdL):=by
 have hm:(d+120).toNat∈List.range 241:=List.mem_range.2 (by omega);have h:=List.all_eq_true.1 bWb _ hm;unfold bFy at h;rw[cY]at h
 have e1:dZ (d+120).toNat=d:=by unfold dZ;rw[Int.subNatNat_eq_coe];omega
 rw[e1]at h
 unfold fdb;split at h
 ·rename_i x f e b g1 g2;rw[g1];simp only[Bool.and_eq_true,Nat.ble_eq,Go.Lg.eqI_eq]at h;obtain⟨⟨⟨h3,h4⟩,h5⟩,h6⟩:=h;refine⟨⟨x,f,e,h3,h4,cV gA g1,?_⟩,⟨b,cV gA g2,?_⟩,fun hf ha=> ?_⟩
  ·simp only[Bool.and_eq_true,Nat.beq_eq]
  ·cases hb:(Nat.beq e 0 && Nat.beq f 1)with
   |true=>
    rw[hb,cond_true]at h5
    have h5:d=1∨b=true:=by simpa using h5
    exact⟨fun _=>h5,fun _=>hb⟩
   |false=>
    rw[hb,cond_false]at h5
    have h5:¬d=1∧b=false:=by simpa using h5
    exact⟨fun h=>absurd (hb.symm.trans h) (by simp),fun h=>absurd h (by simp[h5])⟩
  ·have hb:(Nat.beq e 0 && Nat.beq f 1)=true:=hf;rw[hb,cond_true,Bool.or_eq_true]at h6
   rcases h6 with h6 |h6
   ·have:=Nat.le_of_ble_eq_true h6;omega
   ·obtain⟨y,hy,hq⟩:=List.any_eq_true.1 h6;have:y=d:=by simpa using hq
    exact this ▸ hy
 ·cases h
theorem bLz {L:Nat}(h1:1≤L) (h2:L≤60):(∃ e:Int,PGd 191 [i64 L] (.tup [i64 (psE L:Nat),i64 e]))∧PGd 108 [i64 L] (i64 (psE L:Nat))∧psE L≤1000:=by
 have h:=List.all_eq_true.1 bWc L (by
  have:(List.range 61).drop 1=(List.range 60).map (· +1):=by decide+kernel
  rw[this]
  exact List.mem_map.2 ⟨L-1,List.mem_range.2 (by omega),by omega⟩)
 unfold bFz at h;unfold psE;split at h
 ·rename_i p q e g1 g2;rw[g1];rw[Bool.and_eq_true,Nat.beq_eq,Nat.ble_eq]at h
  obtain⟨rfl,h4⟩:=h;exact⟨⟨e,cV gA g2⟩,cV gA g1,h4⟩
 ·cases h
noncomputable def ckE (L k d:Int):Int:=if L<1∨120<L∨k<2∨24<k∨d< -120∨120<d then 2 else if fdb d=false then 15 else if¬L % d=0 then 14 else if¬(0<d↔k % 2=0)then 16 else if 512<(psE L.toNat:Int)*(k-1)then 7 else 0
attribute [local irreducible] lrun lwp exThen exBlk keep goodPost
section
variable {L k d:Int}
theorem aPq (h:L<1∨120<L∨k<2∨24<k∨d< -120∨120<d):PGd 99 [.agg [i64 L,i64 k,i64 d]] (i64 2)∧PGd 34 [.agg [i64 L,i64 k,i64 d]] (i64 2):=by
 have h:L<1∨(1≤L∧120<L)∨((1≤L∧L≤120)∧k<2)∨((1≤L∧L≤120)∧2≤k∧24<k)∨((1≤L∧L≤120)∧(2≤k∧k≤24)∧d< -120)∨((1≤L∧L≤120)∧(2≤k∧k≤24)∧ -120≤d∧120<d):=by omega
 simp only[i64]at*;rcases h with h |h |h |h |h |h
 all_goals
  constructor
  ·
   refine aA aV Tryz.func99 rfl (by decide) (nt:=78) rfl (rs:=[.tmp 2]) rfl (aW rfl) ?_;refine zA6 ?_;exact zQ4
  ·
   refine aA aV Tryz.func34 rfl (by decide) (nt:=67) rfl (rs:=[.tmp 2]) rfl (aW rfl) ?_;refine zA6 ?_;exact zQ4
theorem aWo (h1:1≤L∧L≤120) (h2:2≤k∧k≤24) (h3: -120≤d∧d≤120) (hf:fdb d=false):PGd 99 [.agg [i64 L,i64 k,i64 d]] (i64 15)∧PGd 34 [.agg [i64 L,i64 k,i64 d]] (i64 15):=by
 obtain⟨⟨x,f,e,he,hf',g1,i1⟩,⟨b,g2,i2⟩,_⟩:=wS h3.1 h3.2;rw[hf]at i1 i2
 have hd1:¬d=1:=fun e=>absurd (i2.2 (.inl e)) (by simp)
 have hb:b=false:=by cases b with
  |false=>rfl
  |true=>exact absurd (i2.2 (.inr rfl)) (by simp)
 subst hb;have hef:¬(e=0∧f=1):=fun e=>absurd (i1.2 e) (by simp)
 clear i1 i2 hf;simp only[i64,bl]at*;constructor
 ·by_cases h0:e=0
  ·have h5:¬f=1:=fun e=>hef ⟨h0,e⟩
   have h6:¬(f:Int)=1:=by omega
   refine aA aV Tryz.func99 rfl (by decide) (nt:=78) rfl (rs:=[.tmp 2]) rfl (aW rfl) ?_;refine zA6 ?_;exact zQ4
  ·have h6:¬(e:Int)=0:=by omega
   refine aA aV Tryz.func99 rfl (by decide) (nt:=78) rfl (rs:=[.tmp 2]) rfl (aW rfl) ?_;refine zA6 ?_;exact zQ4
 ·
  refine aA aV Tryz.func34 rfl (by decide) (nt:=67) rfl (rs:=[.tmp 2]) rfl (aW rfl) ?_;refine zA6 ?_;exact zQ4
theorem aWp (h1:1≤L∧L≤60) (h2:2≤k∧k≤24) (h3: -120≤d∧d≤120) (hf:fdb d=true) (hd0:¬d=0):PGd 99 [.agg [i64 L,i64 k,i64 d]] (i64 (ckE L k d))∧PGd 34 [.agg [i64 L,i64 k,i64 d]] (i64 (ckE L k d)):=by
 obtain⟨⟨x,f,e,he,hf',g1,i1⟩,⟨b,g2,i2⟩,_⟩:=wS h3.1 h3.2;obtain⟨rfl,rfl⟩:=i1.1 hf;rw[show((0:Nat):Int)=0 from rfl,show((1:Nat):Int)=1 from rfl]at g1
 obtain⟨⟨e,g3⟩,g4,hp⟩:=bLz (L:=L.toNat) (by omega) (by omega);have eL:((L.toNat:Nat):Int)=L:=by omega
 rw[eL]at g3 g4
 have ib:=i2.1 hf;have hpm:(psE L.toNat:Int)*(k-1)≤1000*23:=Int.mul_le_mul (by omega) (by omega) (by omega) (by omega);have hp0:0≤(psE L.toNat:Int)*(k-1):=Int.mul_nonneg (by omega) (by omega);unfold ckE;rw[if_neg (by omega),if_neg (by simp[hf])];generalize psE L.toNat=p at*;generalize hpk:(p:Int)*(k-1)=q at*;generalize hmm:L % d=mm at*;clear i1 i2 hf eL
 have pr:∀ (r:Int),((mm≠0∧r=14)∨(mm=0∧((¬(0<d↔k % 2=0)∧r=16)∨((0<d↔k % 2=0)∧((512<q∧r=7)∨(¬512<q∧r=0))))))→PGd 99 [.agg [i64 L,i64 k,i64 d]] (i64 r)∧PGd 34 [.agg [i64 L,i64 k,i64 d]] (i64 r):=by
  intro r hr
  have w1:(decide (d<0) !=(k % 2==1))= !decide (0<d↔k % 2=0):=by
   rcases(show(d<0∧¬0<d)∨(0<d∧¬d<0)by omega)with⟨a,b⟩ |⟨a,b⟩ <;>rcases(show k % 2=0∨k % 2=1 by omega)with c |c <;>simp[a,b,c]
  have w2:(decide (d>0) !=(k % 2==0))= !decide (0<d↔k % 2=0):=by
   rcases(show(d<0∧¬0<d)∨(0<d∧¬d<0)by omega)with⟨a,b⟩ |⟨a,b⟩ <;>rcases(show k % 2=0∨k % 2=1 by omega)with c |c <;>simp[a,b,c]
  simp only[i64,bl]at*;rcases hr with⟨c1,rfl⟩ |⟨rfl,⟨c2,rfl⟩ |⟨c2,⟨c3,rfl⟩ |⟨c3,rfl⟩⟩⟩
  ·clear w1 w2;constructor
   ·
    refine aA aV Tryz.func99 rfl (by decide) (nt:=78) rfl (rs:=[.tmp 2]) rfl (aW rfl) ?_;refine xA (nd hpk hmm) ?_;exact aDi (nd hpk hmm)
   ·by_cases c:d=1
    ·refine aA aV Tryz.func34 rfl (by decide) (nt:=67) rfl (rs:=[.tmp 2]) rfl (aW rfl) ?_;refine xA (nd hpk hmm) ?_;refine fX rfl (by decide) rfl ?_;refine xA (nd hpk hmm) ?_;exact aDi (nd hpk hmm)
    ·obtain rfl:b=true:=ib.resolve_left c;refine aA aV Tryz.func34 rfl (by decide) (nt:=67) rfl (rs:=[.tmp 2]) rfl (aW rfl) ?_;refine xA (nd hpk hmm) ?_;exact aDi (nd hpk hmm)
  ·rw[decide_eq_false c2]at w1 w2
   constructor
   ·
    refine aA aV Tryz.func99 rfl (by decide) (nt:=78) rfl (rs:=[.tmp 2]) rfl (aW rfl) ?_;refine xA (nd hpk (nd hmm (nd w1 w2))) ?_;exact aDi (nd hpk (nd hmm (nd w1 w2)))
   ·by_cases c:d=1
    ·refine aA aV Tryz.func34 rfl (by decide) (nt:=67) rfl (rs:=[.tmp 2]) rfl (aW rfl) ?_;refine xA (nd hpk (nd hmm (nd w1 w2))) ?_;refine fX rfl (by decide) rfl ?_;refine xA (nd hpk (nd hmm (nd w1 w2))) ?_;exact aDi (nd hpk (nd hmm (nd w1 w2)))
    ·obtain rfl:b=true:=ib.resolve_left c;refine aA aV Tryz.func34 rfl (by decide) (nt:=67) rfl (rs:=[.tmp 2]) rfl (aW rfl) ?_;refine xA (nd hpk (nd hmm (nd w1 w2))) ?_;exact aDi (nd hpk (nd hmm (nd w1 w2)))
  ·rw[decide_eq_true c2]at w1 w2
   constructor
   ·
    refine aA aV Tryz.func99 rfl (by decide) (nt:=78) rfl (rs:=[.tmp 2]) rfl (aW rfl) ?_;refine xA (nd hpk (nd hmm (nd w1 w2))) ?_;exact aDi (nd hpk (nd hmm (nd w1 w2)))
   ·by_cases c:d=1
    ·refine aA aV Tryz.func34 rfl (by decide) (nt:=67) rfl (rs:=[.tmp 2]) rfl (aW rfl) ?_;refine xA (nd hpk (nd hmm (nd w1 w2))) ?_;refine fX rfl (by decide) rfl ?_;refine xA (nd hpk (nd hmm (nd w1 w2))) ?_;exact aDi (nd hpk (nd hmm (nd w1 w2)))
    ·obtain rfl:b=true:=ib.resolve_left c;refine aA aV Tryz.func34 rfl (by decide) (nt:=67) rfl (rs:=[.tmp 2]) rfl (aW rfl) ?_;refine xA (nd hpk (nd hmm (nd w1 w2))) ?_;exact aDi (nd hpk (nd hmm (nd w1 w2)))
  ·rw[decide_eq_true c2]at w1 w2
   constructor
   ·
    refine aA aV Tryz.func99 rfl (by decide) (nt:=78) rfl (rs:=[.tmp 2]) rfl (aW rfl) ?_;refine xA (nd hpk (nd hmm (nd w1 w2))) ?_;exact aDi (nd hpk (nd hmm (nd w1 w2)))
   ·by_cases c:d=1
    ·refine aA aV Tryz.func34 rfl (by decide) (nt:=67) rfl (rs:=[.tmp 2]) rfl (aW rfl) ?_;refine xA (nd hpk (nd hmm (nd w1 w2))) ?_;refine fX rfl (by decide) rfl ?_;refine xA (nd hpk (nd hmm (nd w1 w2))) ?_;exact aDi (nd hpk (nd hmm (nd w1 w2)))
    ·obtain rfl:b=true:=ib.resolve_left c;refine aA aV Tryz.func34 rfl (by decide) (nt:=67) rfl (rs:=[.tmp 2]) rfl (aW rfl) ?_;refine xA (nd hpk (nd hmm (nd w1 w2))) ?_;exact aDi (nd hpk (nd hmm (nd w1 w2)))
 split
 ·rename_i hx;exact pr 14 (.inl ⟨hx,rfl⟩)
 ·rename_i hx;have hx:mm=0:=by omega
  split
  ·rename_i hy;exact pr 16 (.inr ⟨hx,.inl ⟨hy,rfl⟩⟩)
  ·rename_i hy;have hy:(0<d↔k % 2=0):=by omega
   split
   ·rename_i hz;exact pr 7 (.inr ⟨hx,.inr ⟨hy,.inl ⟨hz,rfl⟩⟩⟩)
   ·rename_i hz;exact pr 0 (.inr ⟨hx,.inr ⟨hy,.inr ⟨hz,rfl⟩⟩⟩)
end
end
section
open Go Go.Lg Go.Num
structure Pr where
 n1:Nat
 v1:List Nat
 n2:Nat
 v2:List Nat
 t:Nat
def Pr.cs (p:Pr):List LV:=[i64 p.n1,.sl (nI p.v1).length (ec (nI p.v1)),i64 p.n2,.sl (nI p.v2).length (ec (nI p.v2)),i64 p.t]
def pC (l:List Pr):List LV:=l.flatMap Pr.cs
def aPr:List LV→Option (List Pr)
 |[]=>some []
 | .lit (.int .i64 (.ofNat n1)):: .sl k1 c1:: .lit (.int .i64 (.ofNat n2)):: .sl k2 c2:: .lit (.int .i64 (.ofNat t))::r=>match vB c1,vB c2,aPr r with
   |some v1,some v2,some l=>bif Nat.beq k1 v1.length && Nat.beq k2 v2.length then some (⟨n1,v1,n2,v2,t⟩::l)else none
   |_,_,_=>none
 |_=>none
theorem bF0:∀ (N:Nat) {cs:List LV}{l:List Pr},cs.length≤N→aPr cs=some l→cs=pC l:=by
 intro N
 induction N with
 |zero=>
  intro cs l hl h;obtain rfl:=List.eq_nil_of_length_eq_zero (by omega:cs.length=0);simp only[aPr,Option.some.injEq]at h;subst h
  rfl
 |succ N ih=>
  intro cs l hl h;unfold aPr at h;split at h
  · cases h
    rfl
  · rename_i n1 k1 c1 n2 k2 c2 t r;split at h
    · rename_i v1 v2 l0 h1 h2 h3
      cases hb:(Nat.beq k1 v1.length && Nat.beq k2 v2.length)with
      |false=>rw[hb]at h;cases h
      |true=>
       rw[hb,cond_true]at h
       rw[Bool.and_eq_true,Nat.beq_eq,Nat.beq_eq]at hb
       obtain⟨rfl,rfl⟩:=hb
       cases h
       simp only[List.length_cons]at hl;rw[ih (by omega) h3,(fZ h1).1,(fZ h2).1];unfold pC;rw[List.flatMap_cons];unfold Pr.cs;simp only[cW];rfl
    · cases h
  · cases h
theorem aL3 {cs:List LV}{l:List Pr}(h:aPr cs=some l):cs=pC l:=bF0 _ (Nat.le_refl _) h
noncomputable def aH8 (ev two:Bool) (p:Pr):Bool:=Nat.ble 1 p.n1 && Nat.ble p.n1 60 && (Nat.ble 1 p.n2 && Nat.ble p.n2 60) && ((gE (od p.n1)).contains p.v1 && (gE (od p.n2)).contains p.v2) && (Nat.beq (coN p.n1 p.v1) p.n1 && Nat.beq (coN p.n2 p.v2) p.n2) && ((evN p.n1 p.v1==evN p.n2 p.v2)==ev) && pF.contains (Nat.lcm (ordN p.n1 p.v1) (ordN p.n2 p.v2)) && (Nat.ble 1 p.t && Nat.ble p.t 60) && !(two && Nat.beq p.n1 1 && Nat.beq p.n2 1 && Nat.beq p.t 1)
def Pr.m (p:Pr):Nat:=Nat.lcm (ordN p.n1 p.v1) (ordN p.n2 p.v2)
def Pr.dg (p:Pr):Nat:=(dJ p.m).length-1
def dB (l:List Pr):Nat:=(l.map Pr.dg).sum
def aZ5:Code→Code
 | .seq _ b=>b
 |c=>c
def bN6 (f:Func):Code:=match f.body with
 |some c=>c
 |none=> .ret
noncomputable def paT (k:Int) (L:Nat) (d:Int):Option LV:=aWm Tryz.prog bWa horc bV7 [33,18,290] 600 Tryz.f29.results.toList (aZ5 (aZ5 (aZ5 (bN6 Tryz.f29)))) Tryz.f29.ntmps [(1,.ptr 0 0)] [(0,⟨67,[.lit (.int .i64 (.ofNat L)),iL k,iL d],false⟩)] 1
noncomputable def dmT (k:Int) (L:Nat) (d:Int):Option LV:=match evd 109 [.agg [.lit (.int .i64 (.ofNat L)),iL k,iL d],.lit (.int .i64 (.ofNat L))]with
 |some (.agg [.lit (.int .i64 a),.lit (.int .i64 b),.lit (.int .i64 c),.lit (.int .i64 e),.lit (.int .i64 f)])=>evd 110 [.agg [.lit (.int .i64 a),.lit (.int .i64 b),.lit (.int .i64 c),.lit (.int .i64 e),.lit (.int .i64 f)]]
 |_=>none
noncomputable def aPs (two:Bool) (k:Int) (L:Nat) (d:Int):Bool:=match paT k L d,dmT k L d with
 |some (.tup [.sl N cs,.lit (.int .i64 (.ofNat e))]),some (.lit (.int .i64 (.ofNat D)))=>Nat.beq e 0 && (match aPr cs with
  |some l=>Nat.beq N l.length && Nat.beq D (dB l) && Nat.ble D 200 && l.all (aH8 (ltI 0 d) two)
  |none=>false)
 |_,_=>false
end
section
open Go Go.Lg Go.Num
def aWq (args:List LV):Option LV:=
 match args with
 |[.agg [a,b],.agg [c,d]]=>match rdI a b,rdI c d with
  |some x,some y=>iE (x / y) fun q=>iE (x % y) fun r=>bif eW x && eW y && eW q && eW r && !(y==0)then some (.tup [.agg (wrI q),.agg (wrI r)])else none
  |_,_=>none
 |_=>none
theorem bF1 {args:List LV}{r:LV}(h:aWq args=some r):PGd 290 args r:=by
 unfold aWq at h;split at h
 ·split at h
  ·rename_i a b c d x y h1 h2;rw[cY,cY]at h
   cases hb:(eW x && eW y && eW (x / y) && eW (x % y) && !(y==0))with
   |true=>
    rw[hb]at h
    simp only[Bool.and_eq_true,Bool.not_eq_true',beq_eq_false_iff_ne,ne_eq]at hb
    cases h
    have hx:=lG hb.1.1.1.1;have hy:=lG hb.1.1.1.2;obtain⟨rfl,rfl⟩:=kB h1;obtain⟨rfl,rfl⟩:=kB h2;rw[pW hb.1.1.2,pW hb.1.2];have:=mY x y hb.2 (by omega) (by omega)
    rwa [aY x,aY y]at this
   |false=>rw[hb]at h;cases h
  ·cases h
 ·cases h
def bF2 (f:FuncId) (args:List LV):Option LV:=bif Nat.beq f 290 then aWq args else rM f args
theorem aAp:eV Tryz.prog bF2:=aR (f0:=290) (g:=aWq) (fun _ _ h=>bF1 h) gA
theorem aPt:PGd 156 [z4v] (bG 0):=by
 have h:PGd 156 [z4v] (wrQ 0):=cV aAp (by kernel_rfl)
 rwa [aBw (by decide+kernel)]at h
end
section
open Go Go.Lg Go.Num
attribute [local irreducible] lrun lwp exThen exBlk keep goodPost sg mg oc mC op
theorem aPu (F:List (Option Rat)) (hl1:1≤F.length) (hl:F.length≤100000) (hf2:∀ q,some q∈F→lq q≤100000):jX Tryz.prog 72 [.sl F.length (op F)] (bQ (ov F)).length 4 47 (qc (bQ (ov F))):=by
 have gmiss:=aPt;obtain⟨L,hLL⟩:∃ L,L=ov F:=⟨_,rfl⟩;have hLg:∀ j,L.getD j 0=(F.getD j none).getD 0:=fun j=>by rw[hLL];exact bEr F j
 have hLen:L.length=F.length:=by rw[hLL,aCa]
 rw[← hLL];obtain⟨k,hk0,hkt,hk1,hk2⟩:=kF L;obtain⟨N,hlen⟩:∃ N,L.length=N:=⟨_,rfl⟩;have hopl:=op_len F
 have hf:∀ j,j<N→lq (L.getD j 0)≤100000:=fun j hj=>by
  rw[hLg j];have hjF:j<F.length:=by omega
  have e:F.getD j none=F[j]:=by simp[hjF]
  have hm:=List.getElem_mem hjF;rw[← e]at hm
  cases h:F.getD j none with
  |none=>decide+kernel
  |some q=>rw[h]at hm;exact hf2 q hm
 have hkl:(bQ L).length=k:=by rw[hkt,List.length_take];omega
 have hq:qc (bQ L)=(qc L).take (k*4):=by rw[hkt,rN]
 rw[hq,hkl];refine bFh ?_ _;rw[← hLen,hlen];have hFN:F.length=N:=by omega
 rw[hFN]at hopl
 rw[hlen]at hk0
 have hl1':1≤N:=by omega
 have hl':N≤100000:=by omega
 refine sF aV Tryz.func72 rfl (by decide) (nt:=38) rfl (rs:=[.tmp 2]) rfl (aW rfl) (lE s9 s10 _) ?_;refine dP ?_;refine aG (α:={m:Nat // m≤N}) (fun m=>st 38 (lk [(0,.sl N (op F)),(3,nV 0 m.1),(4,i64 m.1)]) (cG (nB 0 m.1 (qc (L.take m.1)))) 1) (fun m=>N-m.1) ⟨0,by omega⟩ ?_ ?_
 ·simp only[mZ,nA]
  (refine Sub.plain ?_;simp only[aI,simprocAttr,bl,i64,smT])
  all_goals(first |done |simp)
 ·rintro⟨m,hm⟩;simp only[st];by_cases hlt:m<N
  ·have happ:=eP (L:=L) (m:=m) (by omega);have htl:(L.take m).length=m:=by rw[List.length_take];omega
   have htd:=op_td (l:=F) (s:=m) (by omega);have hLm:=hLg m
   have hmem:F.getD m none∈F:=by
    have hmF:m<F.length:=by omega
    have:F.getD m none=F[m]:=by simp[hmF]
    rw[this];exact List.getElem_mem hmF
   generalize hq:L.getD m 0=q at*;generalize F.getD m none=o at*
   have g2:PGd 156 [.agg (oqp o)] (.agg [sg (q).num,mg (q).num,sg ((q).den:Int),mg ((q).den:Int)]):=by
    cases o with
    |none=>
     have e:q=0:=hLm;subst e;rw[oqp_none,← aH]
     exact gmiss
    |some x=>
     have e:q=x:=hLm;subst e;rw[oqp_some,← aH];exact eN q (by have:=hf2 q hmem;omega)
   cases o with
   |none=>
    rw[oqp_none]at htd g2
    by_cases h0:m=0
    · simp only[oN h0,oO h0];refine cZ (nd htd hopl) ?_;refine⟨⟨m+1,by omega⟩,?_,by simp only;omega⟩;subst h0;simp only[dW,dX]
      (refine fY [12] ?_ ?_ ?_;all_goals(first|(simp only[aB,aI,simprocAttr,bl,i64,smT];done) |(simp only[aI,simprocAttr,bl,i64,smT];try((repeat' apply And.intro);all_goals rfl)) |skip))
      have e:L.take 1=[q]:=happ;all_goals(first |done |(rw[e,← jK]))
    · simp only[lY h0,lZ h0];refine cZ (nd htd hopl) ?_;refine⟨⟨m+1,by omega⟩,?_,by simp only;omega⟩;simp only[dW,dX]
      (refine fY [12] ?_ ?_ ?_;all_goals(first|(simp only[aB,aI,simprocAttr,bl,i64,smT];done) |(simp only[aI,simprocAttr,bl,i64,smT];try((repeat' apply And.intro);all_goals rfl)) |skip))
      all_goals(first |done |(rw[happ,← iI]))
   |some x=>
    rw[oqp_some]at htd g2
    by_cases h0:m=0
    · simp only[oN h0,oO h0];refine cZ (nd htd hopl) ?_;refine⟨⟨m+1,by omega⟩,?_,by simp only;omega⟩;subst h0;simp only[dW,dX]
      (refine fY [12] ?_ ?_ ?_;all_goals(first|(simp only[aB,aI,simprocAttr,bl,i64,smT];done) |(simp only[aI,simprocAttr,bl,i64,smT];try((repeat' apply And.intro);all_goals rfl)) |skip))
      have e:L.take 1=[q]:=happ;all_goals(first |done |(rw[e,← jK]))
    · simp only[lY h0,lZ h0];refine cZ (nd htd hopl) ?_;refine⟨⟨m+1,by omega⟩,?_,by simp only;omega⟩;simp only[dW,dX]
      (refine fY [12] ?_ ?_ ?_;all_goals(first|(simp only[aB,aI,simprocAttr,bl,i64,smT];done) |(simp only[aI,simprocAttr,bl,i64,smT];try((repeat' apply And.intro);all_goals rfl)) |skip))
      all_goals(first |done |(rw[happ,← iI]))
  ·obtain rfl:m=N:=by omega
   have htL:L.take m=L:=List.take_of_length_le (by omega);rw[htL];by_cases h0:m=0
   ·simp only[oN h0,oO h0];omega
   ·simp only[lY h0,lZ h0];refine dP ?_;refine aG (α:={j:Nat // k≤j∧j≤m}) (fun j=>st 38 (lk [(3,.own 0 0 m 4),(5,i64 j.1)]) (cG [(0,⟨47,qc L,false⟩)]) 1) (fun j=>j.1) ⟨m,by omega,Nat.le_refl _⟩ ?_ ?_
    ·exact zL0 [0]
    ·rintro⟨j,hj1,hj2⟩;simp only[st];rcases j with _ |j
     ·obtain rfl:k=0:=by omega
      refine dP ?_;refine fX rfl (by decide) rfl ?_;refine dP ?_
      ((apply aUl;(case hres=>(simp only[gW];simp(disch:=first|omega|exact kD rfl|exact kX rfl) only[smY,simprocAttr,bl,i64,smT];exact rfl));(case h0=>(simp only[aI,simprocAttr,bl,i64,smT];exact rfl));(case hf=>rfl));try rfl)
     ·have g3:=aC8 (L.getD j 0) (by have:=hf j (by omega);omega);have e3:((j+1:Nat):Int)-1=(j:Int):=by omega
      have hqc:(qc L).length=m*4:=by rw[gV,hlen]
      by_cases hjk:k=j+1
      ·have hnz:¬(L.getD j 0).num.sign=0:=fun e=>by
        have:=hk2 (by omega);rw[hjk,Nat.add_sub_cancel]at this
        exact this (Rat.num_eq_zero.1 (Int.sign_eq_zero_iff_zero.1 e))
       subst hjk;generalize hq:L.getD j 0=q at*;generalize q.num.sign=s at*;simp only[aH,i64]at g3;refine cZ (nd hq e3) ?_
       ((apply aUl;(case hres=>(simp only[gW];simp(disch:=first|omega|exact kD rfl|exact kX rfl) only[smY,simprocAttr,bl,i64,smT,hq,e3];exact rfl));(case h0=>(simp only[aI,simprocAttr,bl,i64,smT,hq,e3];exact rfl));(case hf=>rfl));try rfl)
      ·have hz:(L.getD j 0).num.sign=0:=by
        rw[hk1 j (by omega)];rfl
       rw[hz]at g3
       generalize hq:L.getD j 0=q at*;simp only[aH,i64]at g3;refine cZ (nd hq e3) ?_;refine⟨⟨j,by omega,by omega⟩,?_,by simp only;omega⟩;exact zL0 [0]
end
end Go.Proofs.YtaidcaemdkncgaaGreatDoor
namespace Go.Num
def qO (a b:List Rat):List Rat:=List.zipWith (· + ·) a b
def vJ (s:Rat) (a:List Rat):List Rat:=a.map fun x=>s*x
theorem aAq {a b:List Rat}(h:a.length=b.length):(qO a b).length=a.length:=by simp[qO,h]
theorem vL (s:Rat) (a:List Rat):(vJ s a).length=a.length:=by simp[vJ]
theorem fC {a b:List Rat}(h:a.length=b.length) (j:Nat):(qO a b).getD j 0=a.getD j 0+b.getD j 0:=by
 unfold qO;rcases Nat.lt_or_ge j a.length with hj |hj
 ·simp[List.getD,List.getElem?_zipWith,hj,h ▸ hj]
 ·simp[List.getD,List.getElem?_zipWith,hj,h ▸ hj,Rat.add_zero]
theorem oV (s:Rat) (a:List Rat) (j:Nat):(vJ s a).getD j 0=s*a.getD j 0:=by
 unfold vJ;rcases Nat.lt_or_ge j a.length with hj |hj
 ·simp[List.getD,hj]
 ·simp[List.getD,hj]
theorem aAr {a b:List Rat}(h:a.length=b.length) (hg:∀ j,j<a.length→a.getD j 0=b.getD j 0):a=b:=by
 refine List.ext_getElem h (fun j h1 h2=> ?_);have:=hg j h1;simpa[List.getD,h1,h2]using this
theorem bF3 {a b:List Rat}(h:a.length=b.length) (i:Nat) (x y:Rat):(qO a b).set i (x+y)=qO (a.set i x) (b.set i y):=by
 refine aAr (by simp[qO,h]) (fun j hj=> ?_);rw[fC (by simp[h])];have hj2:j<a.length:=by simpa[qO,h]using hj
 have hj3:j<b.length:=by omega
 by_cases e:i=j
 ·subst e;have h4:i<min a.length b.length:=by omega
  simp[List.getD,qO,hj2,hj3,List.getElem?_set,h4]
 ·have h1:=fC h j;simp[List.getD,List.getElem?_set,e]at h1⊢
  exact h1
theorem bF4 (s:Rat) (a:List Rat) (i:Nat) (x:Rat):(vJ s a).set i (s*x)=vJ s (a.set i x):=by
 simp[vJ,List.map_set]
theorem aPv (c d:Rat):∀ (g a b:List Rat) (i:Nat),a.length=b.length→gH (c+d) g (qO a b) i=qO (gH c g a i) (gH d g b i)
 |[],a,b,i,_=>rfl
 |u::g,a,b,i,h=>by
  rw[gH,gH,gH,fC h];have e:a.getD i 0+b.getD i 0-(c+d)*u=(a.getD i 0-c*u)+(b.getD i 0-d*u):=by grind
  rw[e,bF3 h];exact aPv c d g _ _ _ (by simp[h])
theorem aPw (s c:Rat):∀ (g a:List Rat) (i:Nat),gH (s*c) g (vJ s a) i=vJ s (gH c g a i)
 |[],a,i=>rfl
 |u::g,a,i=>by
  rw[gH,gH,oV];have e:s*a.getD i 0-s*c*u=s*(a.getD i 0-c*u):=by grind
  rw[e,bF4];exact aPw s c g _ _
theorem aG2 (g:List Rat):∀ (k:Nat) (a b:List Rat),a.length=b.length→eX g k (qO a b)=qO (eX g k a) (eX g k b)
 |0,a,b,_=>rfl
 |k+1,a,b,h=>by
  rw[eX,eX,eX,fC h,aPv _ _ _ _ _ _ h];exact aG2 g k _ _ (by rw[vF,vF,h])
theorem vM (g:List Rat) (s:Rat):∀ (k:Nat) (a:List Rat),eX g k (vJ s a)=vJ s (eX g k a)
 |0,a=>rfl
 |k+1,a=>by
  rw[eX,eX,oV,aPw];exact vM g s k _
theorem aPx (c:Rat) (z:List Rat):∀ (g t:List Rat) (i:Nat),i+g.length≤t.length→gH c g (t++z) i=gH c g t i++z
 |[],t,i,_=>rfl
 |u::g,t,i,h=>by
  rw[List.length_cons]at h
  have hi:i<t.length:=by omega
  have e:(t++z).getD i 0=t.getD i 0:=by simp[List.getD,List.getElem?_append_left hi]
  rw[gH,gH,e,List.set_append_left _ _ hi];exact aPx c z g _ _ (by rw[List.length_set];omega)
theorem aPy (g z:List Rat) (hg:1≤g.length):∀ (k:Nat) (t:List Rat),k+g.length≤t.length+1→eX g k (t++z)=eX g k t++z
 |0,t,_=>rfl
 |k+1,t,h=>by
  have hi:k+g.length-1<t.length:=by omega
  have e:(t++z).getD (k+g.length-1) 0=t.getD (k+g.length-1) 0:=by simp[List.getD,List.getElem?_append_left hi]
  rw[eX,eX,e,aPx _ _ _ _ _ (by omega)];exact aPy g z hg k _ (by rw[vF];omega)
theorem aPz (g:List Rat) (t:List Rat):∀ (m k:Nat),(∀ j,k+g.length≤j+1→t.getD j 0=0)→eX g (k+m) t=eX g k t
 |0,k,_=>rfl
 |m+1,k,h=>by
  rw[show k+(m+1)=(k+m)+1 by omega,eX];have e:t.getD (k+m+g.length-1) 0=0:=h _ (by omega);rw[e,aCf];exact aPz g t m k h
end Go.Num
namespace Go.Proofs.YtaidcaemdkncgaaGreatDoor
section
open Go Go.Lg Go.Num
theorem wT (a:List Rat):∀ m:Nat,bQ (a++List.replicate m 0)=bQ a
 |0=>by rw[List.replicate_zero,List.append_nil]
 |m+1=>by rw[List.replicate_succ',← List.append_assoc,kC,wT a m]
theorem aP1 (L:List Rat):∃ m,L=bQ L++List.replicate m 0:=by
 obtain⟨k,h1,h2,h3,_⟩:=kF L;refine⟨L.length-k,?_⟩;rw[h2]
 conv=>lhs;rw[← List.take_append_drop k L]
 congr 1;refine aAr (by simp) (fun j hj=> ?_);have e1:(L.drop k).getD j 0=L.getD (k+j) 0:=by simp[List.getD]
 rw[e1,h3 (k+j) (by omega)];simp[List.getD,List.getElem?_replicate];split <;>rfl
theorem wU {g:List Rat}(hg:1≤g.length) (L:List Rat):nD g (bQ L)=bQ (eX g (L.length+1-g.length) L):=by
 obtain⟨m,hm⟩:=aP1 L;unfold nD;generalize bQ L=t at*;subst hm;rw[List.length_append,List.length_replicate]
 have hz:∀ j,t.length≤j→(t++List.replicate m (0:Rat)).getD j 0=0:=fun j hj=>by
  simp[List.getD,List.getElem?_append_right hj,List.getElem?_replicate];split <;>rfl
 obtain⟨d,hd⟩:∃ d,t.length+m+1-g.length=(t.length+1-g.length)+d:=⟨t.length+m+1-g.length-(t.length+1-g.length),by omega⟩;rw[hd,aPz g _ d _ (fun j hj=>hz j (by omega))];by_cases h0:t.length+1-g.length=0
 ·rw[h0,eX,eX,wT]
 ·rw[aPy g _ hg _ _ (by omega),wT]
end
section
open Go Go.Lg Go.Num
def bF5 (c:Int):List Int→List Int→Nat→List Int
 |[],r,_=>r
 |b::g,r,i=>bF5 c g (r.set i (r.getD i 0-c*b)) (i+1)
def dvI (g:List Int):Nat→List Int→List Int
 |0,r=>r
 |k+1,r=>dvI g k (bF5 (r.getD (k+g.length-1) 0) g r k)
theorem aWr (c:Int):∀ (g r:List Int) (i:Nat),gH (c:Rat) (rz g) (rz r) i=rz (bF5 c g r i)
 |[],r,i=>rfl
 |b::g,r,i=>by
  show gH (c:Rat) ((b:Rat)::rz g) (rz r) i=_;rw[gH,bF5,mK,← Rat.intCast_mul,← Rat.intCast_sub,bEu];exact aWr c g _ _
theorem aWs (g:List Int):∀ (k:Nat) (r:List Int),eX (rz g) k (rz r)=rz (dvI g k r)
 |0,r=>rfl
 |k+1,r=>by
  rw[eX,dvI,bX,mK,aWr];exact aWs g k _
def aL4 {α:Type}:List Int→(List Int→α)→α
 |[],k=>k []
 |x::l,k=>iE x fun v=>aL4 l fun l'=>k (v::l')
theorem aJw {α:Type}:∀ (l:List Int) (k:List Int→α),aL4 l k=k l
 |[],k=>rfl
 |x::l,k=>by rw[aL4,cY,aJw l]
def dvC {α:Type}(g:List Int) (d:Nat):Nat→List Int→(List Int→α)→α
 |0,r,K=>K r
 |k+1,r,K=>iE (r.getD (k+d) 0) fun c=>aL4 (bF5 c g r k) fun r'=>dvC g d k r' K
theorem bF6 {α:Type}{g:List Int}{d:Nat}(hd:d+1=g.length):∀ (k:Nat) (r:List Int) (K:List Int→α),dvC g d k r K=K (dvI g k r)
 |0,r,K=>rfl
 |k+1,r,K=>by
  rw[dvC,cY,aJw,bF6 hd k,dvI,show k+g.length-1=k+d by omega]
theorem bF7 (l:List Int):bQ (rz l)=rz (bS l):=(oQ l).symm
def unZ (e:Nat):List Int:=List.replicate e 0++[1]
def unO (e:Nat):List (Option Rat):=List.replicate e none++[some 1]
theorem lP (e:Nat):(unO e).length=e+1:=by simp[unO]
theorem bL1 (e:Nat):(unZ e).length=e+1:=by simp[unZ]
theorem aL5 (e:Nat):ov (unO e)=rz (unZ e):=by
 unfold ov unO rz unZ;simp[List.map_append,List.map_replicate]
def zI (m e:Nat):List Int:=bS (dvI (dJ m) (e+2-(dJ m).length) (unZ e))
theorem aTk {m e:Nat}(hm:m∈pF):nD (rz (dJ m)) (bQ (ov (unO e)))=rz (zI m e):=by
 obtain⟨c1,c2,c3,c4⟩:=tT hm;rw[aL5,wU (by rw[bX];omega),bX,bX,bL1,aWs,bF7];rfl
attribute [local irreducible] lrun lwp exThen exBlk keep goodPost sg mg oc op
theorem aP2 (e m:Nat) (he:e<m) (hm:m≤1000):PGd 298 [i64 e,i64 m] (i64 e):=by
 have q:(e:Int).tmod (m:Int)=e:=Int.tmod_eq_of_lt (by omega) (by omega);have q2:(e:Int) % (m:Int)=e:=Int.emod_eq_of_lt (by omega) (by omega);have q3:e % m=e:=Nat.mod_eq_of_lt he;simp only[i64]at*;refine aA aV Tryz.func298 rfl (by decide) (nt:=15) rfl (rs:=[.tmp 4]) rfl (aW rfl) ?_;refine tW (nd q (nd q2 q3)) ?_
 ((first|apply dI|apply dK);case hres=>(simp only[gW];simp(disch:=first|omega|exact kD rfl|exact kX rfl) only[smY,simprocAttr,bl,i64,smT,smO,q,q2,q3];exact rfl))
 simp(disch:=first|omega|exact kD rfl|exact kX rfl) only[smY,simprocAttr,bl,i64,smT,smO,q,q2,q3]
theorem aL6 (e:Nat) (he:e≤1000):PGd 297 [bG 1,i64 e] (.sl (e+1) (op (unO e))):=by
 have hset:=lH (l:=List.replicate (e+1) none) (j:=e) (by simp) 1
 have e1:(List.replicate (e+1) (none:Option Rat)).set e (some 1)=unO e:=by
  unfold unO;rw[List.replicate_succ',List.set_append_right _ _ (by simp)];simp
 rw[e1]at hset
 have hl:=lP e;simp only[aH,i64]at*;refine aA aV Tryz.func297 rfl (by decide) (nt:=14) rfl (rs:=[.tmp 4]) rfl (aW rfl) ?_
 (repeat(first|apply zO (by decide+kernel)|apply zP (by decide+kernel)|(apply zS;(case h=>constructor<;>decide))|((first|apply cB rfl|apply aS|apply zT rfl (by decide) rfl);(case hs=>(simp(disch:=first|omega|exact kD rfl|exact kX rfl) only[smY,simprocAttr,bl,i64,smT,smO,hset,vC,@iM,hl];exact rfl));first|refine bZ ?_|refine cA ?_|refine zq ?_|(case hg=>assumption))))
 ((first|apply dI|apply dK);case hres=>(simp only[gW];simp(disch:=first|omega|exact kD rfl|exact kX rfl) only[smY,simprocAttr,bl,i64,smT,smO,hset,vC,@iM,hl];exact rfl))
 simp(disch:=first|omega|exact kD rfl|exact kX rfl) only[smY,simprocAttr,bl,i64,smT,smO,hset,vC,@iM,hl];all_goals trace_state
end
section
open Go Go.Lg Go.Num
attribute [local irreducible] lrun lwp exThen exBlk keep goodPost sg mg oc op
theorem bF8 {m:Nat}(h:m∈pF):1≤m∧m≤42:=by
 have:pF.all (fun m=>Nat.ble 1 m && Nat.ble m 42)=true:=by decide+kernel
 have h1:=List.all_eq_true.1 this m h
 rwa [Bool.and_eq_true,Nat.ble_eq,Nat.ble_eq]at h1
theorem aL7 (e j:Nat):(unZ e).getD j 0=if j=e then 1 else 0:=by
 unfold unZ;rcases Nat.lt_trichotomy j e with h |h |h
 ·rw[if_neg (by omega)];simp[List.getD,List.getElem?_append_left (show j<(List.replicate e (0:Int)).length by simpa using h),h]
 ·subst h;rw[if_pos rfl];simp[List.getD]
 ·rw[if_neg (by omega)];have:(List.replicate e (0:Int)++[1]).length≤j:=by simp;omega
  simp only[List.getD,List.getElem?_eq_none this,Option.getD_none]
theorem aG3 (z:Int):(z:Rat)=Rat.divInt z 1:=by
 have:=Rat.num_divInt_den (z:Rat);rw[Rat.num_intCast,Rat.den_intCast]at this
 exact this.symm
theorem aL8 {z:Int}(h:z.natAbs≤10):mE 1 1 (z:Rat):=⟨z,aG3 z,by
 have:=bH (a:=z) (e:=1) (by omega)
 omega⟩
end
section
open Go Go.Lg Go.Num
attribute [local irreducible] lrun lwp exThen exBlk keep goodPost sg mg oc op
def tA (n:Nat) (q:Rat) (z:List Int):List Rat:=(List.range n).map fun i=>q*((z.getD i 0:Int):Rat)
def aCg (n:Nat) (q:Rat) (z:List Int) (k:Nat):List Rat:=(List.range n).map fun i=>if i<k then q*((z.getD i 0:Int):Rat)else 0
theorem iO (n:Nat) (q:Rat) (z:List Int):(tA n q z).length=n:=by simp[tA]
theorem bF9 (n:Nat) (q:Rat) (z:List Int) (k:Nat):(aCg n q z k).length=n:=by simp[aCg]
theorem oW {n i:Nat}{q:Rat}{z:List Int}(h:i<n):(tA n q z).getD i 0=q*((z.getD i 0:Int):Rat):=by simp[tA,List.getD,h]
theorem aZ6 (n:Nat) (q:Rat) (z:List Int):aCg n q z 0=List.replicate n 0:=by
 unfold aCg;simp[List.map_const']
theorem bGa (n:Nat) (q:Rat) (z:List Int):aCg n q z z.length=tA n q z:=by
 unfold aCg tA;refine List.map_congr_left (fun i _=> ?_);by_cases h:i<z.length
 ·rw[if_pos h]
 ·rw[if_neg h];have:z.getD i 0=0:=by simp[List.getD,Nat.le_of_not_lt h]
  rw[this,Rat.intCast_zero,Rat.mul_zero]
theorem bGb {n k:Nat}{q:Rat}{z:List Int}(h:k<n):(aCg n q z k).set k (q*((z.getD k 0:Int):Rat))=aCg n q z (k+1):=by
 refine List.ext_getElem (by simp[aCg]) (fun i h1 h2=> ?_);simp only[aCg,List.length_map,List.length_range,List.length_set]at h1 h2;rw[List.getElem_set];simp only[aCg,List.getElem_map,List.getElem_range];by_cases e:k=i
 ·subst e;rw[if_pos rfl,if_pos (by omega)]
 ·rw[if_neg e];by_cases c:i<k
  ·rw[if_pos c,if_pos (by omega)]
  ·rw[if_neg c,if_neg (by omega)]
theorem aP3 {z:Int}(h:z.natAbs≤10):lq (z:Rat)≤2:=by
 have:=(aL8 h).lq (K:=1) (by decide) (by decide+kernel);omega
theorem aDa {m e n:Nat}{q:Rat}{z:List Int}(gz:PGd 258 [i64 m,i64 e] (encF (rz z))) (hz:z.length≤n) (hz2:∀ x∈z,x.natAbs≤10) (n1:1≤n) (n2:n≤100) (hq:lq q≤1000) (hm:m≤1000) (he:e≤1000):
  PGd 185 [i64 m,i64 e,bG q,i64 n] (.sl n (qc (tA n q z))):=by
 have gn:=aJu n n1 (by omega);rw[← aZ6 n q z]at gn
 rw[bE,bX]at gz
 have hvl:=fun k=>bF9 n q z k
 have hva:=bGa n q z;have hvs:=fun k (h:k<n)=>bGb (q:=q) (z:=z) h
 have hrl:=bX z;have hrg:=mK z;generalize hZ:z.length=N at*;simp only[aH,i64]at gz gn⊢;refine aA aV Tryz.func185 rfl (by decide) (nt:=33) rfl (rs:=[.tmp 8]) rfl (aW rfl) ?_;refine zA4 ?_;refine wB (by simp only[List.size_toArray,List.length_cons,List.length_nil,Nat.reduceAdd,Nat.max_def,Nat.reduceLeDiff,↓reduceIte];exact rfl) rfl rfl rfl (by decide) rfl (by simp(disch:=first|omega|exact kD rfl|exact kX rfl) only[smY,simprocAttr,bl,i64,smT,smO];try exact rfl) gn (by simp[aB]) (by simp[dE]) ?_;refine zA4 ?_;refine aG (α:={k:Nat // k≤N}) (fun k=>st 33 (lk [(6,.ptr 0 0),(9,.sl N (qc (rz z))),(10,.own 1 0 n 4),(11,i64 k.1)]) (cG [(0,⟨47,[sg (q).num,mg (q).num,sg ((q).den:Int),mg ((q).den:Int)],false⟩),(1,⟨47,qc (aCg n q z k.1),false⟩)]) 2) (fun k=>N-k.1) ⟨0,by omega⟩ ?_ ?_
 ·simp only[i64];exact zL1 [0,9]
 ·rintro⟨k,hk⟩;simp only[st];have hvk:=hvl k;by_cases hlt:k<N
  ·have hkm:z.getD k 0∈z:=by
    have h1:k<z.length:=by omega
    rw[show z.getD k 0=z[k]by simp[List.getD,h1]];exact List.getElem_mem h1
   have hl:=aP3 (hz2 _ hkm);have gm:=eB q ((z.getD k 0:Int):Rat) (by omega) (by omega);have e1:=hrg k;have es:=hvs k (by omega);have hset:=aGf (l:=aCg n q z k) (j:=k) (by omega) (q*((z.getD k 0:Int):Rat));rw[es]at hset
   generalize q*((z.getD k 0:Int):Rat)=S at*;generalize ((z.getD k 0:Int):Rat)=T at*;simp only[aH,i64]at gm;refine tW (nd e1 hset) ?_;refine⟨⟨k+1,by omega⟩,?_,by simp only;omega⟩;simp only[i64];exact zL1 [0,1]
  ·obtain rfl:k=N:=by omega
   rw[hva];have hql:=iO n q z;generalize tA n q z=VQ at*;subst hql;refine zA4 ?_;exact zQ5
theorem aAs (A B:List Rat) (n:Nat) (hA:A.length=n) (hB:B.length=n) (n1:1≤n) (n2:n≤1000) (bA:∀ i,i<n→lq (A.getD i 0)≤100000) (bB:∀ i,i<n→lq (B.getD i 0)≤100000):PGd 184 [.sl n (qc A),.sl n (qc B)] (.sl n (qc (qO A B))):=by
 have hC:(qO A B).length=n:=by rw[aAq (by omega),hA]
 have hg:=fC (a:=A) (b:=B) (by omega);generalize qO A B=C at*;refine aA aV Tryz.func184 rfl (by decide) (nt:=26) rfl (rs:=[.tmp 4]) rfl (aW rfl) ?_;refine zA4 ?_;refine aG (α:={m:Nat // m≤n}) (fun m=>st 26 (lk [(0,.sl n (qc A)),(1,.sl n (qc B)),(5,nV 0 m.1),(6,i64 m.1)]) (cG (nB 0 m.1 (qc (C.take m.1)))) 1) (fun m=>n-m.1) ⟨0,by omega⟩ ?_ ?_
 ·simp only[mZ,nA,i64]
  (refine Sub.plain ?_;simp only[aI,simprocAttr,bl,i64,smT,smO])
  all_goals(first |done |simp)
 ·rintro⟨m,hm⟩;simp only[st];by_cases hlt:m<n
  ·have ga:=lC (A.getD m 0) (B.getD m 0) (by have:=bA m hlt;omega) (by have:=bB m hlt;omega);rw[← hg m]at ga
   have happ:=eP (L:=C) (m:=m) (by omega);have htl:(C.take m).length=m:=by rw[List.length_take];omega
   generalize C.getD m 0=S at*;generalize hx:A.getD m 0=x at*;generalize hy:B.getD m 0=y at*;simp only[aH]at ga;by_cases h0:m=0
   ·simp only[oN h0,oO h0];refine tW (nd hx hy) ?_;refine⟨⟨m+1,by omega⟩,?_,by simp only;omega⟩;subst h0;simp only[dW,dX,i64];have e:C.take 1=[S]:=happ
    (refine fY [16] ?_ ?_ ?_;all_goals(first|(simp only[aB,aI,simprocAttr,bl,i64,smT,smO];done) |(simp only[aI,simprocAttr,bl,i64,smT,smO];try((repeat' apply And.intro);all_goals rfl)) |skip))
    all_goals(first |done |(rw[e,← jK]) |trace_state)
   ·simp only[lY h0,lZ h0];refine tW (nd hx hy) ?_;refine⟨⟨m+1,by omega⟩,?_,by simp only;omega⟩;simp only[dW,dX,i64]
    (refine fY [16] ?_ ?_ ?_;all_goals(first|(simp only[aB,aI,simprocAttr,bl,i64,smT,smO];done) |(simp only[aI,simprocAttr,bl,i64,smT,smO];try((repeat' apply And.intro);all_goals rfl)) |skip))
    all_goals(first |done |(rw[happ,← iI]) |trace_state)
  ·obtain rfl:m=n:=by omega
   have h0:¬m=0:=by omega
   have ht:C.take m=C:=List.take_of_length_le (by omega);rw[ht];simp only[lY h0,lZ h0];subst hC;refine zA4 ?_;exact zQ5
end
section
open Go Go.Lg Go.Num
attribute [local irreducible] lrun lwp exThen exBlk keep goodPost sg mg sS qs sv oc mC
end
section
open Go Go.Lg Go.Num
attribute [local irreducible] lrun lwp exThen exBlk keep goodPost sg mg sS qs sv oc mC dc
end
section
open Go Go.Lg Go.Num
attribute [local irreducible] lrun lwp exThen exBlk keep goodPost sg mg sS qs sv oc mC dc
theorem aTl (q:Rat) (hq:lq q≤1000) (h:q.num≠0):PGd 186 [bG q] (bl false):=by
 have r1:=eN q (by omega)
 have hl:(aC q.num.natAbs).length≠0:=by
  intro e;have h2:=bR.1 (List.eq_nil_of_length_eq_zero e);omega
 have hl2:(aC q.num.natAbs).length≤1000:=by unfold lq len at hq;omega
 simp only[aH]at*;refine aA aV Tryz.func186 rfl (by decide) (nt:=9) rfl (rs:=[.tmp 2]) rfl (aW rfl) ?_
 (repeat(first|apply zO (by decide+kernel)|apply zP (by decide+kernel)|(apply zS;(case h=>constructor<;>decide))|((first|apply cB rfl|apply aS|apply zT rfl (by decide) rfl);(case hs=>(simp(disch:=first|omega|exact kD rfl|exact kX rfl) only[smY,simprocAttr,bl,i64,smT,wJ];exact rfl));first|refine bZ ?_|refine cA ?_|refine zq ?_|(case hg=>assumption))))
 ((first|apply dI|apply dK);case hres=>(simp only[gW];simp(disch:=first|omega|exact kD rfl|exact kX rfl) only[smY,simprocAttr,bl,i64,smT,wJ];exact rfl))
 simp(disch:=first|omega|exact kD rfl|exact kX rfl) only[smY,simprocAttr,bl,i64,smT,wJ]
end
end Go.Proofs.YtaidcaemdkncgaaGreatDoor
namespace Go.Num
section
def fdL:List Int:=[-59,-56,-55,-52,-51,-47,-43,-40,-39,-35,-31,-24,-23,-20,-19,-15,-11,-8,-7,-4,-3,1,5,8,12,13,17,21,24,28,29,33,37,40,41,44,53,56,57,60]
def tzF:Nat→Nat→Nat
 |0,_=>0
 |f+1,n=>bif Nat.beq (Nat.mod n 2) 0 then Nat.succ (tzF f (Nat.div n 2))else 0
def tz (n:Nat):Nat:=tzF 10 n
def dm (d:Int) (m:Nat):Nat:=Int.toNat (Int.emod d (Int.ofNat m))
def pwF (m:Nat):Nat→Nat→Nat→Nat→Nat
 |0,_,_,o=>o
 |f+1,n,x,o=>bif Nat.beq n 0 then o else pwF m f (Nat.div n 2) (Nat.mod (Nat.mul x x) m) (bif Nat.beq (Nat.mod n 2) 1 then Nat.mod (Nat.mul o x) m else o)
def two (d:Int):Int:=bif Nat.beq (dm d 8) 1 ||Nat.beq (dm d 8) 7 then 1 else bif Nat.beq (dm d 8) 3 ||Nat.beq (dm d 8) 5 then -1 else 0
end
section
def aH9 (a:Nat→Rat):Nat→Nat→Nat
 |0,i=>i
 |f+1,i=>if a i=0 then aH9 a f (i+1)else i
def ordN (a:Nat→Rat) (N:Nat):Nat:=aH9 a N 0
theorem aJx (a:Nat→Rat):∀ f i,i≤aH9 a f i∧aH9 a f i≤i+f∧(∀ j,i≤j→j<aH9 a f i→a j=0)∧(aH9 a f i<i+f→a (aH9 a f i)≠0)
 |0,i=>⟨Nat.le_refl _,Nat.le_refl _,fun j h1 h2=>by simp only[aH9]at h2;omega,fun h=>by simp only[aH9]at h;omega⟩
 |f+1,i=>by
  unfold aH9;by_cases h:a i=0
  · rw[if_pos h];obtain⟨h1,h2,h3,h4⟩:=aJx a f (i+1);refine⟨by omega,by omega,fun j a1 a2=> ?_,fun h5=>h4 (by omega)⟩;by_cases e:j=i
    · rw[e];exact h
    · exact h3 j (by omega) a2
  · rw[if_neg h];exact⟨Nat.le_refl _,by omega,fun j a1 a2=>by omega,fun _=>h⟩
theorem gU (a:Nat→Rat) (N:Nat):ordN a N≤N∧(∀ j,j<ordN a N→a j=0)∧(ordN a N<N→a (ordN a N)≠0):=by
 obtain⟨_,h2,h3,h4⟩:=aJx a N 0;exact⟨by unfold ordN;omega,fun j hj=>h3 j (by omega) hj,fun h=>h4 (by unfold ordN at h;omega)⟩
theorem aD9 {a:Nat→Rat}{N o:Nat}(h1:o≤N) (h2:∀ j,j<o→a j=0) (h3:o<N→a o≠0):ordN a N=o:=by
 obtain⟨a1,a2,a3⟩:=gU a N;by_cases h:ordN a N<o
 ·exact absurd (h2 _ h) (a3 (by omega))
 ·by_cases h':o<ordN a N
  ·exact absurd (a2 _ h') (h3 (by omega))
  ·omega
theorem aTm {a:Nat→Rat}{N f:Nat}(hf:f≤N) (h:∀ j,j<f→a j=0):ordN a N=f+ordN (fun i=>a (f+i)) (N-f):=by
 obtain⟨a1,a2,a3⟩:=gU (fun i=>a (f+i)) (N-f);refine aD9 (by omega) (fun j hj=> ?_) (fun h'=>a3 (by omega));by_cases e:j<f
 ·exact h j e
 ·have:=a2 (j-f) (by omega)
  rwa [show f+(j-f)=j by omega]at this
end
end Go.Num
namespace Go.Proofs.YtaidcaemdkncgaaGreatDoor
open Go Go.Lg Go.Num
attribute [local irreducible] lrun lwp exThen exBlk keep goodPost sg mg oc mC bq
theorem aDb (d N:Nat) (hd1:1≤d) (hd:d≤1000) (hN:N≤40):PGd 183 [aO (d:Int),i64 N] (aO ((d:Int)^N)):=by
 have r1:=wG
 have L:∀ e,e≤120→len ((d:Int)^e)≤40:=by
  intro e he;refine bU6 (e:=40) ?_;rw[Int.natAbs_pow,Int.natAbs_natCast];exact Nat.lt_of_le_of_lt (Nat.le_trans (Nat.pow_le_pow_left hd e) (Nat.pow_le_pow_right (by omega) he)) (by decide+kernel)
 have e0:aO (1:Int)=aO ((d:Int)^0):=by rw[Int.pow_zero]
 have e1:aO (d:Int)=aO ((d:Int)^1):=by rw[Int.pow_succ,Int.pow_zero,Int.one_mul]
 have M:∀ e f,e≤120→f≤120→PGd 159 [aO ((d:Int)^e),aO ((d:Int)^f)] (aO ((d:Int)^(e+f))):=by
  intro e f he hf;have:=fU ((d:Int)^e) ((d:Int)^f) (Nat.le_trans (L e he) (by omega)) (Nat.le_trans (L f hf) (by omega))
  rwa [← Int.pow_add]at this
 rw[e1];rw[e0]at r1
 clear e0 e1 L;generalize hP:(fun e:Nat=>(d:Int)^e)=P at*;have hP':∀ e,(d:Int)^e=P e:=fun e=>by rw[← hP]
 simp only[hP']at M r1⊢;clear hP hP';simp only[aY,i64]at*;refine aA aV Tryz.func183 rfl (by decide) (nt:=23) rfl (rs:=[.cell 4 45]) rfl (aW rfl) ?_;refine zA4 ?_;refine aG (α:={p:Nat×Nat×Nat // p.1+p.2.1*p.2.2=N∧p.2.1≤41∧p.2.2≤40}) (fun p=>st 23 (lk [(1,i64 p.1.2.2),(2,.ptr 0 0),(4,.ptr 1 0),(5,.ptr 2 0)]) (cG [(0,⟨45,[sg (P p.1.2.1),mg (P p.1.2.1)],false⟩),(1,⟨45,[bl false,.lit (.slice none 0 0)],false⟩),(2,⟨45,[sg (P p.1.1),mg (P p.1.1)],false⟩)]) 3) (fun p=>p.1.2.2) ⟨(0,1,N),by simp,by simp,hN⟩ ?_ ?_
 ·exact zL1 [0,1,3]
 ·rintro⟨⟨e,f,n⟩,h1,h2,h3⟩;simp only at h1 h2 h3;simp only[st];by_cases hn:n=0
  ·subst hn;obtain rfl:e=N:=by simpa using h1
   refine zA4 ?_;exact zQ5
  ·have hfn:f≤f*n:=Nat.le_mul_of_pos_right f (by omega);have m1:=M e f (by omega) (by omega);have m2:=M f f (by omega) (by omega);have hlt:n / 2<n:=Nat.div_lt_self (by omega) (by omega);by_cases ho:n % 2=1
   ·by_cases hz:n / 2=0
    ·obtain rfl:n=1:=by omega
     refine zA4 ?_;refine⟨⟨(e+f,f,0),by simp only;omega,by simp only;omega,by simp only;omega⟩,?_,by simp only;omega⟩;exact zL1 [0,1,2]
    ·have hk:f*n=f+(f+f)*(n / 2):=by
      conv=>lhs;rw[show n=1+2*(n / 2)by omega]
      rw[Nat.mul_add,Nat.mul_one,Nat.add_mul,← Nat.mul_assoc,Nat.mul_comm f 2,Nat.mul_assoc,Nat.two_mul]
     have h4:f+f≤(f+f)*(n / 2):=Nat.le_mul_of_pos_right _ (by omega);refine zA4 ?_;refine⟨⟨(e+f,f+f,n / 2),by simp only;omega,by simp only;omega,by simp only;omega⟩,?_,hlt⟩;exact zL1 [0,1,2]
   ·have hk:f*n=(f+f)*(n / 2):=by
     conv=>lhs;rw[show n=2*(n / 2)by omega]
     rw[Nat.add_mul,← Nat.mul_assoc,Nat.mul_comm f 2,Nat.mul_assoc,Nat.two_mul]
    have hz:n / 2≠0:=by omega
    have h4:f+f≤(f+f)*(n / 2):=Nat.le_mul_of_pos_right _ (by omega);refine zA4 ?_;refine⟨⟨(e,f+f,n / 2),by simp only;omega,by simp only;omega,by simp only;omega⟩,?_,hlt⟩;exact zL1 [0,1,2]
end Go.Proofs.YtaidcaemdkncgaaGreatDoor
namespace Go.Num
theorem aP4 {n j:Nat}(hj:j≤n):((ch n j:Int):Rat)*Rat.divInt ((n:Int)-j) ((j:Int)+1)=((ch n (j+1):Int):Rat):=by
 have h:=aF0 n j
 have h2:(ch n j:Int)*((n:Int)-j)=(ch n (j+1):Int)*((j:Int)+1):=by
  rw[show(n:Int)-j=((n-j:Nat):Int)by omega,show(j:Int)+1=((j+1:Nat):Int)by omega,← Int.natCast_mul,← Int.natCast_mul,h]
 have hz:(((j:Int)+1:Int):Rat)≠0:=by
  intro e;have:=Rat.intCast_inj.1 (e.trans Rat.intCast_zero.symm);omega
 rw[Rat.divInt_eq_div,Rat.div_def,← Rat.mul_assoc,← Rat.intCast_mul,h2,Rat.intCast_mul,Rat.mul_assoc,Rat.mul_inv_cancel _ hz,Rat.mul_one]
theorem cLn (a:Rat):(-a)⁻¹= -a⁻¹:=by
 rw[Rat.inv_def,Rat.inv_def,Rat.neg_num,Rat.neg_den,Rat.neg_divInt,Rat.divInt_neg']
theorem aP5 {s:Rat}{m:Nat}:s*Rat.divInt (-1) ((m:Int)+1)=s / ((-(m:Int)-1:Int):Rat):=by
 rw[show(-(m:Int)-1:Int)= -((m:Int)+1)by omega,Rat.divInt_eq_div,Rat.div_def,Rat.div_def,Rat.intCast_neg,Rat.intCast_neg,cLn,Rat.mul_neg,Rat.neg_mul,Rat.mul_neg];congr 2;show(1:Rat)*_=_;rw[Rat.one_mul]
theorem aZ7:((List.range 41).all fun k=>(xB k).reverse==xB k)=true:=by decide+kernel
theorem bL3 {k j:Nat}(hk:k≤40) (hj:j≤k):ch k (k-j)=ch k j:=by
 have h:=List.all_eq_true.1 aZ7 k (List.mem_range.2 (by omega));have h1:(xB k).reverse=xB k:=by simpa using h
 have g1:=iH k j;have g2:=iH k (k-j);rw[if_pos hj]at g1
 rw[if_pos (by omega)]at g2
 have hl:(xB k).length=k+1:=vE k
 have h3:(xB k).reverse[j]? =(xB k)[k-j]? :=by
  rw[List.getElem?_reverse (by omega)];congr 1;omega
 rw[h1,g1,g2]at h3
 exact(Option.some.inj h3).symm
def hrB (k j:Nat) (x:Rat):Rat:=nC ((yT k).drop (k+1-j)) x
theorem aG4 (k:Nat):(yT k).length=k+1:=by simp[yT]
theorem bGc (k:Nat) (x:Rat):hrB k 0 x=0:=by
 unfold hrB;rw[List.drop_of_length_le (by rw[aG4];omega)];rfl
theorem bL4 (k:Nat) (x:Rat):hrB k (k+1) x=nC (yT k) x:=by
 unfold hrB;rw[Nat.sub_self,List.drop_zero]
theorem bGd {k j:Nat}(hk:k≤40) (hj:j≤k) (x:Rat):hrB k (j+1) x=hrB k j x*x+((ch k j:Int):Rat)*bq j:=by
 unfold hrB;have hl:=aG4 k;rw[show k+1-(j+1)=k-j by omega,List.drop_eq_getElem_cons (by omega:k-j<(yT k).length),show k-j+1=k+1-j by omega]
 have:(yT k)[k-j]'(by omega)=((ch k j:Int):Rat)*bq j:=by
  simp only[yT,List.getElem_map,List.getElem_range];rw[bL3 hk hj,show k-(k-j)=j by omega]
 rw[this];rfl
theorem bWf {A k j:Nat}{x:Rat}(hx:lq x≤A) (hA:A≤1000) (hk:k≤40):lq (hrB k j x)≤100000:=aLw hx hA (by omega)
end Go.Num
namespace Go.Proofs.YtaidcaemdkncgaaGreatDoor
section
open Go Go.Lg Go.Num
attribute [local irreducible] lrun lwp exThen exBlk keep goodPost sg mg bq yT nC tS aPg mI ch hrB
theorem bN7 {n j:Nat}(hn:n≤60):lq ((ch n j:Int):Rat)≤10:=by
 have c1:=aF1 (show n≤100 by omega) j;rw[sK];omega
theorem aP6 (n:Nat) (hn:n≤40):PGd 181 [i64 n] (encF (bn (n+1))):=by
 have h1:=fI 1 (by omega);have h0:=fI 0 (by omega);rw[bE,jP];rw[show((1:Int):Rat)=bq 0 by rw[bq0];rfl]at h1
 have hb1:bn 1=[bq 0]:=rfl;rw[aH,i64]at*
 refine aA aV Tryz.func181 rfl (by decide) (nt:=48) rfl (rs:=[.tmp 2]) rfl (aW rfl) ?_;refine dP ?_;refine aG (α:={m:Nat // 0<m∧m≤n+1}) (fun m=>st 48 (lk [(0,i64 n),(2,nilL),(3,.own 0 0 m.1 4),(4,i64 m.1)]) (cG [(0,⟨47,qc (bn m.1),false⟩)]) 1) (fun m=>n+1-m.1) ⟨1,by omega,by omega⟩ ?_ ?_
 ·(refine Sub.heap1 2 ?_ (by simp only[aI,simprocAttr,bl,i64,smT];exact rfl) ?_ ?_;all_goals(first |exact aE _ |with_reducible rfl |(simp only[aI,simprocAttr,bl,i64,smT])|skip))
  rw[hb1,← jK]
 ·rintro⟨m,hm0,hm⟩;simp only[st];have hl:=jP m;by_cases hlt:m≤n
  ·have hs0:=aI7 (m+1);rw[show((0:Int):Rat)=mI (m+1) 0 by rw[hs0];rfl]at h0
   rw[show bq 0=((ch (m+1) 0:Int):Rat)by rw[bq0,sP];rfl]at h1
   refine dP ?_;refine aG (α:={k:Nat // k≤m}) (fun k=>st 48 (lk [(0,i64 n),(2,nilL),(3,.own 0 0 m 4),(4,i64 m),(5,.ptr 1 0),(6,.ptr 2 0),(7,i64 k.1)]) (cG [(0,⟨47,qc (bn m),false⟩),(1,⟨47,[sg (mI (m+1) k.1).num,mg (mI (m+1) k.1).num,sg ((mI (m+1) k.1).den:Int),mg ((mI (m+1) k.1).den:Int)],false⟩),(2,⟨47,[sg (((ch (m+1) k.1:Int):Rat)).num,mg (((ch (m+1) k.1:Int):Rat)).num,sg ((((ch (m+1) k.1:Int):Rat)).den:Int),mg ((((ch (m+1) k.1:Int):Rat)).den:Int)],false⟩)]) 3) (fun k=>m-k.1) ⟨0,by omega⟩ ?_ ?_
   ·exact zL0 [0,6,7]
   ·rintro⟨k,hk⟩;simp only[st];by_cases hkl:k<m
    ·have c1:=bN7 (n:=m+1) (j:=k) (by omega);have c2:=aD2 (n:=m+1) (k:=k) (by omega) (by omega);have c3:=aOw k;have c4:=jZ ((ch (m+1) k:Int):Rat) (bq k)
     have c5:lq (Rat.divInt (((m+1:Nat):Int)-(k:Int)) ((k:Int)+1))≤3:=by
      obtain⟨a1,a2⟩:=eQ (n:=((m+1:Nat):Int)-(k:Int)) (d:=(k:Int)+1) (by omega);have a3:len (((m+1:Nat):Int)-(k:Int))≤1:=bH (e:=1) (by omega);have a4:len ((k:Int)+1)≤1:=bH (e:=1) (by omega);unfold lq;omega
     have g0:=rG (((m+1:Nat):Int)-(k:Int)) ((k:Int)+1) (by omega) (by omega);have g1:=eB ((ch (m+1) k:Int):Rat) (Rat.divInt (((m+1:Nat):Int)-(k:Int)) ((k:Int)+1)) (by omega) (by omega);rw[aP4 (n:=m+1) (by omega)]at g1
     have g2:=eB ((ch (m+1) k:Int):Rat) (bq k) (by omega) (by omega);have g3:=lC (mI (m+1) k) (((ch (m+1) k:Int):Rat)*bq k) (by omega) (by omega);rw[← aI8]at g3
     have e2:(bn m).getD k 0=bq k:=aD1 hkl;have e3:((m+1:Nat):Int)=(m:Int)+1:=by omega
     rw[e3]at g0
     clear c1 c2 c3 c4 c5;generalize ((ch (m+1) k:Int):Rat)*bq k=v at*;rw[e3]at g1
     generalize Rat.divInt ((m:Int)+1-(k:Int)) ((k:Int)+1)=dv at*;simp only[aH,i64]at g0 g1 g2 g3;refine cZ e2 ?_;refine⟨⟨k+1,by omega⟩,?_,by simp only;omega⟩;exact zL0 [0,1,2]
    ·obtain rfl:k=m:=by omega
     have c2:=aD2 (n:=k+1) (k:=k) (by omega) (by omega);have g0:=rG (-1) ((k:Int)+1) (by omega) (by omega)
     have c5:lq (Rat.divInt (-1) ((k:Int)+1))≤3:=by
      obtain⟨a1,a2⟩:=eQ (n:= -1) (d:=(k:Int)+1) (by omega);have a3:len (-1)≤1:=bH (e:=1) (by omega);have a4:len ((k:Int)+1)≤1:=bH (e:=1) (by omega);unfold lq;omega
     have g2:=eB (mI (k+1) k) (Rat.divInt (-1) ((k:Int)+1)) (by omega) (by omega);rw[aP5,aU9 hm0 (by omega)]at g2
     generalize Rat.divInt (-1) ((k:Int)+1)=dv at*;simp only[aH,i64]at g0 g2;have happ:=aU8 k;refine dP ?_;refine⟨⟨k+1,by omega,by omega⟩,?_,by simp only;omega⟩
     (refine Sub.heap1 13 ?_ (by simp only[aI,simprocAttr,bl,i64,smT];exact rfl) ?_ ?_;all_goals(first |exact aE _ |with_reducible rfl |(simp only[aI,simprocAttr,bl,i64,smT])|skip))
     rw[happ,← iI]
  ·obtain rfl:m=n+1:=by omega
   refine dP ?_;exact lU
end
section
open Go Go.Lg Go.Num
attribute [local irreducible] lrun lwp exThen exBlk keep goodPost sg mg bq yT nC tS aPg mI ch hrB
theorem aL9 (k:Nat) (hk:k≤40) (x:Rat) (hx:lq x≤1000):PGd 182 [i64 k,.sl (k+1) (qc (bn (k+1))),bG x] (bG (nC (yT k) x)):=by
 have hb:=jP (k+1);have h1:=fI 1 (by omega);have h0:=fI 0 (by omega);rw[show((0:Int):Rat)=hrB k 0 x by rw[bGc];rfl]at h0
 rw[show((1:Int):Rat)=((ch k 0:Int):Rat)by rw[sP];rfl]at h1
 rw[← bL4]
 have step:∀ j,j≤k→PGd 150 [bG (hrB k j x),bG x] (bG (hrB k j x*x))∧
   PGd 150 [bG ((ch k j:Int):Rat),bG (bq j)] (bG (((ch k j:Int):Rat)*bq j))∧
   PGd 69 [bG (hrB k j x*x),bG (((ch k j:Int):Rat)*bq j)] (bG (hrB k (j+1) x))∧
   PGd 53 [i64 ((k:Int)-j),i64 ((j:Int)+1)] (bG (Rat.divInt ((k:Int)-j) ((j:Int)+1)))∧
   PGd 150 [bG ((ch k j:Int):Rat),bG (Rat.divInt ((k:Int)-j) ((j:Int)+1))] (bG ((ch k (j+1):Int):Rat)):=by
  intro j hj;have c1:=bN7 (n:=k) (j:=j) (by omega);have c2:=bWf (k:=k) (j:=j) hx (by omega) hk;have c3:=aOw j;have c4:=jZ ((ch k j:Int):Rat) (bq j);have c6:=jZ (hrB k j x) x
  have c5:lq (Rat.divInt ((k:Int)-(j:Int)) ((j:Int)+1))≤3:=by
   obtain⟨a1,a2⟩:=eQ (n:=(k:Int)-(j:Int)) (d:=(j:Int)+1) (by omega);have a3:len ((k:Int)-(j:Int))≤1:=bH (e:=1) (by omega);have a4:len ((j:Int)+1)≤1:=bH (e:=1) (by omega);unfold lq;omega
  have g1:=eB ((ch k j:Int):Rat) (Rat.divInt ((k:Int)-(j:Int)) ((j:Int)+1)) (by omega) (by omega);rw[aP4 (n:=k) hj]at g1
  refine⟨eB _ _ (by omega) (by omega),eB _ _ (by omega) (by omega),?_,rG _ _ (by omega) (by omega),g1⟩;rw[bGd hk hj];exact lC _ _ (by omega) (by omega)
 simp only[aH,i64]at h0 h1 step⊢;refine aA aV Tryz.func182 rfl (by decide) (nt:=36) rfl (rs:=[.cell 6 47]) rfl (aW rfl) ?_;refine dP ?_;refine aG (α:={j:Nat // j≤k+1}) (fun j=>st 36 (lk [(0,i64 k),(1,.sl (k+1) (qc (bn (k+1)))),(5,.ptr 0 0),(6,.ptr 1 0),(7,.ptr 2 0),(8,.ptr 3 0),(9,i64 j.1)]) (cG [(0,⟨47,[sg (x).num,mg (x).num,sg ((x).den:Int),mg ((x).den:Int)],false⟩),(1,⟨47,[bl false,.lit (.slice none 0 0),bl false,.lit (.slice none 0 0)],false⟩),(2,⟨47,[sg (hrB k j.1 x).num,mg (hrB k j.1 x).num,sg ((hrB k j.1 x).den:Int),mg ((hrB k j.1 x).den:Int)],false⟩),(3,⟨47,[sg (((ch k j.1:Int):Rat)).num,mg (((ch k j.1:Int):Rat)).num,sg ((((ch k j.1:Int):Rat)).den:Int),mg ((((ch k j.1:Int):Rat)).den:Int)],false⟩)]) 4) (fun j=>k+1-j.1) ⟨0,by omega⟩ ?_ ?_
 ·exact zL0 [0,1,4,5]
 ·rintro⟨j,hj⟩;simp only[st];by_cases hlt:j≤k
  ·obtain⟨w1,w2,w3,w4,w5⟩:=step j hlt;have e2:(bn (k+1)).getD j 0=bq j:=aD1 (by omega);generalize hrB k j x*x=v at*;generalize ((ch k j:Int):Rat)*bq j=u at*;generalize Rat.divInt ((k:Int)-j) ((j:Int)+1)=dv at*;refine cZ e2 ?_;refine⟨⟨j+1,by omega⟩,?_,by simp only;omega⟩;exact zL0 [0,1,2,3]
  ·obtain rfl:j=k+1:=by omega
   refine dP ?_;exact lU
end
section
open Go Go.Lg Go.Num
structure ZtD (m n:Nat):Prop where
 m1:1≤m
 m2:m≤42
 n1:1≤n
 n2:n≤12
 rz:∀ e,e<m→PGd 258 [i64 m,i64 e] (encF (rz (zI m e)))
 pz:∀ e,e<m→PGd 84 [i64 m,i64 e] (.tup [encF (Go.Proofs.YtaidcaemdkncgaaGreatDoor.rz (zI m e)),i64 0])
 zl:∀ e,e<m→(zI m e).length≤n
 zs:∀ e,e<m→∀ z∈zI m e,z.natAbs≤10
def rR (ix1 ix2:Nat→Option Nat) (m o1 o2 l D:Nat):Option Nat:=if l % (D+1)=0 then(match ix1 (l / (D+1)-1),ix2 D with
 |some i,some j=>some ((i*(m / o1)+j*(m / o2)) % m)
 |_,_=>none)else none
def kM (k D:Nat):Int:=((D+1:Nat):Int)^(k-1)
def wV (te:Nat→Option Nat) (k m n:Nat):Nat→List Rat
 |0=>List.replicate n 0
 |D+1=>match te D with
  |none=>wV te k m n D
  |some e=>qO (wV te k m n D) (tA n ((kM k D:Int):Rat) (zI m e))
theorem tB (te:Nat→Option Nat) (k m n:Nat):∀ D,(wV te k m n D).length=n
 |0=>by simp[wV]
 |D+1=>by
  unfold wV
  cases te D with
  |none=>exact tB te k m n D
  |some e=>simp only;rw[aAq (by rw[tB te k m n D,iO]),tB te k m n D]
theorem aEa {k D:Nat}(hk:k≤40) (hD:D<100):len (kM k D)≤10:=by
 have:=aPf (n:=D+1) (k:=k-1) (by omega) (by omega)
 have h2:(kM k D).natAbs≤2^273:=by
  unfold kM;rw[Int.natAbs_pow,Int.natAbs_natCast];have h1:(D+1)^(k-1)≤128^(k-1):=Nat.pow_le_pow_left (by omega) _;have h3:128^(k-1)≤128^39:=Nat.pow_le_pow_right (by omega) (by omega);have h4:(128:Nat)^39=2^273:=by decide+kernel
  omega
 exact Go.Num.len_two (a:=273) h2 (by omega)
theorem aWt {k D n i:Nat}{z:List Int}(hk:k≤40) (hD:D<100) (hz:∀ x∈z,x.natAbs≤10) (hi:i<n):mE 1 12 ((tA n ((kM k D:Int):Rat) z).getD i 0):=by
 rw[oW hi,← Rat.intCast_mul];refine⟨_,aG3 _,?_⟩;have h1:=cJ (kM k D) (z.getD i 0);have h2:=aEa hk hD
 have h3:len (z.getD i 0)≤1:=by
  rcases Nat.lt_or_ge i z.length with h |h
  ·have hm:z.getD i 0∈z:=by
    rw[show z.getD i 0=z[i]by simp[List.getD,h]];exact List.getElem_mem h
   have:=hz _ hm;exact bH (a:=z.getD i 0) (e:=1) (by omega)
  ·have:z.getD i 0=0:=by simp[List.getD,h]
   rw[this];decide+kernel
 omega
theorem aEb {te:Nat→Option Nat}{k m n:Nat}(hk:k≤40) (hz:∀ e,e<m→∀ z∈zI m e,z.natAbs≤10) (hte:∀ D e,te D=some e→e<m):∀ D,D≤100→∀ i,i<n→mE 1 (13+D) ((wV te k m n D).getD i 0)
 |0,_,i,hi=>by
  have:(wV te k m n 0).getD i 0=0:=by simp[wV,List.getD,hi]
  rw[this]
  exact aAj _ _
 |D+1,hD,i,hi=>by
  unfold wV;have ih:=aEb (te:=te) hk hz hte D (by omega) i hi
  cases he:te D with
  |none=>exact ih.mono (by omega)
  |some e=>
   simp only;rw[fC (by rw[tB,iO])];exact ih.add ((aWt hk (by omega) (hz e (hte D e he)) hi).mono (by omega))
theorem aTn {te:Nat→Option Nat}{k m n:Nat}(hk:k≤40) (hz:∀ e,e<m→∀ z∈zI m e,z.natAbs≤10) (hte:∀ D e,te D=some e→e<m) {D:Nat}(hD:D≤100) {i:Nat}(hi:i<n):lq ((wV te k m n D).getD i 0)≤300:=by
 have:=(aEb hk hz hte D hD i hi).lq (K:=1) (by decide) (by decide+kernel);omega
theorem aG5 {ix1 ix2:Nat→Option Nat}{m o1 o2 l D e:Nat}(hm:1≤m) (h:rR ix1 ix2 m o1 o2 l D=some e):e<m:=by
 unfold rR at h;split at h
 ·split at h
  ·injection h with h;rw[← h];exact Nat.mod_lt _ (by omega)
  ·cases h
 ·cases h
theorem yQ (n:Nat) (h1:1≤n) (hn:n≤100000):PGd 66 [i64 n] (.sl n (qc (List.replicate n 0))):=
 aCw (aJu n h1 hn) (by simp[aB,i64]) (by rw[gV];simp) (lE (Q:=fun c=>fK c=true) sQ sR _)
theorem aWu {k D:Nat}(hk:k≤40) (hD:D<100):lq ((kM k D:Int):Rat)≤20:=by
 rw[sK];have:=aEa hk hD;omega
attribute [local irreducible] lrun lwp exThen exBlk keep goodPost sg mg oc op ec wV tA zI rz kM
theorem aMa {n1 o1 c1 n2 o2 c2:Nat}{v1 v2:List Int}{b1 b2:Bool}{ix1 ix2:Nat→Option Nat}(h1:SeD n1 v1 o1 c1 b1 ix1) (h2:SeD n2 v2 o2 c2 b2 ix2) {m n:Nat}(hZ:ZtD m n) (hm1:m % o1=0) (hm2:m % o2=0) {k l:Nat}(k1:2≤k) (k2:k≤40) (l1:1≤l) (l2:l≤20) (T:Int):
  PGd 96 [i64 k,.agg [i64 n1,.sl v1.length (ec v1),i64 n2,.sl v2.length (ec v2),i64 T],i64 m,i64 n,i64 l] (.sl n (qc (wV (rR ix1 ix2 m o1 o2 l) k m n l))):=by
 obtain⟨m1,m2,nn1,nn2,hrz,_,hzl,hzs⟩:=hZ;have gz:=yQ n nn1 (by omega);have hte:=fun D e h=>aG5 (ix1:=ix1) (ix2:=ix2) (o1:=o1) (o2:=o2) (l:=l) (D:=D) (e:=e) m1 h
 have hal:=tB (rR ix1 ix2 m o1 o2 l) k m n;have hlq:=fun D (hD:D≤100) i (hi:i<n)=>aTn (te:=rR ix1 ix2 m o1 o2 l) (k:=k) k2 hzs hte hD hi
 have hac0:wV (rR ix1 ix2 m o1 o2 l) k m n 0=List.replicate n 0:=by unfold wV;rfl
 rw[← hac0]at gz
 have ek:((k:Int)-1)=((k-1:Nat):Int):=by omega
 simp only[i64]at gz⊢;refine aA aV Tryz.func96 rfl (by decide) (nt:=61) rfl (rs:=[.tmp 10]) rfl (aW rfl) ?_;refine zA4 ?_;refine aG (α:={D:Nat // D≤l}) (fun D=>st 61 (lk [(0,i64 k),(2,i64 m),(3,i64 n),(4,i64 l),(6,.ptr 0 0),(11,.sl n (qc (wV (rR ix1 ix2 m o1 o2 l) k m n D.1))),(12,i64 ((D.1:Int)+1))]) (cG [(0,⟨58,[i64 n1,.sl v1.length (ec v1),i64 n2,.sl v2.length (ec v2),i64 T],false⟩)]) 1) (fun D=>l-D.1) ⟨0,by omega⟩ ?_ ?_
 ·simp only[i64];exact zL1 [0]
 ·rintro⟨D,hD⟩;simp only[st];by_cases hlt:D<l
  ·have hd0:¬((D:Int)+1)=0:=by omega
   have qd:((l:Int)) % ((D:Int)+1)=((l % (D+1):Nat):Int):=rfl;have qq:((l:Int)) / ((D:Int)+1)=((l / (D+1):Nat):Int):=rfl;have hmod:l % (D+1)≤l:=Nat.mod_le _ _;by_cases hdv:l % (D+1)=0
   ·have hq1:1≤l / (D+1):=Nat.div_pos (by omega) (by omega);have hq2:l / (D+1)≤l:=Nat.div_le_self _ _;obtain⟨x,hx⟩:∃ x,l / (D+1)=x+1:=⟨l / (D+1)-1,by omega⟩
    have hte2:rR ix1 ix2 m o1 o2 l D=(match ix1 x,ix2 D with
     |some i,some j=>some ((i*(m / o1)+j*(m / o2)) % m)
     |_,_=>none):=by
     unfold rR;rw[if_pos hdv,hx,Nat.add_sub_cancel]
    have qq':((l:Int)) / ((D:Int)+1)=(x:Int)+1:=by rw[qq,hx];rfl
    rw[hdv]at qd
    cases hi1:ix1 x with
    |none=>
     have g1:=(iW h1 (m:=m) (show x<60 by omega) hi1).2
     have hs:wV (rR ix1 ix2 m o1 o2 l) k m n (D+1)=wV (rR ix1 ix2 m o1 o2 l) k m n D:=by
       conv=>lhs;unfold wV
       rw[hte2,hi1]
     cases hi2:ix2 D with
     |none=>
      have g2:=(iW h2 (m:=m) (show D<60 by omega) hi2).2;simp only[i64]at g1 g2;refine kK (nd qd qq') ?_;refine⟨⟨D+1,by omega⟩,?_,by simp only;omega⟩;simp only[i64];rw[hs]
      exact zL2 [0]
     |some j=>
      obtain⟨_,g2,hjm⟩:=fV h2 (show D<60 by omega) hi2 hm2 m1 (by omega);generalize j*(m / o2)=J at*;simp only[i64]at g1 g2;refine kK (nd qd qq') ?_;refine⟨⟨D+1,by omega⟩,?_,by simp only;omega⟩;simp only[i64];rw[hs]
      exact zL2 [0]
    |some i=>
     obtain⟨_,g1,him⟩:=fV h1 (show x<60 by omega) hi1 hm1 m1 (by omega)
     cases hi2:ix2 D with
     |none=>
      have g2:=(iW h2 (m:=m) (show D<60 by omega) hi2).2
      have hs:wV (rR ix1 ix2 m o1 o2 l) k m n (D+1)=wV (rR ix1 ix2 m o1 o2 l) k m n D:=by
        conv=>lhs;unfold wV
        rw[hte2,hi1,hi2]
      generalize i*(m / o1)=I at*;simp only[i64]at g1 g2;refine kK (nd qd qq') ?_;refine⟨⟨D+1,by omega⟩,?_,by simp only;omega⟩;simp only[i64];rw[hs]
      exact zL2 [0]
     |some j=>
      obtain⟨_,g2,hjm⟩:=fV h2 (show D<60 by omega) hi2 hm2 m1 (by omega);obtain⟨e,he⟩:∃ e,(i*(m / o1)+j*(m / o2)) % m=e:=⟨_,rfl⟩;have hem:e<m:=by rw[← he];exact Nat.mod_lt _ (by omega)
      have hs:wV (rR ix1 ix2 m o1 o2 l) k m n (D+1)=qO (wV (rR ix1 ix2 m o1 o2 l) k m n D) (tA n ((kM k D:Int):Rat) (zI m e)):=by
        conv=>lhs;unfold wV
        rw[hte2,hi1,hi2];simp only[he]
      have qe:((i*(m / o1):Nat):Int)+((j*(m / o2):Nat):Int)=((i*(m / o1)+j*(m / o2):Nat):Int):=rfl
      have qm:(((i*(m / o1):Nat):Int)+((j*(m / o2):Nat):Int)) % (m:Int)=(e:Int):=by
        rw[← he];rfl
      have w1:=lD ((D:Int)+1) (by omega);have w2:=aDb (D+1) (k-1) (by omega) (by omega) (by omega);have epw:((D+1:Nat):Int)^(k-1)=kM k D:=by unfold kM;rfl
      rw[epw]at w2
      have lpw:=aEa (k:=k) (D:=D) k2 (by omega);have w3:=aC4 (kM k D) (by omega);have w4:=aDa (q:=((kM k D:Int):Rat)) (hrz e hem) (hzl e hem) (hzs e hem) nn1 (by omega) (by have:=aWu (k:=k) (D:=D) k2 (by omega);omega) (by omega) (by omega);have hvl:=iO n ((kM k D:Int):Rat) (zI m e)
      have w5:=aAs (wV (rR ix1 ix2 m o1 o2 l) k m n D) (tA n ((kM k D:Int):Rat) (zI m e)) n (hal D) hvl nn1 (by omega) (fun i hi=>by have:=hlq D (by omega) i hi;omega) (fun i hi=>by
        have:=(aWt (k:=k) (D:=D) k2 (by omega) (hzs e hem) hi).lq (K:=1) (by decide) (by decide+kernel)
        omega)
      rw[← hs]at w5
      have eD:((D+1:Nat):Int)=(D:Int)+1:=by omega
      rw[eD]at w2
      generalize hA1:wV (rR ix1 ix2 m o1 o2 l) k m n (D+1)=A1 at*;generalize wV (rR ix1 ix2 m o1 o2 l) k m n D=A0 at*;generalize tA n ((kM k D:Int):Rat) (zI m e)=V at*;generalize hKQ:((kM k D:Int):Rat)=KQ at*;generalize kM k D=KZ at*;generalize i*(m / o1)=I at*;generalize j*(m / o2)=J at*;simp only[aY,aH,i64]at g1 g2 w1 w2 w3 w4 w5;refine kK (nd qd (nd qq' (nd qe (nd he ek)))) ?_;refine⟨⟨D+1,by omega⟩,?_,by simp only;omega⟩;simp only[i64];rw[hA1];exact zL2 [0]
   ·have hs:wV (rR ix1 ix2 m o1 o2 l) k m n (D+1)=wV (rR ix1 ix2 m o1 o2 l) k m n D:=by
     conv=>lhs;unfold wV
     unfold rR;rw[if_neg hdv]
    generalize hR:l % (D+1)=R at*;refine kK qd ?_;refine⟨⟨D+1,by omega⟩,?_,by simp only;omega⟩;simp only[i64];rw[hs];exact zL2 [0]
  ·obtain rfl:D=l:=by omega
   refine zA8 ?_;exact zQ9
end
end Go.Proofs.YtaidcaemdkncgaaGreatDoor
