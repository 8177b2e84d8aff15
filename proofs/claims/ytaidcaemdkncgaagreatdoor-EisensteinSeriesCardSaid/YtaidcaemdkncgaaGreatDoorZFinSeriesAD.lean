/- Contracts of functions of the program, and what proves them (texts: EA EB0 EB1 NumPar BCq EB2 EB3 EC1 X1 X3 X4 NumK NumT R1e NumB K6e K7e EC2 EC3 Lg27 S1 S2 R3e S3). -/
import Derived.Test.YtaidcaemdkncgaaGreatDoorZAE
import Derived.Test.YtaidcaemdkncgaaGreatDoorZFinSeriesAA
import Derived.Test.YtaidcaemdkncgaaGreatDoorZFinSeriesAB
import Derived.Test.YtaidcaemdkncgaaGreatDoorZFinSeriesAC
set_option linter.all false
set_option maxRecDepth 100000
set_option maxHeartbeats 8000000
namespace Go.Proofs.YtaidcaemdkncgaaGreatDoor
section
open Go Go.Lg Go.Num
def vlD (o f:Nat) (w:List Nat) (j:Nat):Bool:=match aFc [chV f w,.lit (.int .i64 (.ofNat (Nat.succ j)))]with
 |some (.tup [.agg [.lit (.bool z),.lit (.int .i64 (.ofNat _)),.lit (.int .i64 (.ofNat d))],.lit (.int .i64 (.ofNat _))])=>z ||Nat.beq (o % d) 0
 |_=>false
noncomputable def bOg (n:Nat) (v:List Nat):Bool:=match evo aW3 23 [chV n v],aH2 [chV n v,.lit (.int .i64 (.negSucc 0))]with
 |some (.tup [.lit (.bool b),.lit (.int .i64 (.ofNat e))]),some (.agg [.lit (.bool z),.lit (.int .i64 (.ofNat a)),.lit (.int .i64 (.ofNat d))])=>Nat.beq e 0 && (bif z then false else true) && (bif b then Nat.beq a 0 && Nat.beq d 1 else Nat.beq a 1 && Nat.beq d 2)
 |_,_=>false
def isP (x:Option LV) (f:Nat) (w:List Nat):Bool:=match x with
 |some (.tup [y,.lit (.int .i64 (.ofNat e))])=>Nat.beq e 0 && bVy (some y) f w
 |_=>false
theorem bV0 {x:Option LV}{f:Nat}{w:List Nat}(h:isP x f w=true):x=some (.tup [.agg [.lit (.int .i64 (f:Int)),.sl (nI w).length (ec (nI w))],.lit (.int .i64 0)]):=by
 unfold isP at h
 split at h
 ·rename_i y e
  rw[Bool.and_eq_true]at h
  have e2:=Nat.eq_of_beq_eq_true h.1
  subst e2
  have:=bI1 h.2
  injection this with this
  rw[this]
  rfl
 ·cases h
noncomputable def bOh (n:Nat) (v:List Nat):Bool:=match evo aW3 24 [chV n v]with
 |some (.tup [.lit (.int .i64 (.ofNat c)),.lit (.int .i64 (.ofNat e))])=>Nat.beq e 0 && Nat.ble c 60 && isI (evo aW3 64 [chV n v]) c && (!(Nat.beq c n) ||isP (evo aW3 57 [chV n v]) n v)
 |_=>false
noncomputable def bZ (n:Nat) (v:List Nat):Bool:=bCl n v && bOh n v && bOg n v && (eB (ordN n v) fun o=>oL.contains o && (List.range 60).all fun j=>vlB o n v j && vlD o n v j)
structure SeD (n:Nat) (v:List Int) (o c:Nat) (b:Bool) (ix:Nat→Option Nat):Prop where
 n1:1≤n
 n2:n≤60
 lw:v.length≤10
 o1:1≤o
 o2:o≤60
 c2:c≤60
 oM:o∈oL
 pr:c=n→PureGood Tryz.prog 57 [.agg [i64 n,.sl v.length (ec v)]] (.tup [.agg [i64 n,.sl v.length (ec v)],i64 0])
 chP:PureGood Tryz.prog 76 [.agg [i64 n,.sl v.length (ec v)]] (i64 0)
 chR:PureGood Tryz.prog 61 [.agg [i64 n,.sl v.length (ec v)]] (i64 0)
 orP:PureGood Tryz.prog 56 [.agg [i64 n,.sl v.length (ec v)]] (.tup [i64 o,i64 0])
 orR:PureGood Tryz.prog 62 [.agg [i64 n,.sl v.length (ec v)]] (i64 o)
 coP:PureGood Tryz.prog 24 [.agg [i64 n,.sl v.length (ec v)]] (.tup [i64 c,i64 0])
 coR:PureGood Tryz.prog 64 [.agg [i64 n,.sl v.length (ec v)]] (i64 c)
 evP:PureGood Tryz.prog 23 [.agg [i64 n,.sl v.length (ec v)]] (.tup [bl b,i64 0])
 m1R:PureGood Tryz.prog 68 [.agg [i64 n,.sl v.length (ec v)],i64 (-1)] (.agg [bl false,i64 (if b then 0 else 1),i64 (if b then 1 else 2)])
 no:∀ j,j<60→ix j=none→(∃ a d:Int,PureGood Tryz.prog 44 [.agg [i64 n,.sl v.length (ec v)],i64 ((j:Int)+1)] (.tup [.agg [bl true,i64 a,i64 d],i64 0]))∧∃ a d:Int,PureGood Tryz.prog 68 [.agg [i64 n,.sl v.length (ec v)],i64 ((j:Int)+1)] (.agg [bl true,i64 a,i64 d])
 yes:∀ j i,j<60→ix j=some i→i<o∧∃ a d:Nat,1≤d∧d≤60∧a≤60∧o % d=0∧a*(o / d)=i∧PureGood Tryz.prog 44 [.agg [i64 n,.sl v.length (ec v)],i64 ((j:Int)+1)] (.tup [.agg [bl false,i64 a,i64 d],i64 0])∧PureGood Tryz.prog 68 [.agg [i64 n,.sl v.length (ec v)],i64 ((j:Int)+1)] (.agg [bl false,i64 a,i64 d])
theorem bV1 {o f j:Nat}{w:List Nat}(h:vlB o f w j=true) (h2:vlD o f w j=true) (i:Nat) (hi:ixB o f w j=some i):∃ a d:Nat,1≤d∧d≤60∧a≤60∧o % d=0∧a*(o / d)=i∧PureGood Tryz.prog 44 [.agg [i64 f,.sl (nI w).length (ec (nI w))],i64 ((j:Int)+1)] (.tup [.agg [bl false,i64 a,i64 d],i64 0])∧PureGood Tryz.prog 68 [.agg [i64 f,.sl (nI w).length (ec (nI w))],i64 ((j:Int)+1)] (.agg [bl false,i64 a,i64 d]):=by
 have e1:((j:Int)+1)=Int.ofNat (Nat.succ j):=rfl
 rw[e1,← aA1]
 unfold vlB at h
 split at h
 ·rename_i z a d e he
  rw[Bool.and_eq_true]at h
  have e2:=Nat.eq_of_beq_eq_true h.1
  subst e2
  have g1:=aFd he
  have h:=h.2
  have hix:ixB o f w j=bif z then none else some (a*(o / d)):=by unfold ixB;rw[he]
  unfold vlD at h2
  rw[he]at h2
  simp only[Bool.or_eq_true,Nat.beq_eq]at h2
  split at h
  ·rename_i z' a' d' he'
   have g2:=yZ he'
   cases z with
   |true=>
    rw[cond_true]at hix
    rw[hix]at hi
    cases hi
   |false=>
    rw[cond_false]at h hix
    simp only[Bool.and_eq_true,Nat.ble_eq,Nat.beq_eq,Bool.not_eq_true']at h
    obtain⟨⟨⟨⟨⟨⟨rfl,rfl⟩,rfl⟩,h4⟩,h5⟩,h6⟩,h7⟩:=h
    rw[hix]at hi
    injection hi with hi
    exact⟨a,d,h4,h5,h6,h2.resolve_left (by simp),hi,g1,g2⟩
  ·cases h
 ·cases h
attribute [local irreducible] lrun lwp exThen exBlk keep goodPost ec pt gn od jU sg mg
theorem kW {n o c:Nat}{v:List Int}{b:Bool}{ix:Nat→Option Nat}(h:SeD n v o c b ix) {j m:Nat}(hj:j<60) (hn:ix j=none):PureGood Tryz.prog 86 [.agg [i64 n,.sl v.length (ec v)],i64 ((j:Int)+1),i64 m] (.tup [i64 0,bl false])∧PureGood Tryz.prog 93 [.agg [i64 n,.sl v.length (ec v)],i64 ((j:Int)+1),i64 m] (i64 (-1)):=by
 obtain⟨⟨a,d,g1⟩,⟨a',d',g2⟩⟩:=h.no j hj hn
 generalize ec v=cx at*
 simp only[i64,bl]at*
 constructor
 ·
  refine aA bC Tryz.func86 rfl (by decide) (nt:=29) rfl (rs:=[.tmp 6,.tmp 7]) rfl (aZ rfl) ?_
  refine zA5 ?_
  exact zQ2
 ·
  refine aA bC Tryz.func93 rfl (by decide) (nt:=20) rfl (rs:=[.tmp 6]) rfl (aZ rfl) ?_
  refine zA5 ?_
  exact zQ2
theorem iL {n o c:Nat}{v:List Int}{b:Bool}{ix:Nat→Option Nat}(h:SeD n v o c b ix) {j i m:Nat}(hj:j<60) (hi:ix j=some i) (hm:m % o=0) (hm1:1≤m) (hm2:m≤100000):PureGood Tryz.prog 86 [.agg [i64 n,.sl v.length (ec v)],i64 ((j:Int)+1),i64 m] (.tup [i64 ((i*(m / o):Nat):Int),bl true])∧PureGood Tryz.prog 93 [.agg [i64 n,.sl v.length (ec v)],i64 ((j:Int)+1),i64 m] (i64 ((i*(m / o):Nat):Int))∧i*(m / o)<m:=by
 obtain⟨hio,a,d,d1,d2,a2,hod,hai,g1,g2⟩:=h.yes j i hj hi
 have o1:=h.o1
 have o2:=h.o2
 have e1:m / d=(m / o)*(o / d):=by
  obtain⟨x,rfl⟩:=Nat.dvd_of_mod_eq_zero hm
  obtain⟨y,rfl⟩:=Nat.dvd_of_mod_eq_zero hod
  have hy:0<y:=by
   rcases Nat.eq_zero_or_pos y with hy |hy
   ·subst hy;omega
   ·exact hy
  rw[Nat.mul_assoc,Nat.mul_div_cancel_left _ (by omega),Nat.mul_div_cancel_left _ (by omega),← Nat.mul_assoc,Nat.mul_div_cancel_left _ (by omega),Nat.mul_comm]
 have e2:a*(m / d)=i*(m / o):=by
  rw[e1,← hai,Nat.mul_comm (m / o),Nat.mul_assoc]
 have q1:((m:Int)).tdiv (d:Int)=((m / d:Nat):Int):=by rw[Int.tdiv_eq_ediv_of_nonneg (by omega)];rfl
 have q2:(a:Int)*((m / d:Nat):Int)=((i*(m / o):Nat):Int):=by rw[← e2];simp
 have b1:m / d≤m:=Nat.div_le_self _ _
 have hlt:i*(m / o)<m:=by
  obtain⟨x,rfl⟩:=Nat.dvd_of_mod_eq_zero hm
  rw[Nat.mul_div_cancel_left _ (by omega)]
  have hx:0<x:=by
   rcases Nat.eq_zero_or_pos x with hx |hx
   ·subst hx;omega
   ·exact hx
  exact Nat.mul_lt_mul_of_pos_right hio hx
 have hd0:¬(d:Int)=0:=by omega
 obtain⟨y,hy⟩:∃ y,m / d=y:=⟨_,rfl⟩
 obtain⟨r,hr⟩:∃ r,r=i*(m / o):=⟨_,rfl⟩
 rw[hy]at q1 q2 b1
 rw[← hr]at q2 hlt
 rw[← hr]
 clear hr e1 e2 hai
 refine⟨?_,?_,hlt⟩
 all_goals
  generalize ec v=cx at*
  simp only[i64,bl]at*
 ·
  refine aA bC Tryz.func86 rfl (by decide) (nt:=29) rfl (rs:=[.tmp 6,.tmp 7]) rfl (aZ rfl) ?_
  refine aCe (nd hy q2) ?_
  exact aF7 (nd hy q2)
 ·
  refine aA bC Tryz.func93 rfl (by decide) (nt:=20) rfl (rs:=[.tmp 6]) rfl (aZ rfl) ?_
  refine aCe (nd hy q2) ?_
  exact aF7 (nd hy q2)
theorem pG {n o c:Nat}{v:List Int}{b:Bool}{ix:Nat→Option Nat}(h:SeD n v o c b ix) {m:Nat}(hm1:1≤m) (hm2:m≤100000):PureGood Tryz.prog 93 [.agg [i64 n,.sl v.length (ec v)],i64 (-1),i64 (2*(m:Int))] (i64 (if b then 0 else(m:Int))):=by
 have g:=h.m1R
 have q2:(2*(m:Int)).tdiv 2=m:=by rw[Int.tdiv_eq_ediv_of_nonneg (by omega)];omega
 have q1:(2*(m:Int)).tdiv 1=2*m:=Int.tdiv_one _
 have q3:(2*(m:Int)) / 2=m:=by omega
 generalize ec v=cx at*
 cases b with
 |true=>
  simp only[i64,bl,if_true]at*
  refine aA bC Tryz.func93 rfl (by decide) (nt:=20) rfl (rs:=[.tmp 6]) rfl (aZ rfl) ?_
  (repeat(first|apply zO (by decide+kernel)|apply zP (by decide+kernel)|(apply zS;(case h=>constructor<;>decide))|((first|apply cD rfl|apply aR|apply zT rfl (by decide) rfl);(case hs=>(simp(disch:=first|omega|exact kD rfl|exact kX rfl) only[smY,simprocAttr,bl,i64,smE,bV,undef,q1,q2,q3,Int.zero_mul,Int.one_mul,Int.ediv_one];exact rfl));first|refine cB ?_|refine cC ?_|refine zq ?_|(case hg=>assumption))))
  ((first|apply dG|apply dI);case hres=>(simp only[iC];simp(disch:=first|omega|exact kD rfl|exact kX rfl) only[smY,simprocAttr,bl,i64,smE,bV,undef,q1,q2,q3,Int.zero_mul,Int.one_mul,Int.ediv_one];exact rfl))
  simp(disch:=first|omega|exact kD rfl|exact kX rfl) only[smY,simprocAttr,bl,i64,smE,bV,undef,q1,q2,q3,Int.zero_mul,Int.one_mul,Int.ediv_one]
 |false=>
  simp only[i64,bl,Bool.false_eq_true,if_false]at*
  refine aA bC Tryz.func93 rfl (by decide) (nt:=20) rfl (rs:=[.tmp 6]) rfl (aZ rfl) ?_
  (repeat(first|apply zO (by decide+kernel)|apply zP (by decide+kernel)|(apply zS;(case h=>constructor<;>decide))|((first|apply cD rfl|apply aR|apply zT rfl (by decide) rfl);(case hs=>(simp(disch:=first|omega|exact kD rfl|exact kX rfl) only[smY,simprocAttr,bl,i64,smE,bV,undef,q1,q2,q3,Int.zero_mul,Int.one_mul,Int.ediv_one];exact rfl));first|refine cB ?_|refine cC ?_|refine zq ?_|(case hg=>assumption))))
  ((first|apply dG|apply dI);case hres=>(simp only[iC];simp(disch:=first|omega|exact kD rfl|exact kX rfl) only[smY,simprocAttr,bl,i64,smE,bV,undef,q1,q2,q3,Int.zero_mul,Int.one_mul,Int.ediv_one];exact rfl))
  simp(disch:=first|omega|exact kD rfl|exact kX rfl) only[smY,simprocAttr,bl,i64,smE,bV,undef,q1,q2,q3,Int.zero_mul,Int.one_mul,Int.ediv_one]
theorem aNx {n o c n' o' c':Nat}{v v':List Int}{b b':Bool}{ix ix':Nat→Option Nat}(h:SeD n v o c b ix) (h':SeD n' v' o' c' b' ix'):PureGood Tryz.prog 82 [.agg [i64 n,.sl v.length (ec v)],.agg [i64 n',.sl v'.length (ec v')]] (i64 (Nat.lcm o o'))∧PureGood Tryz.prog 92 [.agg [i64 n,.sl v.length (ec v)],.agg [i64 n',.sl v'.length (ec v')]] (i64 (Nat.lcm o o')):=by
 have o1:=h.o1
 have o2:=h.o2
 have o1':=h'.o1
 have o2':=h'.o2
 have g1:=h.orP
 have g2:=h'.orP
 have g3:=h.orR
 have g4:=h'.orR
 have g5:=qH o o' (by omega) (by omega)
 have g6:=aRb o o' (by omega) (by omega)
 have eg:Int.gcd o o'=Nat.gcd o o':=rfl
 rw[eg]at g5
 have hg0:0<Nat.gcd o o':=Nat.gcd_pos_of_pos_left _ (by omega)
 have q1:(o:Int).tdiv (Nat.gcd o o':Nat)=((o / Nat.gcd o o':Nat):Int):=by rw[Int.tdiv_eq_ediv_of_nonneg (by omega)];rfl
 have q2:((o / Nat.gcd o o':Nat):Int)*(o':Int)=(Nat.lcm o o':Nat):=by
  have:o / Nat.gcd o o'*o'=Nat.lcm o o':=by
   unfold Nat.lcm
   rw[Nat.div_mul_right_comm (Nat.gcd_dvd_left o o')]
  rw[← this]
  simp
 have b1:o / Nat.gcd o o'≤o:=Nat.div_le_self _ _
 have b2:Nat.lcm o o'≤3600:=by
  have:Nat.lcm o o'≤o*o':=Nat.le_of_dvd (Nat.mul_pos (by omega) (by omega)) (Nat.lcm_dvd_mul o o')
  have:o*o'≤60*60:=Nat.mul_le_mul o2 o2'
  omega
 have hg1:¬((Nat.gcd o o':Nat):Int)=0:=by omega
 generalize Nat.lcm o o'=L at*
 generalize Nat.gcd o o'=g at*
 obtain⟨y,hy⟩:∃ y,o / g=y:=⟨_,rfl⟩
 rw[hy]at q1 q2 b1
 generalize ec v=cx at*
 generalize ec v'=cy at*
 simp only[i64,bl]at*
 constructor
 ·
  refine aA bC Tryz.func82 rfl (by decide) (nt:=26) rfl (rs:=[.tmp 4]) rfl (aZ rfl) ?_
  refine aCe (nd hy q2) ?_
  exact aF7 (nd hy q2)
 ·have g7:PureGood Tryz.prog 179 [.lit (.int .i64 o), .lit (.int .i64 o')] (.lit (.int .i64 L)):=by
   refine aA bC Tryz.func179 rfl (by decide) (nt:=12) rfl (rs:=[.tmp 4]) rfl (aZ rfl) ?_
   refine aCe (nd hy q2) ?_
   exact aF7 (nd hy q2)
  refine aA bC Tryz.func92 rfl (by decide) (nt:=10) rfl (rs:=[.tmp 4]) rfl (aZ rfl) ?_
  refine zA5 ?_
  exact zQ2
end
section
open Go Go.Lg Go.Num
def aT5 (args:List LV):Option LV:=
 match args with
 |[.agg [a,b],.agg [c,d]]=>match rdI a b,rdI c d with
  |some x,some y=>iI (x / y) fun q=>iI (x % y) fun r=>bif eT x && eT y && eT q && eT r && !(y==0)then some (.tup [.agg (wrI q),.agg (wrI r)])else none
  |_,_=>none
 |_=>none
theorem bC9 {args:List LV}{r:LV}(h:aT5 args=some r):PureGood Tryz.prog 290 args r:=by
 unfold aT5 at h
 split at h
 ·split at h
  ·rename_i a b c d x y h1 h2
   rw[cV,cV]at h
   cases hb:(eT x && eT y && eT (x / y) && eT (x % y) && !(y==0))with
   |true=>
    rw[hb]at h
    simp only[Bool.and_eq_true,Bool.not_eq_true',beq_eq_false_iff_ne,ne_eq]at hb
    cases h
    have hx:=kS hb.1.1.1.1
    have hy:=kS hb.1.1.1.2
    obtain⟨rfl,rfl⟩:=jT h1
    obtain⟨rfl,rfl⟩:=jT h2
    rw[pC hb.1.1.2,pC hb.1.2]
    have:=mT x y hb.2 (by omega) (by omega)
    rwa [aW x,aW y]at this
   |false=>rw[hb]at h;cases h
  ·cases h
 ·cases h
def aXk (f:FuncId) (args:List LV):Option LV:=bif Nat.beq f 290 then aT5 args else aW3 f args
theorem vM:fR Tryz.prog aXk:=aU (f0:=290) (g:=aT5) (fun _ _ h=>bC9 h) zA
theorem aNy:PureGood Tryz.prog 156 [z4v] (bF 0):=by
 have h:PureGood Tryz.prog 156 [z4v] (wrQ 0):=dE vM (by kernel_rfl)
 rwa [aAv (by decide+kernel)]at h
end
section
open Go Go.Lg Go.Num
attribute [local irreducible] lrun lwp exThen exBlk keep goodPost sg mg oc mC op
theorem aNz (F:List (Option Rat)) (hl1:1≤F.length) (hl:F.length≤100000) (hf2:∀ q,some q∈F→lq q≤100000):jQ Tryz.prog 72 [.sl F.length (op F)] (bQ (ov F)).length 4 47 (qc (bQ (ov F))):=by
 have gmiss:=aNy
 obtain⟨L,hLL⟩:∃ L,L=ov F:=⟨_,rfl⟩
 have hLg:∀ j,L.getD j 0=(F.getD j none).getD 0:=fun j=>by rw[hLL];exact bB8 F j
 have hLen:L.length=F.length:=by rw[hLL,aA9]
 rw[← hLL]
 obtain⟨k,hk0,hkt,hk1,hk2⟩:=jX L
 obtain⟨N,hlen⟩:∃ N,L.length=N:=⟨_,rfl⟩
 have hopl:=op_len F
 have hf:∀ j,j<N→lq (L.getD j 0)≤100000:=fun j hj=>by
  rw[hLg j]
  have hjF:j<F.length:=by omega
  have e:F.getD j none=F[j]:=by simp[hjF]
  have hm:=List.getElem_mem hjF
  rw[← e]at hm
  cases h:F.getD j none with
  |none=>decide+kernel
  |some q=>rw[h]at hm;exact hf2 q hm
 have hkl:(bQ L).length=k:=by rw[hkt,List.length_take];omega
 have hq:qc (bQ L)=(qc L).take (k*4):=by rw[hkt,uG]
 rw[hq,hkl]
 refine bCy ?_ _
 rw[← hLen,hlen]
 have hFN:F.length=N:=by omega
 rw[hFN]at hopl
 rw[hlen]at hk0
 have hl1':1≤N:=by omega
 have hl':N≤100000:=by omega
 refine rC bC Tryz.func72 rfl (by decide) (nt:=38) rfl (rs:=[.tmp 2]) rfl (aZ rfl) (kR s9 s10 _) ?_
 refine dM ?_
 refine aI (α:={m:Nat // m≤N}) (fun m=>st 38 (lk [(0,.sl N (op F)),(3,nV 0 m.1),(4,i64 m.1)]) (cP (nB 0 m.1 (qc (L.take m.1)))) 1) (fun m=>N-m.1) ⟨0,by omega⟩ ?_ ?_
 ·simp only[mU,mV]
  (refine Sub.plain ?_;simp only[aG,dg,renL,renLs,simprocAttr,bl,i64,smT])
  all_goals(first |done |simp)
 ·rintro⟨m,hm⟩
  simp only[st]
  by_cases hlt:m<N
  ·have happ:=eJ (L:=L) (m:=m) (by omega)
   have htl:(L.take m).length=m:=by rw[List.length_take];omega
   have htd:=op_td (l:=F) (s:=m) (by omega)
   have hLm:=hLg m
   have hmem:F.getD m none∈F:=by
    have hmF:m<F.length:=by omega
    have:F.getD m none=F[m]:=by simp[hmF]
    rw[this]
    exact List.getElem_mem hmF
   generalize hq:L.getD m 0=q at*
   generalize F.getD m none=o at*
   have g2:PureGood Tryz.prog 156 [.agg (oqp o)] (.agg [sg (q).num,mg (q).num,sg ((q).den:Int),mg ((q).den:Int)]):=by
    cases o with
    |none=>
     have e:q=0:=hLm
     subst e
     rw[oqp_none,← aH]
     exact gmiss
    |some x=>
     have e:q=x:=hLm
     subst e
     rw[oqp_some,← aH]
     exact eH q (by have:=hf2 q hmem;omega)
   cases o with
   |none=>
    rw[oqp_none]at htd g2
    by_cases h0:m=0
    · simp only[oA h0,oB h0]
      refine cW (nd htd hopl) ?_
      refine⟨⟨m+1,by omega⟩,?_,by simp only;omega⟩
      subst h0
      simp only[dR,dS]
      (refine Sub.heapL [12] rfl (by decide) ?_ (by simp only[fB];decide) ?_ ?_;all_goals(first|(simp only[aB,aG,dg,renL,renLs,simprocAttr,bl,i64,smT];done) |(simp only[aG,dg,renL,renLs,simprocAttr,bl,i64,smT];(repeat' apply And.intro);all_goals rfl) |(simp only[aG,dg,renL,renLs,simprocAttr,bl,i64,smT]) |skip))
      have e:L.take 1=[q]:=happ
      all_goals(first |done |(rw[e,← jB]))
    · simp only[lQ h0,lR h0]
      refine cW (nd htd hopl) ?_
      refine⟨⟨m+1,by omega⟩,?_,by simp only;omega⟩
      simp only[dR,dS]
      (refine Sub.heapL [12] rfl (by decide) ?_ (by simp only[fB];decide) ?_ ?_;all_goals(first|(simp only[aB,aG,dg,renL,renLs,simprocAttr,bl,i64,smT];done) |(simp only[aG,dg,renL,renLs,simprocAttr,bl,i64,smT];(repeat' apply And.intro);all_goals rfl) |(simp only[aG,dg,renL,renLs,simprocAttr,bl,i64,smT]) |skip))
      all_goals(first |done |(rw[happ,← gY]))
   |some x=>
    rw[oqp_some]at htd g2
    by_cases h0:m=0
    · simp only[oA h0,oB h0]
      refine cW (nd htd hopl) ?_
      refine⟨⟨m+1,by omega⟩,?_,by simp only;omega⟩
      subst h0
      simp only[dR,dS]
      (refine Sub.heapL [12] rfl (by decide) ?_ (by simp only[fB];decide) ?_ ?_;all_goals(first|(simp only[aB,aG,dg,renL,renLs,simprocAttr,bl,i64,smT];done) |(simp only[aG,dg,renL,renLs,simprocAttr,bl,i64,smT];(repeat' apply And.intro);all_goals rfl) |(simp only[aG,dg,renL,renLs,simprocAttr,bl,i64,smT]) |skip))
      have e:L.take 1=[q]:=happ
      all_goals(first |done |(rw[e,← jB]))
    · simp only[lQ h0,lR h0]
      refine cW (nd htd hopl) ?_
      refine⟨⟨m+1,by omega⟩,?_,by simp only;omega⟩
      simp only[dR,dS]
      (refine Sub.heapL [12] rfl (by decide) ?_ (by simp only[fB];decide) ?_ ?_;all_goals(first|(simp only[aB,aG,dg,renL,renLs,simprocAttr,bl,i64,smT];done) |(simp only[aG,dg,renL,renLs,simprocAttr,bl,i64,smT];(repeat' apply And.intro);all_goals rfl) |(simp only[aG,dg,renL,renLs,simprocAttr,bl,i64,smT]) |skip))
      all_goals(first |done |(rw[happ,← gY]))
  ·obtain rfl:m=N:=by omega
   have htL:L.take m=L:=List.take_of_length_le (by omega)
   rw[htL]
   by_cases h0:m=0
   ·simp only[oA h0,oB h0]
    omega
   ·simp only[lQ h0,lR h0]
    refine dM ?_
    refine aI (α:={j:Nat // k≤j∧j≤m}) (fun j=>st 38 (lk [(3,.own 0 0 m 4),(5,i64 j.1)]) (cP [(0,⟨47,qc L,false⟩)]) 1) (fun j=>j.1) ⟨m,by omega,Nat.le_refl _⟩ ?_ ?_
    ·exact zL0 [0]
    ·rintro⟨j,hj1,hj2⟩
     simp only[st]
     rcases j with _ |j
     ·obtain rfl:k=0:=by omega
      refine dM ?_
      refine kZ rfl (by decide) rfl ?_
      refine dM ?_
      ((apply aR9;(case hres=>(simp only[iC];simp(disch:=first|omega|exact kD rfl|exact kX rfl) only[smY,simprocAttr,bl,i64,smT];exact rfl));(case h0=>(simp only[aG,dg,renL,renLs,simprocAttr,bl,i64,smT];exact rfl));(case hf=>rfl));try rfl)
     ·have g3:=aB6 (L.getD j 0) (by have:=hf j (by omega);omega)
      have e3:((j+1:Nat):Int)-1=(j:Int):=by omega
      have hqc:(qc L).length=m*4:=by rw[gH,hlen]
      by_cases hjk:k=j+1
      ·have hnz:¬(L.getD j 0).num.sign=0:=fun e=>by
        have:=hk2 (by omega)
        rw[hjk,Nat.add_sub_cancel]at this
        exact this (Rat.num_eq_zero.1 (Int.sign_eq_zero_iff_zero.1 e))
       subst hjk
       generalize hq:L.getD j 0=q at*
       generalize q.num.sign=s at*
       simp only[aH,i64]at g3
       refine cW (nd hq e3) ?_
       ((apply aR9;(case hres=>(simp only[iC];simp(disch:=first|omega|exact kD rfl|exact kX rfl) only[smY,simprocAttr,bl,i64,smT,hq,e3];exact rfl));(case h0=>(simp only[aG,dg,renL,renLs,simprocAttr,bl,i64,smT,hq,e3];exact rfl));(case hf=>rfl));try rfl)
      ·have hz:(L.getD j 0).num.sign=0:=by
        rw[hk1 j (by omega)]
        rfl
       rw[hz]at g3
       generalize hq:L.getD j 0=q at*
       simp only[aH,i64]at g3
       refine cW (nd hq e3) ?_
       refine⟨⟨j,by omega,by omega⟩,?_,by simp only;omega⟩
       exact zL0 [0]
end
end Go.Proofs.YtaidcaemdkncgaaGreatDoor
namespace Go.Num
def pT (a b:List Rat):List Rat:=List.zipWith (· + ·) a b
def uL (s:Rat) (a:List Rat):List Rat:=a.map fun x=>s*x
theorem zF {a b:List Rat}(h:a.length=b.length):(pT a b).length=a.length:=by simp[pT,h]
theorem uM (s:Rat) (a:List Rat):(uL s a).length=a.length:=by simp[uL]
theorem fO {a b:List Rat}(h:a.length=b.length) (j:Nat):(pT a b).getD j 0=a.getD j 0+b.getD j 0:=by
 unfold pT
 rcases Nat.lt_or_ge j a.length with hj |hj
 ·simp[List.getD,List.getElem?_zipWith,hj,h ▸ hj]
 ·simp[List.getD,List.getElem?_zipWith,hj,h ▸ hj,Rat.add_zero]
theorem oF (s:Rat) (a:List Rat) (j:Nat):(uL s a).getD j 0=s*a.getD j 0:=by
 unfold uL
 rcases Nat.lt_or_ge j a.length with hj |hj
 ·simp[List.getD,hj]
 ·simp[List.getD,hj]
theorem zG {a b:List Rat}(h:a.length=b.length) (hg:∀ j,j<a.length→a.getD j 0=b.getD j 0):a=b:=by
 refine List.ext_getElem h (fun j h1 h2=> ?_)
 have:=hg j h1
 simpa[List.getD,h1,h2]using this
theorem bDa {a b:List Rat}(h:a.length=b.length) (i:Nat) (x y:Rat):(pT a b).set i (x+y)=pT (a.set i x) (b.set i y):=by
 refine zG (by simp[pT,h]) (fun j hj=> ?_)
 rw[fO (by simp[h])]
 have hj2:j<a.length:=by simpa[pT,h]using hj
 have hj3:j<b.length:=by omega
 by_cases e:i=j
 ·subst e
  have h4:i<min a.length b.length:=by omega
  simp[List.getD,pT,hj2,hj3,List.getElem?_set,h4]
 ·have h1:=fO h j
  simp[List.getD,List.getElem?_set,e]at h1⊢
  exact h1
theorem bDb (s:Rat) (a:List Rat) (i:Nat) (x:Rat):(uL s a).set i (s*x)=uL s (a.set i x):=by
 simp[uL,List.map_set]
theorem aN0 (c d:Rat):∀ (g a b:List Rat) (i:Nat),a.length=b.length→fX (c+d) g (pT a b) i=pT (fX c g a i) (fX d g b i)
 |[],a,b,i,_=>rfl
 |u::g,a,b,i,h=>by
  rw[fX,fX,fX,fO h]
  have e:a.getD i 0+b.getD i 0-(c+d)*u=(a.getD i 0-c*u)+(b.getD i 0-d*u):=by grind
  rw[e,bDa h]
  exact aN0 c d g _ _ _ (by simp[h])
theorem aN1 (s c:Rat):∀ (g a:List Rat) (i:Nat),fX (s*c) g (uL s a) i=uL s (fX c g a i)
 |[],a,i=>rfl
 |u::g,a,i=>by
  rw[fX,fX,oF]
  have e:s*a.getD i 0-s*c*u=s*(a.getD i 0-c*u):=by grind
  rw[e,bDb]
  exact aN1 s c g _ _
theorem aFo (g:List Rat):∀ (k:Nat) (a b:List Rat),a.length=b.length→eU g k (pT a b)=pT (eU g k a) (eU g k b)
 |0,a,b,_=>rfl
 |k+1,a,b,h=>by
  rw[eU,eU,eU,fO h,aN0 _ _ _ _ _ _ h]
  exact aFo g k _ _ (by rw[uE,uE,h])
theorem uN (g:List Rat) (s:Rat):∀ (k:Nat) (a:List Rat),eU g k (uL s a)=uL s (eU g k a)
 |0,a=>rfl
 |k+1,a=>by
  rw[eU,eU,oF,aN1]
  exact uN g s k _
theorem aN2 (c:Rat) (z:List Rat):∀ (g t:List Rat) (i:Nat),i+g.length≤t.length→fX c g (t++z) i=fX c g t i++z
 |[],t,i,_=>rfl
 |u::g,t,i,h=>by
  rw[List.length_cons]at h
  have hi:i<t.length:=by omega
  have e:(t++z).getD i 0=t.getD i 0:=by simp[List.getD,List.getElem?_append_left hi]
  rw[fX,fX,e,List.set_append_left _ _ hi]
  exact aN2 c z g _ _ (by rw[List.length_set];omega)
theorem aN3 (g z:List Rat) (hg:1≤g.length):∀ (k:Nat) (t:List Rat),k+g.length≤t.length+1→eU g k (t++z)=eU g k t++z
 |0,t,_=>rfl
 |k+1,t,h=>by
  have hi:k+g.length-1<t.length:=by omega
  have e:(t++z).getD (k+g.length-1) 0=t.getD (k+g.length-1) 0:=by simp[List.getD,List.getElem?_append_left hi]
  rw[eU,eU,e,aN2 _ _ _ _ _ (by omega)]
  exact aN3 g z hg k _ (by rw[uE];omega)
theorem aN4 (g:List Rat) (t:List Rat):∀ (m k:Nat),(∀ j,k+g.length≤j+1→t.getD j 0=0)→eU g (k+m) t=eU g k t
 |0,k,_=>rfl
 |m+1,k,h=>by
  rw[show k+(m+1)=(k+m)+1 by omega,eU]
  have e:t.getD (k+m+g.length-1) 0=0:=h _ (by omega)
  rw[e,aBe]
  exact aN4 g t m k h
end Go.Num
namespace Go.Proofs.YtaidcaemdkncgaaGreatDoor
section
open Go Go.Lg Go.Num
theorem vN (a:List Rat):∀ m:Nat,bQ (a++List.replicate m 0)=bQ a
 |0=>by rw[List.replicate_zero,List.append_nil]
 |m+1=>by rw[List.replicate_succ',← List.append_assoc,jV,vN a m]
theorem aN5 (L:List Rat):∃ m,L=bQ L++List.replicate m 0:=by
 obtain⟨k,h1,h2,h3,_⟩:=jX L
 refine⟨L.length-k,?_⟩
 rw[h2]
 conv=>lhs;rw[← List.take_append_drop k L]
 congr 1
 refine zG (by simp) (fun j hj=> ?_)
 have e1:(L.drop k).getD j 0=L.getD (k+j) 0:=by simp[List.getD]
 rw[e1,h3 (k+j) (by omega)]
 simp[List.getD,List.getElem?_replicate]
 split <;>rfl
theorem vO {g:List Rat}(hg:1≤g.length) (L:List Rat):oQ g (bQ L)=bQ (eU g (L.length+1-g.length) L):=by
 obtain⟨m,hm⟩:=aN5 L
 unfold oQ
 generalize bQ L=t at*
 subst hm
 rw[List.length_append,List.length_replicate]
 have hz:∀ j,t.length≤j→(t++List.replicate m (0:Rat)).getD j 0=0:=fun j hj=>by
  simp[List.getD,List.getElem?_append_right hj,List.getElem?_replicate]
  split <;>rfl
 obtain⟨d,hd⟩:∃ d,t.length+m+1-g.length=(t.length+1-g.length)+d:=⟨t.length+m+1-g.length-(t.length+1-g.length),by omega⟩
 rw[hd,aN4 g _ d _ (fun j hj=>hz j (by omega))]
 by_cases h0:t.length+1-g.length=0
 ·rw[h0,eU,eU,vN]
 ·rw[aN3 g _ hg _ _ (by omega),vN]
end
section
open Go Go.Lg Go.Num
def bDc (c:Int):List Int→List Int→Nat→List Int
 |[],r,_=>r
 |b::g,r,i=>bDc c g (r.set i (r.getD i 0-c*b)) (i+1)
def dvI (g:List Int):Nat→List Int→List Int
 |0,r=>r
 |k+1,r=>dvI g k (bDc (r.getD (k+g.length-1) 0) g r k)
theorem aT6 (c:Int):∀ (g r:List Int) (i:Nat),fX (c:Rat) (rz g) (rz r) i=rz (bDc c g r i)
 |[],r,i=>rfl
 |b::g,r,i=>by
  show fX (c:Rat) ((b:Rat)::rz g) (rz r) i=_
  rw[fX,bDc,mD,← Rat.intCast_mul,← Rat.intCast_sub,bCb]
  exact aT6 c g _ _
theorem aT7 (g:List Int):∀ (k:Nat) (r:List Int),eU (rz g) k (rz r)=rz (dvI g k r)
 |0,r=>rfl
 |k+1,r=>by
  rw[eU,dvI,bX,mD,aT6]
  exact aT7 g k _
def aKc {α:Type}:List Int→(List Int→α)→α
 |[],k=>k []
 |x::l,k=>iI x fun v=>aKc l fun l'=>k (v::l')
theorem aH8 {α:Type}:∀ (l:List Int) (k:List Int→α),aKc l k=k l
 |[],k=>rfl
 |x::l,k=>by rw[aKc,cV,aH8 l]
def dvC {α:Type}(g:List Int) (d:Nat):Nat→List Int→(List Int→α)→α
 |0,r,K=>K r
 |k+1,r,K=>iI (r.getD (k+d) 0) fun c=>aKc (bDc c g r k) fun r'=>dvC g d k r' K
theorem bDd {α:Type}{g:List Int}{d:Nat}(hd:d+1=g.length):∀ (k:Nat) (r:List Int) (K:List Int→α),dvC g d k r K=K (dvI g k r)
 |0,r,K=>rfl
 |k+1,r,K=>by
  rw[dvC,cV,aH8,bDd hd k,dvI,show k+g.length-1=k+d by omega]
theorem bDe (l:List Int):bQ (rz l)=rz (bR l):=(oC l).symm
def unZ (e:Nat):List Int:=List.replicate e 0++[1]
def unO (e:Nat):List (Option Rat):=List.replicate e none++[some 1]
theorem lE (e:Nat):(unO e).length=e+1:=by simp[unO]
theorem bI3 (e:Nat):(unZ e).length=e+1:=by simp[unZ]
theorem aKd (e:Nat):ov (unO e)=rz (unZ e):=by
 unfold ov unO rz unZ
 simp[List.map_append,List.map_replicate]
def zI (m e:Nat):List Int:=bR (dvI (dF m) (e+2-(dF m).length) (unZ e))
theorem aRc {m e:Nat}(hm:m∈qS):oQ (rz (dF m)) (bQ (ov (unO e)))=rz (zI m e):=by
 obtain⟨c1,c2,c3,c4⟩:=wE hm
 rw[aKd,vO (by rw[bX];omega),bX,bX,bI3,aT7,bDe]
 rfl
attribute [local irreducible] lrun lwp exThen exBlk keep goodPost sg mg oc op
theorem aN6 (e m:Nat) (he:e<m) (hm:m≤1000):PureGood Tryz.prog 298 [i64 e,i64 m] (i64 e):=by
 have q:(e:Int).tmod (m:Int)=e:=Int.tmod_eq_of_lt (by omega) (by omega)
 have q2:(e:Int) % (m:Int)=e:=Int.emod_eq_of_lt (by omega) (by omega)
 have q3:e % m=e:=Nat.mod_eq_of_lt he
 simp only[i64]at*
 refine aA bC Tryz.func298 rfl (by decide) (nt:=15) rfl (rs:=[.tmp 4]) rfl (aZ rfl) ?_
 refine sU (nd q (nd q2 q3)) ?_
 ((first|apply dG|apply dI);case hres=>(simp only[iC];simp(disch:=first|omega|exact kD rfl|exact kX rfl) only[smY,simprocAttr,bl,i64,smT,smO,q,q2,q3];exact rfl))
 simp(disch:=first|omega|exact kD rfl|exact kX rfl) only[smY,simprocAttr,bl,i64,smT,smO,q,q2,q3]
theorem aKe (e:Nat) (he:e≤1000):PureGood Tryz.prog 297 [bF 1,i64 e] (.sl (e+1) (op (unO e))):=by
 have hset:=kT (l:=List.replicate (e+1) none) (j:=e) (by simp) 1
 have e1:(List.replicate (e+1) (none:Option Rat)).set e (some 1)=unO e:=by
  unfold unO
  rw[List.replicate_succ',List.set_append_right _ _ (by simp)]
  simp
 rw[e1]at hset
 have hl:=lE e
 simp only[aH,i64]at*
 refine aA bC Tryz.func297 rfl (by decide) (nt:=14) rfl (rs:=[.tmp 4]) rfl (aZ rfl) ?_
 (repeat(first|apply zO (by decide+kernel)|apply zP (by decide+kernel)|(apply zS;(case h=>constructor<;>decide))|((first|apply cD rfl|apply aR|apply zT rfl (by decide) rfl);(case hs=>(simp(disch:=first|omega|exact kD rfl|exact kX rfl) only[smY,simprocAttr,bl,i64,smT,smO,hset,uB,@iA,hl];exact rfl));first|refine cB ?_|refine cC ?_|refine zq ?_|(case hg=>assumption))))
 ((first|apply dG|apply dI);case hres=>(simp only[iC];simp(disch:=first|omega|exact kD rfl|exact kX rfl) only[smY,simprocAttr,bl,i64,smT,smO,hset,uB,@iA,hl];exact rfl))
 simp(disch:=first|omega|exact kD rfl|exact kX rfl) only[smY,simprocAttr,bl,i64,smT,smO,hset,uB,@iA,hl]
 all_goals trace_state
end
section
open Go Go.Lg Go.Num
attribute [local irreducible] lrun lwp exThen exBlk keep goodPost sg mg oc op
theorem bDf {m:Nat}(h:m∈qS):1≤m∧m≤42:=by
 have:qS.all (fun m=>Nat.ble 1 m && Nat.ble m 42)=true:=by decide+kernel
 have h1:=List.all_eq_true.1 this m h
 rwa [Bool.and_eq_true,Nat.ble_eq,Nat.ble_eq]at h1
theorem aKf (e j:Nat):(unZ e).getD j 0=if j=e then 1 else 0:=by
 unfold unZ
 rcases Nat.lt_trichotomy j e with h |h |h
 ·rw[if_neg (by omega)]
  simp[List.getD,List.getElem?_append_left (show j<(List.replicate e (0:Int)).length by simpa using h),h]
 ·subst h
  rw[if_pos rfl]
  simp[List.getD]
 ·rw[if_neg (by omega)]
  have:(List.replicate e (0:Int)++[1]).length≤j:=by simp;omega
  simp only[List.getD,List.getElem?_eq_none this,Option.getD_none]
theorem aFp (z:Int):(z:Rat)=Rat.divInt z 1:=by
 have:=Rat.num_divInt_den (z:Rat)
 rw[Rat.num_intCast,Rat.den_intCast]at this
 exact this.symm
theorem aKg {z:Int}(h:z.natAbs≤10):lW 1 1 (z:Rat):=⟨z,aFp z,by
 have:=bG (a:=z) (e:=1) (by omega)
 omega⟩
end
section
open Go Go.Lg Go.Num
attribute [local irreducible] lrun lwp exThen exBlk keep goodPost sg mg oc op
def sA (n:Nat) (q:Rat) (z:List Int):List Rat:=(List.range n).map fun i=>q*((z.getD i 0:Int):Rat)
def aBf (n:Nat) (q:Rat) (z:List Int) (k:Nat):List Rat:=(List.range n).map fun i=>if i<k then q*((z.getD i 0:Int):Rat)else 0
theorem iW (n:Nat) (q:Rat) (z:List Int):(sA n q z).length=n:=by simp[sA]
theorem bDg (n:Nat) (q:Rat) (z:List Int) (k:Nat):(aBf n q z k).length=n:=by simp[aBf]
theorem qO {n i:Nat}{q:Rat}{z:List Int}(h:i<n):(sA n q z).getD i 0=q*((z.getD i 0:Int):Rat):=by simp[sA,List.getD,h]
theorem aXl (n:Nat) (q:Rat) (z:List Int):aBf n q z 0=List.replicate n 0:=by
 unfold aBf
 simp[List.map_const']
theorem bDh (n:Nat) (q:Rat) (z:List Int):aBf n q z z.length=sA n q z:=by
 unfold aBf sA
 refine List.map_congr_left (fun i _=> ?_)
 by_cases h:i<z.length
 ·rw[if_pos h]
 ·rw[if_neg h]
  have:z.getD i 0=0:=by simp[List.getD,Nat.le_of_not_lt h]
  rw[this,Rat.intCast_zero,Rat.mul_zero]
theorem bDi {n k:Nat}{q:Rat}{z:List Int}(h:k<n):(aBf n q z k).set k (q*((z.getD k 0:Int):Rat))=aBf n q z (k+1):=by
 refine List.ext_getElem (by simp[aBf]) (fun i h1 h2=> ?_)
 simp only[aBf,List.length_map,List.length_range,List.length_set]at h1 h2
 rw[List.getElem_set]
 simp only[aBf,List.getElem_map,List.getElem_range]
 by_cases e:k=i
 ·subst e
  rw[if_pos rfl,if_pos (by omega)]
 ·rw[if_neg e]
  by_cases c:i<k
  ·rw[if_pos c,if_pos (by omega)]
  ·rw[if_neg c,if_neg (by omega)]
theorem aN7 {z:Int}(h:z.natAbs≤10):lq (z:Rat)≤2:=by
 have:=(aKg h).lq (K:=1) (by decide) (by decide+kernel)
 omega
theorem aB7 {m e n:Nat}{q:Rat}{z:List Int}(gz:PureGood Tryz.prog 258 [i64 m,i64 e] (encF (rz z))) (hz:z.length≤n) (hz2:∀ x∈z,x.natAbs≤10) (n1:1≤n) (n2:n≤100) (hq:lq q≤1000) (hm:m≤1000) (he:e≤1000):
  PureGood Tryz.prog 185 [i64 m,i64 e,bF q,i64 n] (.sl n (qc (sA n q z))):=by
 have gn:=aH7 n n1 (by omega)
 rw[← aXl n q z]at gn
 rw[bD,bX]at gz
 have hvl:=fun k=>bDg n q z k
 have hva:=bDh n q z
 have hvs:=fun k (h:k<n)=>bDi (q:=q) (z:=z) h
 have hrl:=bX z
 have hrg:=mD z
 generalize hZ:z.length=N at*
 simp only[aH,i64]at gz gn⊢
 refine aA bC Tryz.func185 rfl (by decide) (nt:=33) rfl (rs:=[.tmp 8]) rfl (aZ rfl) ?_
 refine zU ?_
 refine uV (by simp only[List.size_toArray,List.length_cons,List.length_nil,Nat.reduceAdd,Nat.max_def,Nat.reduceLeDiff,↓reduceIte];exact rfl) rfl rfl rfl (by decide) rfl (by simp(disch:=first|omega|exact kD rfl|exact kX rfl) only[smY,simprocAttr,bl,i64,smT,smO];try exact rfl) gn (by simp[aB]) (by simp[dA]) ?_
 refine zU ?_
 refine aI (α:={k:Nat // k≤N}) (fun k=>st 33 (lk [(6,.ptr 0 0),(9,.sl N (qc (rz z))),(10,.own 1 0 n 4),(11,i64 k.1)]) (cP [(0,⟨47,[sg (q).num,mg (q).num,sg ((q).den:Int),mg ((q).den:Int)],false⟩),(1,⟨47,qc (aBf n q z k.1),false⟩)]) 2) (fun k=>N-k.1) ⟨0,by omega⟩ ?_ ?_
 ·simp only[i64]
  exact zL1 [0,9]
 ·rintro⟨k,hk⟩
  simp only[st]
  have hvk:=hvl k
  by_cases hlt:k<N
  ·have hkm:z.getD k 0∈z:=by
    have h1:k<z.length:=by omega
    rw[show z.getD k 0=z[k]by simp[List.getD,h1]]
    exact List.getElem_mem h1
   have hl:=aN7 (hz2 _ hkm)
   have gm:=dV q ((z.getD k 0:Int):Rat) (by omega) (by omega)
   have e1:=hrg k
   have es:=hvs k (by omega)
   have hset:=aE6 (l:=aBf n q z k) (j:=k) (by omega) (q*((z.getD k 0:Int):Rat))
   rw[es]at hset
   generalize q*((z.getD k 0:Int):Rat)=S at*
   generalize ((z.getD k 0:Int):Rat)=T at*
   simp only[aH,i64]at gm
   refine sU (nd e1 hset) ?_
   refine⟨⟨k+1,by omega⟩,?_,by simp only;omega⟩
   simp only[i64]
   exact zL1 [0,1]
  ·obtain rfl:k=N:=by omega
   rw[hva]
   have hql:=iW n q z
   generalize sA n q z=VQ at*
   subst hql
   refine zU ?_
   exact zQ5
theorem zH (A B:List Rat) (n:Nat) (hA:A.length=n) (hB:B.length=n) (n1:1≤n) (n2:n≤1000) (bA:∀ i,i<n→lq (A.getD i 0)≤100000) (bB:∀ i,i<n→lq (B.getD i 0)≤100000):PureGood Tryz.prog 184 [.sl n (qc A),.sl n (qc B)] (.sl n (qc (pT A B))):=by
 have hC:(pT A B).length=n:=by rw[zF (by omega),hA]
 have hg:=fO (a:=A) (b:=B) (by omega)
 generalize pT A B=C at*
 refine aA bC Tryz.func184 rfl (by decide) (nt:=26) rfl (rs:=[.tmp 4]) rfl (aZ rfl) ?_
 refine zU ?_
 refine aI (α:={m:Nat // m≤n}) (fun m=>st 26 (lk [(0,.sl n (qc A)),(1,.sl n (qc B)),(5,nV 0 m.1),(6,i64 m.1)]) (cP (nB 0 m.1 (qc (C.take m.1)))) 1) (fun m=>n-m.1) ⟨0,by omega⟩ ?_ ?_
 ·simp only[mU,mV,i64]
  (refine Sub.plain ?_;simp only[aG,dg,renL,renLs,simprocAttr,bl,i64,smT,smO])
  all_goals(first |done |simp)
 ·rintro⟨m,hm⟩
  simp only[st]
  by_cases hlt:m<n
  ·have ga:=kP (A.getD m 0) (B.getD m 0) (by have:=bA m hlt;omega) (by have:=bB m hlt;omega)
   rw[← hg m]at ga
   have happ:=eJ (L:=C) (m:=m) (by omega)
   have htl:(C.take m).length=m:=by rw[List.length_take];omega
   generalize C.getD m 0=S at*
   generalize hx:A.getD m 0=x at*
   generalize hy:B.getD m 0=y at*
   simp only[aH]at ga
   by_cases h0:m=0
   ·simp only[oA h0,oB h0]
    refine sU (nd hx hy) ?_
    refine⟨⟨m+1,by omega⟩,?_,by simp only;omega⟩
    subst h0
    simp only[dR,dS,i64]
    have e:C.take 1=[S]:=happ
    (refine Sub.heapL [16] rfl (by decide) ?_ (by simp only[fB];decide) ?_ ?_;all_goals(first|(simp only[aB,aG,dg,renL,renLs,simprocAttr,bl,i64,smT,smO];done) |(simp only[aG,dg,renL,renLs,simprocAttr,bl,i64,smT,smO];(repeat' apply And.intro);all_goals rfl) |(simp only[aG,dg,renL,renLs,simprocAttr,bl,i64,smT,smO]) |skip))
    all_goals(first |done |(rw[e,← jB]) |trace_state)
   ·simp only[lQ h0,lR h0]
    refine sU (nd hx hy) ?_
    refine⟨⟨m+1,by omega⟩,?_,by simp only;omega⟩
    simp only[dR,dS,i64]
    (refine Sub.heapL [16] rfl (by decide) ?_ (by simp only[fB];decide) ?_ ?_;all_goals(first|(simp only[aB,aG,dg,renL,renLs,simprocAttr,bl,i64,smT,smO];done) |(simp only[aG,dg,renL,renLs,simprocAttr,bl,i64,smT,smO];(repeat' apply And.intro);all_goals rfl) |(simp only[aG,dg,renL,renLs,simprocAttr,bl,i64,smT,smO]) |skip))
    all_goals(first |done |(rw[happ,← gY]) |trace_state)
  ·obtain rfl:m=n:=by omega
   have h0:¬m=0:=by omega
   have ht:C.take m=C:=List.take_of_length_le (by omega)
   rw[ht]
   simp only[lQ h0,lR h0]
   subst hC
   refine zU ?_
   exact zQ5
end
section
open Go Go.Lg Go.Num
attribute [local irreducible] lrun lwp exThen exBlk keep goodPost sg mg sS qs sv oc mC
end
section
open Go Go.Lg Go.Num
attribute [local irreducible] lrun lwp exThen exBlk keep goodPost sg mg sS qs sv oc mC dc
end
section
open Go Go.Lg Go.Num
attribute [local irreducible] lrun lwp exThen exBlk keep goodPost sg mg sS qs sv oc mC dc
theorem aRd (q:Rat) (hq:lq q≤1000) (h:q.num≠0):PureGood Tryz.prog 186 [bF q] (bl false):=by
 have r1:=eH q (by omega)
 have hl:(aC q.num.natAbs).length≠0:=by
  intro e
  have h2:=bO.1 (List.eq_nil_of_length_eq_zero e)
  omega
 have hl2:(aC q.num.natAbs).length≤1000:=by unfold lq len at hq;omega
 simp only[aH]at*
 refine aA bC Tryz.func186 rfl (by decide) (nt:=9) rfl (rs:=[.tmp 2]) rfl (aZ rfl) ?_
 (repeat(first|apply zO (by decide+kernel)|apply zP (by decide+kernel)|(apply zS;(case h=>constructor<;>decide))|((first|apply cD rfl|apply aR|apply zT rfl (by decide) rfl);(case hs=>(simp(disch:=first|omega|exact kD rfl|exact kX rfl) only[smY,simprocAttr,bl,i64,smT,vE];exact rfl));first|refine cB ?_|refine cC ?_|refine zq ?_|(case hg=>assumption))))
 ((first|apply dG|apply dI);case hres=>(simp only[iC];simp(disch:=first|omega|exact kD rfl|exact kX rfl) only[smY,simprocAttr,bl,i64,smT,vE];exact rfl))
 simp(disch:=first|omega|exact kD rfl|exact kX rfl) only[smY,simprocAttr,bl,i64,smT,vE]
end
end Go.Proofs.YtaidcaemdkncgaaGreatDoor
namespace Go.Num
section
def tzF:Nat→Nat→Nat
 |0,_=>0
 |f+1,n=>bif Nat.beq (Nat.mod n 2) 0 then Nat.succ (tzF f (Nat.div n 2))else 0
def tz (n:Nat):Nat:=tzF 10 n
def dm (d:Int) (m:Nat):Nat:=Int.toNat (Int.emod d (Int.ofNat m))
def two (d:Int):Int:=bif Nat.beq (dm d 8) 1 ||Nat.beq (dm d 8) 7 then 1 else bif Nat.beq (dm d 8) 3 ||Nat.beq (dm d 8) 5 then -1 else 0
end
section
def aGl (a:Nat→Rat):Nat→Nat→Nat
 |0,i=>i
 |f+1,i=>if a i=0 then aGl a f (i+1)else i
def ordN (a:Nat→Rat) (N:Nat):Nat:=aGl a N 0
theorem aH9 (a:Nat→Rat):∀ f i,i≤aGl a f i∧aGl a f i≤i+f∧(∀ j,i≤j→j<aGl a f i→a j=0)∧(aGl a f i<i+f→a (aGl a f i)≠0)
 |0,i=>⟨Nat.le_refl _,Nat.le_refl _,fun j h1 h2=>by simp only[aGl]at h2;omega,fun h=>by simp only[aGl]at h;omega⟩
 |f+1,i=>by
  unfold aGl
  by_cases h:a i=0
  · rw[if_pos h]
    obtain⟨h1,h2,h3,h4⟩:=aH9 a f (i+1)
    refine⟨by omega,by omega,fun j a1 a2=> ?_,fun h5=>h4 (by omega)⟩
    by_cases e:j=i
    · rw[e];exact h
    · exact h3 j (by omega) a2
  · rw[if_neg h]
    exact⟨Nat.le_refl _,by omega,fun j a1 a2=>by omega,fun _=>h⟩
theorem iM (a:Nat→Rat) (N:Nat):ordN a N≤N∧(∀ j,j<ordN a N→a j=0)∧(ordN a N<N→a (ordN a N)≠0):=by
 obtain⟨_,h2,h3,h4⟩:=aH9 a N 0
 exact⟨by unfold ordN;omega,fun j hj=>h3 j (by omega) hj,fun h=>h4 (by unfold ordN at h;omega)⟩
theorem aC3 {a:Nat→Rat}{N o:Nat}(h1:o≤N) (h2:∀ j,j<o→a j=0) (h3:o<N→a o≠0):ordN a N=o:=by
 obtain⟨a1,a2,a3⟩:=iM a N
 by_cases h:ordN a N<o
 ·exact absurd (h2 _ h) (a3 (by omega))
 ·by_cases h':o<ordN a N
  ·exact absurd (a2 _ h') (h3 (by omega))
  ·omega
theorem aRe {a:Nat→Rat}{N f:Nat}(hf:f≤N) (h:∀ j,j<f→a j=0):ordN a N=f+ordN (fun i=>a (f+i)) (N-f):=by
 obtain⟨a1,a2,a3⟩:=iM (fun i=>a (f+i)) (N-f)
 refine aC3 (by omega) (fun j hj=> ?_) (fun h'=>a3 (by omega))
 by_cases e:j<f
 ·exact h j e
 ·have:=a2 (j-f) (by omega)
  rwa [show f+(j-f)=j by omega]at this
end
end Go.Num
namespace Go.Proofs.YtaidcaemdkncgaaGreatDoor
open Go Go.Lg Go.Num
attribute [local irreducible] lrun lwp exThen exBlk keep goodPost sg mg oc mC bq
theorem aB8 (d N:Nat) (hd1:1≤d) (hd:d≤1000) (hN:N≤40):PureGood Tryz.prog 183 [aO (d:Int),i64 N] (aO ((d:Int)^N)):=by
 have r1:=vA
 have L:∀ e,e≤120→len ((d:Int)^e)≤40:=by
  intro e he
  refine bVk (e:=40) ?_
  rw[Int.natAbs_pow,Int.natAbs_natCast]
  exact Nat.lt_of_le_of_lt (Nat.le_trans (Nat.pow_le_pow_left hd e) (Nat.pow_le_pow_right (by omega) he)) (by decide+kernel)
 have e0:aO (1:Int)=aO ((d:Int)^0):=by rw[Int.pow_zero]
 have e1:aO (d:Int)=aO ((d:Int)^1):=by rw[Int.pow_succ,Int.pow_zero,Int.one_mul]
 have M:∀ e f,e≤120→f≤120→PureGood Tryz.prog 159 [aO ((d:Int)^e),aO ((d:Int)^f)] (aO ((d:Int)^(e+f))):=by
  intro e f he hf
  have:=fN ((d:Int)^e) ((d:Int)^f) (Nat.le_trans (L e he) (by omega)) (Nat.le_trans (L f hf) (by omega))
  rwa [← Int.pow_add]at this
 rw[e1]
 rw[e0]at r1
 clear e0 e1 L
 generalize hP:(fun e:Nat=>(d:Int)^e)=P at*
 have hP':∀ e,(d:Int)^e=P e:=fun e=>by rw[← hP]
 simp only[hP']at M r1⊢
 clear hP hP'
 simp only[aW,i64]at*
 refine aA bC Tryz.func183 rfl (by decide) (nt:=23) rfl (rs:=[.cell 4 45]) rfl (aZ rfl) ?_
 refine zU ?_
 refine aI (α:={p:Nat×Nat×Nat // p.1+p.2.1*p.2.2=N∧p.2.1≤41∧p.2.2≤40}) (fun p=>st 23 (lk [(1,i64 p.1.2.2),(2,.ptr 0 0),(4,.ptr 1 0),(5,.ptr 2 0)]) (cP [(0,⟨45,[sg (P p.1.2.1),mg (P p.1.2.1)],false⟩),(1,⟨45,[bl false,.lit (.slice none 0 0)],false⟩),(2,⟨45,[sg (P p.1.1),mg (P p.1.1)],false⟩)]) 3) (fun p=>p.1.2.2) ⟨(0,1,N),by simp,by simp,hN⟩ ?_ ?_
 ·exact zL1 [0,1,3]
 ·rintro⟨⟨e,f,n⟩,h1,h2,h3⟩
  simp only at h1 h2 h3
  simp only[st]
  by_cases hn:n=0
  ·subst hn
   obtain rfl:e=N:=by simpa using h1
   refine zU ?_
   exact zQ5
  ·have hfn:f≤f*n:=Nat.le_mul_of_pos_right f (by omega)
   have m1:=M e f (by omega) (by omega)
   have m2:=M f f (by omega) (by omega)
   have hlt:n / 2<n:=Nat.div_lt_self (by omega) (by omega)
   by_cases ho:n % 2=1
   ·by_cases hz:n / 2=0
    ·obtain rfl:n=1:=by omega
     refine zU ?_
     refine⟨⟨(e+f,f,0),by simp only;omega,by simp only;omega,by simp only;omega⟩,?_,by simp only;omega⟩
     exact zL1 [0,1,2]
    ·have hk:f*n=f+(f+f)*(n / 2):=by
      conv=>lhs;rw[show n=1+2*(n / 2)by omega]
      rw[Nat.mul_add,Nat.mul_one,Nat.add_mul,← Nat.mul_assoc,Nat.mul_comm f 2,Nat.mul_assoc,Nat.two_mul]
     have h4:f+f≤(f+f)*(n / 2):=Nat.le_mul_of_pos_right _ (by omega)
     refine zU ?_
     refine⟨⟨(e+f,f+f,n / 2),by simp only;omega,by simp only;omega,by simp only;omega⟩,?_,hlt⟩
     exact zL1 [0,1,2]
   ·have hk:f*n=(f+f)*(n / 2):=by
     conv=>lhs;rw[show n=2*(n / 2)by omega]
     rw[Nat.add_mul,← Nat.mul_assoc,Nat.mul_comm f 2,Nat.mul_assoc,Nat.two_mul]
    have hz:n / 2≠0:=by omega
    have h4:f+f≤(f+f)*(n / 2):=Nat.le_mul_of_pos_right _ (by omega)
    refine zU ?_
    refine⟨⟨(e,f+f,n / 2),by simp only;omega,by simp only;omega,by simp only;omega⟩,?_,hlt⟩
    exact zL1 [0,1,2]
end Go.Proofs.YtaidcaemdkncgaaGreatDoor
namespace Go.Num
theorem aN8 {n j:Nat}(hj:j≤n):((ch n j:Int):Rat)*Rat.divInt ((n:Int)-j) ((j:Int)+1)=((ch n (j+1):Int):Rat):=by
 have h:=aEr n j
 have h2:(ch n j:Int)*((n:Int)-j)=(ch n (j+1):Int)*((j:Int)+1):=by
  rw[show(n:Int)-j=((n-j:Nat):Int)by omega,show(j:Int)+1=((j+1:Nat):Int)by omega,← Int.natCast_mul,← Int.natCast_mul,h]
 have hz:(((j:Int)+1:Int):Rat)≠0:=by
  intro e
  have:=Rat.intCast_inj.1 (e.trans Rat.intCast_zero.symm)
  omega
 rw[Rat.divInt_eq_div,Rat.div_def,← Rat.mul_assoc,← Rat.intCast_mul,h2,Rat.intCast_mul,Rat.mul_assoc,Rat.mul_inv_cancel _ hz,Rat.mul_one]
theorem cLe (a:Rat):(-a)⁻¹= -a⁻¹:=by
 rw[Rat.inv_def,Rat.inv_def,Rat.neg_num,Rat.neg_den,Rat.neg_divInt,Rat.divInt_neg']
theorem aN9 {s:Rat}{m:Nat}:s*Rat.divInt (-1) ((m:Int)+1)=s / ((-(m:Int)-1:Int):Rat):=by
 rw[show(-(m:Int)-1:Int)= -((m:Int)+1)by omega,Rat.divInt_eq_div,Rat.div_def,Rat.div_def,Rat.intCast_neg,Rat.intCast_neg,cLe,Rat.mul_neg,Rat.neg_mul,Rat.mul_neg]
 congr 2
 show(1:Rat)*_=_
 rw[Rat.one_mul]
theorem aXm:((List.range 41).all fun k=>(vU k).reverse==vU k)=true:=by decide+kernel
theorem bI4 {k j:Nat}(hk:k≤40) (hj:j≤k):ch k (k-j)=ch k j:=by
 have h:=List.all_eq_true.1 aXm k (List.mem_range.2 (by omega))
 have h1:(vU k).reverse=vU k:=by simpa using h
 have g1:=gX k j
 have g2:=gX k (k-j)
 rw[if_pos hj]at g1
 rw[if_pos (by omega)]at g2
 have hl:(vU k).length=k+1:=uD k
 have h3:(vU k).reverse[j]? =(vU k)[k-j]? :=by
  rw[List.getElem?_reverse (by omega)]
  congr 1
  omega
 rw[h1,g1,g2]at h3
 exact(Option.some.inj h3).symm
def hrB (k j:Nat) (x:Rat):Rat:=mW ((xN k).drop (k+1-j)) x
theorem aFq (k:Nat):(xN k).length=k+1:=by simp[xN]
theorem bDj (k:Nat) (x:Rat):hrB k 0 x=0:=by
 unfold hrB
 rw[List.drop_of_length_le (by rw[aFq];omega)]
 rfl
theorem bI5 (k:Nat) (x:Rat):hrB k (k+1) x=mW (xN k) x:=by
 unfold hrB
 rw[Nat.sub_self,List.drop_zero]
theorem bDk {k j:Nat}(hk:k≤40) (hj:j≤k) (x:Rat):hrB k (j+1) x=hrB k j x*x+((ch k j:Int):Rat)*bq j:=by
 unfold hrB
 have hl:=aFq k
 rw[show k+1-(j+1)=k-j by omega,List.drop_eq_getElem_cons (by omega:k-j<(xN k).length),show k-j+1=k+1-j by omega]
 have:(xN k)[k-j]'(by omega)=((ch k j:Int):Rat)*bq j:=by
  simp only[xN,List.getElem_map,List.getElem_range]
  rw[bI4 hk hj,show k-(k-j)=j by omega]
 rw[this]
 rfl
theorem bV3 {A k j:Nat}{x:Rat}(hx:lq x≤A) (hA:A≤1000) (hk:k≤40):lq (hrB k j x)≤100000:=aJ7 hx hA (by omega)
end Go.Num
namespace Go.Proofs.YtaidcaemdkncgaaGreatDoor
section
open Go Go.Lg Go.Num
attribute [local irreducible] lrun lwp exThen exBlk keep goodPost sg mg bq xN mW sR aNr mA ch hrB
theorem bOi {n j:Nat}(hn:n≤60):lq ((ch n j:Int):Rat)≤10:=by
 have c1:=aEs (show n≤100 by omega) j
 rw[rJ]
 omega
theorem aOa (n:Nat) (hn:n≤40):PureGood Tryz.prog 181 [i64 n] (encF (bn (n+1))):=by
 have h1:=fD 1 (by omega)
 have h0:=fD 0 (by omega)
 rw[bD,jI]
 rw[show((1:Int):Rat)=bq 0 by rw[bq0];rfl]at h1
 have hb1:bn 1=[bq 0]:=rfl
 rw[aH,i64]at*
 refine aA bC Tryz.func181 rfl (by decide) (nt:=48) rfl (rs:=[.tmp 2]) rfl (aZ rfl) ?_
 refine dM ?_
 refine aI (α:={m:Nat // 0<m∧m≤n+1}) (fun m=>st 48 (lk [(0,i64 n),(2,nilL),(3,.own 0 0 m.1 4),(4,i64 m.1)]) (cP [(0,⟨47,qc (bn m.1),false⟩)]) 1) (fun m=>n+1-m.1) ⟨1,by omega,by omega⟩ ?_ ?_
 ·(refine Sub.heap1 2 ?_ (by simp only[aG,dg,renL,renLs,simprocAttr,bl,i64,smT];exact rfl) ?_ ?_;all_goals(first |exact aE _ |with_reducible rfl |(simp only[aG,dg,renL,renLs,simprocAttr,bl,i64,smT])|skip))
  rw[hb1,← jB]
 ·rintro⟨m,hm0,hm⟩
  simp only[st]
  have hl:=jI m
  by_cases hlt:m≤n
  ·have hs0:=aHi (m+1)
   rw[show((0:Int):Rat)=mA (m+1) 0 by rw[hs0];rfl]at h0
   rw[show bq 0=((ch (m+1) 0:Int):Rat)by rw[bq0,rP];rfl]at h1
   refine dM ?_
   refine aI (α:={k:Nat // k≤m}) (fun k=>st 48 (lk [(0,i64 n),(2,nilL),(3,.own 0 0 m 4),(4,i64 m),(5,.ptr 1 0),(6,.ptr 2 0),(7,i64 k.1)]) (cP [(0,⟨47,qc (bn m),false⟩),(1,⟨47,[sg (mA (m+1) k.1).num,mg (mA (m+1) k.1).num,sg ((mA (m+1) k.1).den:Int),mg ((mA (m+1) k.1).den:Int)],false⟩),(2,⟨47,[sg (((ch (m+1) k.1:Int):Rat)).num,mg (((ch (m+1) k.1:Int):Rat)).num,sg ((((ch (m+1) k.1:Int):Rat)).den:Int),mg ((((ch (m+1) k.1:Int):Rat)).den:Int)],false⟩)]) 3) (fun k=>m-k.1) ⟨0,by omega⟩ ?_ ?_
   ·exact zL0 [0,6,7]
   ·rintro⟨k,hk⟩
    simp only[st]
    by_cases hkl:k<m
    ·have c1:=bOi (n:=m+1) (j:=k) (by omega)
     have c2:=aCx (n:=m+1) (k:=k) (by omega) (by omega)
     have c3:=aM6 k
     have c4:=kK ((ch (m+1) k:Int):Rat) (bq k)
     have c5:lq (Rat.divInt (((m+1:Nat):Int)-(k:Int)) ((k:Int)+1))≤3:=by
      obtain⟨a1,a2⟩:=eK (n:=((m+1:Nat):Int)-(k:Int)) (d:=(k:Int)+1) (by omega)
      have a3:len (((m+1:Nat):Int)-(k:Int))≤1:=bG (e:=1) (by omega)
      have a4:len ((k:Int)+1)≤1:=bG (e:=1) (by omega)
      unfold lq
      omega
     have g0:=qI (((m+1:Nat):Int)-(k:Int)) ((k:Int)+1) (by omega) (by omega)
     have g1:=dV ((ch (m+1) k:Int):Rat) (Rat.divInt (((m+1:Nat):Int)-(k:Int)) ((k:Int)+1)) (by omega) (by omega)
     rw[aN8 (n:=m+1) (by omega)]at g1
     have g2:=dV ((ch (m+1) k:Int):Rat) (bq k) (by omega) (by omega)
     have g3:=kP (mA (m+1) k) (((ch (m+1) k:Int):Rat)*bq k) (by omega) (by omega)
     rw[← aHj]at g3
     have e2:(bn m).getD k 0=bq k:=aCw hkl
     have e3:((m+1:Nat):Int)=(m:Int)+1:=by omega
     rw[e3]at g0
     clear c1 c2 c3 c4 c5
     generalize ((ch (m+1) k:Int):Rat)*bq k=v at*
     rw[e3]at g1
     generalize Rat.divInt ((m:Int)+1-(k:Int)) ((k:Int)+1)=dv at*
     simp only[aH,i64]at g0 g1 g2 g3
     refine cW e2 ?_
     refine⟨⟨k+1,by omega⟩,?_,by simp only;omega⟩
     exact zL0 [0,1,2]
    ·obtain rfl:k=m:=by omega
     have c2:=aCx (n:=k+1) (k:=k) (by omega) (by omega)
     have g0:=qI (-1) ((k:Int)+1) (by omega) (by omega)
     have c5:lq (Rat.divInt (-1) ((k:Int)+1))≤3:=by
      obtain⟨a1,a2⟩:=eK (n:= -1) (d:=(k:Int)+1) (by omega)
      have a3:len (-1)≤1:=bG (e:=1) (by omega)
      have a4:len ((k:Int)+1)≤1:=bG (e:=1) (by omega)
      unfold lq
      omega
     have g2:=dV (mA (k+1) k) (Rat.divInt (-1) ((k:Int)+1)) (by omega) (by omega)
     rw[aN9,aSw hm0 (by omega)]at g2
     generalize Rat.divInt (-1) ((k:Int)+1)=dv at*
     simp only[aH,i64]at g0 g2
     have happ:=aSv k
     refine dM ?_
     refine⟨⟨k+1,by omega,by omega⟩,?_,by simp only;omega⟩
     (refine Sub.heap1 13 ?_ (by simp only[aG,dg,renL,renLs,simprocAttr,bl,i64,smT];exact rfl) ?_ ?_;all_goals(first |exact aE _ |with_reducible rfl |(simp only[aG,dg,renL,renLs,simprocAttr,bl,i64,smT])|skip))
     rw[happ,← gY]
  ·obtain rfl:m=n+1:=by omega
   refine dM ?_
   exact mJ
end
section
open Go Go.Lg Go.Num
attribute [local irreducible] lrun lwp exThen exBlk keep goodPost sg mg bq xN mW sR aNr mA ch hrB
theorem aKh (k:Nat) (hk:k≤40) (x:Rat) (hx:lq x≤1000):PureGood Tryz.prog 182 [i64 k,.sl (k+1) (qc (bn (k+1))),bF x] (bF (mW (xN k) x)):=by
 have hb:=jI (k+1)
 have h1:=fD 1 (by omega)
 have h0:=fD 0 (by omega)
 rw[show((0:Int):Rat)=hrB k 0 x by rw[bDj];rfl]at h0
 rw[show((1:Int):Rat)=((ch k 0:Int):Rat)by rw[rP];rfl]at h1
 rw[← bI5]
 have step:∀ j,j≤k→PureGood Tryz.prog 150 [bF (hrB k j x),bF x] (bF (hrB k j x*x))∧
   PureGood Tryz.prog 150 [bF ((ch k j:Int):Rat),bF (bq j)] (bF (((ch k j:Int):Rat)*bq j))∧
   PureGood Tryz.prog 69 [bF (hrB k j x*x),bF (((ch k j:Int):Rat)*bq j)] (bF (hrB k (j+1) x))∧
   PureGood Tryz.prog 53 [i64 ((k:Int)-j),i64 ((j:Int)+1)] (bF (Rat.divInt ((k:Int)-j) ((j:Int)+1)))∧
   PureGood Tryz.prog 150 [bF ((ch k j:Int):Rat),bF (Rat.divInt ((k:Int)-j) ((j:Int)+1))] (bF ((ch k (j+1):Int):Rat)):=by
  intro j hj
  have c1:=bOi (n:=k) (j:=j) (by omega)
  have c2:=bV3 (k:=k) (j:=j) hx (by omega) hk
  have c3:=aM6 j
  have c4:=kK ((ch k j:Int):Rat) (bq j)
  have c6:=kK (hrB k j x) x
  have c5:lq (Rat.divInt ((k:Int)-(j:Int)) ((j:Int)+1))≤3:=by
   obtain⟨a1,a2⟩:=eK (n:=(k:Int)-(j:Int)) (d:=(j:Int)+1) (by omega)
   have a3:len ((k:Int)-(j:Int))≤1:=bG (e:=1) (by omega)
   have a4:len ((j:Int)+1)≤1:=bG (e:=1) (by omega)
   unfold lq
   omega
  have g1:=dV ((ch k j:Int):Rat) (Rat.divInt ((k:Int)-(j:Int)) ((j:Int)+1)) (by omega) (by omega)
  rw[aN8 (n:=k) hj]at g1
  refine⟨dV _ _ (by omega) (by omega),dV _ _ (by omega) (by omega),?_,qI _ _ (by omega) (by omega),g1⟩
  rw[bDk hk hj]
  exact kP _ _ (by omega) (by omega)
 simp only[aH,i64]at h0 h1 step⊢
 refine aA bC Tryz.func182 rfl (by decide) (nt:=36) rfl (rs:=[.cell 6 47]) rfl (aZ rfl) ?_
 refine dM ?_
 refine aI (α:={j:Nat // j≤k+1}) (fun j=>st 36 (lk [(0,i64 k),(1,.sl (k+1) (qc (bn (k+1)))),(5,.ptr 0 0),(6,.ptr 1 0),(7,.ptr 2 0),(8,.ptr 3 0),(9,i64 j.1)]) (cP [(0,⟨47,[sg (x).num,mg (x).num,sg ((x).den:Int),mg ((x).den:Int)],false⟩),(1,⟨47,[bl false,.lit (.slice none 0 0),bl false,.lit (.slice none 0 0)],false⟩),(2,⟨47,[sg (hrB k j.1 x).num,mg (hrB k j.1 x).num,sg ((hrB k j.1 x).den:Int),mg ((hrB k j.1 x).den:Int)],false⟩),(3,⟨47,[sg (((ch k j.1:Int):Rat)).num,mg (((ch k j.1:Int):Rat)).num,sg ((((ch k j.1:Int):Rat)).den:Int),mg ((((ch k j.1:Int):Rat)).den:Int)],false⟩)]) 4) (fun j=>k+1-j.1) ⟨0,by omega⟩ ?_ ?_
 ·exact zL0 [0,1,4,5]
 ·rintro⟨j,hj⟩
  simp only[st]
  by_cases hlt:j≤k
  ·obtain⟨w1,w2,w3,w4,w5⟩:=step j hlt
   have e2:(bn (k+1)).getD j 0=bq j:=aCw (by omega)
   generalize hrB k j x*x=v at*
   generalize ((ch k j:Int):Rat)*bq j=u at*
   generalize Rat.divInt ((k:Int)-j) ((j:Int)+1)=dv at*
   refine cW e2 ?_
   refine⟨⟨j+1,by omega⟩,?_,by simp only;omega⟩
   exact zL0 [0,1,2,3]
  ·obtain rfl:j=k+1:=by omega
   refine dM ?_
   exact mJ
end
section
open Go Go.Lg Go.Num
structure ZtD (m n:Nat):Prop where
 m1:1≤m
 m2:m≤42
 n1:1≤n
 n2:n≤12
 rz:∀ e,e<m→PureGood Tryz.prog 258 [i64 m,i64 e] (encF (rz (zI m e)))
 pz:∀ e,e<m→PureGood Tryz.prog 84 [i64 m,i64 e] (.tup [encF (Go.Proofs.YtaidcaemdkncgaaGreatDoor.rz (zI m e)),i64 0])
 zl:∀ e,e<m→(zI m e).length≤n
 zs:∀ e,e<m→∀ z∈zI m e,z.natAbs≤10
def sY (ix1 ix2:Nat→Option Nat) (m o1 o2 l D:Nat):Option Nat:=if l % (D+1)=0 then(match ix1 (l / (D+1)-1),ix2 D with
 |some i,some j=>some ((i*(m / o1)+j*(m / o2)) % m)
 |_,_=>none)else none
def lS (k D:Nat):Int:=((D+1:Nat):Int)^(k-1)
def vP (te:Nat→Option Nat) (k m n:Nat):Nat→List Rat
 |0=>List.replicate n 0
 |D+1=>match te D with
  |none=>vP te k m n D
  |some e=>pT (vP te k m n D) (sA n ((lS k D:Int):Rat) (zI m e))
theorem sB (te:Nat→Option Nat) (k m n:Nat):∀ D,(vP te k m n D).length=n
 |0=>by simp[vP]
 |D+1=>by
  unfold vP
  cases te D with
  |none=>exact sB te k m n D
  |some e=>simp only;rw[zF (by rw[sB te k m n D,iW]),sB te k m n D]
theorem aC4 {k D:Nat}(hk:k≤40) (hD:D<100):len (lS k D)≤10:=by
 have:=aNq (n:=D+1) (k:=k-1) (by omega) (by omega)
 have h2:(lS k D).natAbs≤2^273:=by
  unfold lS
  rw[Int.natAbs_pow,Int.natAbs_natCast]
  have h1:(D+1)^(k-1)≤128^(k-1):=Nat.pow_le_pow_left (by omega) _
  have h3:128^(k-1)≤128^39:=Nat.pow_le_pow_right (by omega) (by omega)
  have h4:(128:Nat)^39=2^273:=by decide+kernel
  omega
 exact Go.Num.len_two (a:=273) h2 (by omega)
theorem aT8 {k D n i:Nat}{z:List Int}(hk:k≤40) (hD:D<100) (hz:∀ x∈z,x.natAbs≤10) (hi:i<n):lW 1 12 ((sA n ((lS k D:Int):Rat) z).getD i 0):=by
 rw[qO hi,← Rat.intCast_mul]
 refine⟨_,aFp _,?_⟩
 have h1:=cH (lS k D) (z.getD i 0)
 have h2:=aC4 hk hD
 have h3:len (z.getD i 0)≤1:=by
  rcases Nat.lt_or_ge i z.length with h |h
  ·have hm:z.getD i 0∈z:=by
    rw[show z.getD i 0=z[i]by simp[List.getD,h]]
    exact List.getElem_mem h
   have:=hz _ hm
   exact bG (a:=z.getD i 0) (e:=1) (by omega)
  ·have:z.getD i 0=0:=by simp[List.getD,h]
   rw[this]
   decide+kernel
 omega
theorem aKi {te:Nat→Option Nat}{k m n:Nat}(hk:k≤40) (hz:∀ e,e<m→∀ z∈zI m e,z.natAbs≤10) (hte:∀ D e,te D=some e→e<m):∀ D,D≤100→∀ i,i<n→lW 1 (13+D) ((vP te k m n D).getD i 0)
 |0,_,i,hi=>by
  have:(vP te k m n 0).getD i 0=0:=by simp[vP,List.getD,hi]
  rw[this]
  exact zB _ _
 |D+1,hD,i,hi=>by
  unfold vP
  have ih:=aKi (te:=te) hk hz hte D (by omega) i hi
  cases he:te D with
  |none=>exact ih.mono (by omega)
  |some e=>
   simp only
   rw[fO (by rw[sB,iW])]
   exact ih.add ((aT8 hk (by omega) (hz e (hte D e he)) hi).mono (by omega))
theorem aRf {te:Nat→Option Nat}{k m n:Nat}(hk:k≤40) (hz:∀ e,e<m→∀ z∈zI m e,z.natAbs≤10) (hte:∀ D e,te D=some e→e<m) {D:Nat}(hD:D≤100) {i:Nat}(hi:i<n):lq ((vP te k m n D).getD i 0)≤300:=by
 have:=(aKi hk hz hte D hD i hi).lq (K:=1) (by decide) (by decide+kernel)
 omega
theorem aKj {ix1 ix2:Nat→Option Nat}{m o1 o2 l D e:Nat}(hm:1≤m) (h:sY ix1 ix2 m o1 o2 l D=some e):e<m:=by
 unfold sY at h
 split at h
 ·split at h
  ·injection h with h
   rw[← h]
   exact Nat.mod_lt _ (by omega)
  ·cases h
 ·cases h
theorem xK (n:Nat) (h1:1≤n) (hn:n≤100000):PureGood Tryz.prog 66 [i64 n] (.sl n (qc (List.replicate n 0))):=
 aBv (aH7 n h1 hn) (by simp[aB,i64]) (by rw[gH];simp) (kR (Q:=fun c=>gI c=true) rQ rR _)
theorem aT9 {k D:Nat}(hk:k≤40) (hD:D<100):lq ((lS k D:Int):Rat)≤20:=by
 rw[rJ]
 have:=aC4 hk hD
 omega
attribute [local irreducible] lrun lwp exThen exBlk keep goodPost sg mg oc op ec vP sA zI rz lS
theorem aKk {n1 o1 c1 n2 o2 c2:Nat}{v1 v2:List Int}{b1 b2:Bool}{ix1 ix2:Nat→Option Nat}(h1:SeD n1 v1 o1 c1 b1 ix1) (h2:SeD n2 v2 o2 c2 b2 ix2) {m n:Nat}(hZ:ZtD m n) (hm1:m % o1=0) (hm2:m % o2=0) {k l:Nat}(k1:2≤k) (k2:k≤40) (l1:1≤l) (l2:l≤20) (T:Int):
  PureGood Tryz.prog 96 [i64 k,.agg [i64 n1,.sl v1.length (ec v1),i64 n2,.sl v2.length (ec v2),i64 T],i64 m,i64 n,i64 l] (.sl n (qc (vP (sY ix1 ix2 m o1 o2 l) k m n l))):=by
 obtain⟨m1,m2,nn1,nn2,hrz,_,hzl,hzs⟩:=hZ
 have gz:=xK n nn1 (by omega)
 have hte:=fun D e h=>aKj (ix1:=ix1) (ix2:=ix2) (o1:=o1) (o2:=o2) (l:=l) (D:=D) (e:=e) m1 h
 have hal:=sB (sY ix1 ix2 m o1 o2 l) k m n
 have hlq:=fun D (hD:D≤100) i (hi:i<n)=>aRf (te:=sY ix1 ix2 m o1 o2 l) (k:=k) k2 hzs hte hD hi
 have hac0:vP (sY ix1 ix2 m o1 o2 l) k m n 0=List.replicate n 0:=by unfold vP;rfl
 rw[← hac0]at gz
 have ek:((k:Int)-1)=((k-1:Nat):Int):=by omega
 simp only[i64]at gz⊢
 refine aA bC Tryz.func96 rfl (by decide) (nt:=61) rfl (rs:=[.tmp 10]) rfl (aZ rfl) ?_
 refine zU ?_
 refine aI (α:={D:Nat // D≤l}) (fun D=>st 61 (lk [(0,i64 k),(2,i64 m),(3,i64 n),(4,i64 l),(6,.ptr 0 0),(11,.sl n (qc (vP (sY ix1 ix2 m o1 o2 l) k m n D.1))),(12,i64 ((D.1:Int)+1))]) (cP [(0,⟨58,[i64 n1,.sl v1.length (ec v1),i64 n2,.sl v2.length (ec v2),i64 T],false⟩)]) 1) (fun D=>l-D.1) ⟨0,by omega⟩ ?_ ?_
 ·simp only[i64]
  exact zL1 [0]
 ·rintro⟨D,hD⟩
  simp only[st]
  by_cases hlt:D<l
  ·have hd0:¬((D:Int)+1)=0:=by omega
   have qd:((l:Int)) % ((D:Int)+1)=((l % (D+1):Nat):Int):=rfl
   have qq:((l:Int)) / ((D:Int)+1)=((l / (D+1):Nat):Int):=rfl
   have hmod:l % (D+1)≤l:=Nat.mod_le _ _
   by_cases hdv:l % (D+1)=0
   ·have hq1:1≤l / (D+1):=Nat.div_pos (by omega) (by omega)
    have hq2:l / (D+1)≤l:=Nat.div_le_self _ _
    obtain⟨x,hx⟩:∃ x,l / (D+1)=x+1:=⟨l / (D+1)-1,by omega⟩
    have hte2:sY ix1 ix2 m o1 o2 l D=(match ix1 x,ix2 D with
     |some i,some j=>some ((i*(m / o1)+j*(m / o2)) % m)
     |_,_=>none):=by
     unfold sY
     rw[if_pos hdv,hx,Nat.add_sub_cancel]
    have qq':((l:Int)) / ((D:Int)+1)=(x:Int)+1:=by rw[qq,hx];rfl
    rw[hdv]at qd
    cases hi1:ix1 x with
    |none=>
     have g1:=(kW h1 (m:=m) (show x<60 by omega) hi1).2
     have hs:vP (sY ix1 ix2 m o1 o2 l) k m n (D+1)=vP (sY ix1 ix2 m o1 o2 l) k m n D:=by
       conv=>lhs;unfold vP
       rw[hte2,hi1]
     cases hi2:ix2 D with
     |none=>
      have g2:=(kW h2 (m:=m) (show D<60 by omega) hi2).2
      simp only[i64]at g1 g2
      refine pK (nd qd qq') ?_
      refine⟨⟨D+1,by omega⟩,?_,by simp only;omega⟩
      simp only[i64]
      rw[hs]
      exact zL2 [0]
     |some j=>
      obtain⟨_,g2,hjm⟩:=iL h2 (show D<60 by omega) hi2 hm2 m1 (by omega)
      generalize j*(m / o2)=J at*
      simp only[i64]at g1 g2
      refine pK (nd qd qq') ?_
      refine⟨⟨D+1,by omega⟩,?_,by simp only;omega⟩
      simp only[i64]
      rw[hs]
      exact zL2 [0]
    |some i=>
     obtain⟨_,g1,him⟩:=iL h1 (show x<60 by omega) hi1 hm1 m1 (by omega)
     cases hi2:ix2 D with
     |none=>
      have g2:=(kW h2 (m:=m) (show D<60 by omega) hi2).2
      have hs:vP (sY ix1 ix2 m o1 o2 l) k m n (D+1)=vP (sY ix1 ix2 m o1 o2 l) k m n D:=by
        conv=>lhs;unfold vP
        rw[hte2,hi1,hi2]
      generalize i*(m / o1)=I at*
      simp only[i64]at g1 g2
      refine pK (nd qd qq') ?_
      refine⟨⟨D+1,by omega⟩,?_,by simp only;omega⟩
      simp only[i64]
      rw[hs]
      exact zL2 [0]
     |some j=>
      obtain⟨_,g2,hjm⟩:=iL h2 (show D<60 by omega) hi2 hm2 m1 (by omega)
      obtain⟨e,he⟩:∃ e,(i*(m / o1)+j*(m / o2)) % m=e:=⟨_,rfl⟩
      have hem:e<m:=by rw[← he];exact Nat.mod_lt _ (by omega)
      have hs:vP (sY ix1 ix2 m o1 o2 l) k m n (D+1)=pT (vP (sY ix1 ix2 m o1 o2 l) k m n D) (sA n ((lS k D:Int):Rat) (zI m e)):=by
        conv=>lhs;unfold vP
        rw[hte2,hi1,hi2]
        simp only[he]
      have qe:((i*(m / o1):Nat):Int)+((j*(m / o2):Nat):Int)=((i*(m / o1)+j*(m / o2):Nat):Int):=rfl
      have qm:(((i*(m / o1):Nat):Int)+((j*(m / o2):Nat):Int)) % (m:Int)=(e:Int):=by
        rw[← he];rfl
      have w1:=kQ ((D:Int)+1) (by omega)
      have w2:=aB8 (D+1) (k-1) (by omega) (by omega) (by omega)
      have epw:((D+1:Nat):Int)^(k-1)=lS k D:=by unfold lS;rfl
      rw[epw]at w2
      have lpw:=aC4 (k:=k) (D:=D) k2 (by omega)
      have w3:=aB3 (lS k D) (by omega)
      have w4:=aB7 (q:=((lS k D:Int):Rat)) (hrz e hem) (hzl e hem) (hzs e hem) nn1 (by omega) (by have:=aT9 (k:=k) (D:=D) k2 (by omega);omega) (by omega) (by omega)
      have hvl:=iW n ((lS k D:Int):Rat) (zI m e)
      have w5:=zH (vP (sY ix1 ix2 m o1 o2 l) k m n D) (sA n ((lS k D:Int):Rat) (zI m e)) n (hal D) hvl nn1 (by omega) (fun i hi=>by have:=hlq D (by omega) i hi;omega) (fun i hi=>by
        have:=(aT8 (k:=k) (D:=D) k2 (by omega) (hzs e hem) hi).lq (K:=1) (by decide) (by decide+kernel)
        omega)
      rw[← hs]at w5
      have eD:((D+1:Nat):Int)=(D:Int)+1:=by omega
      rw[eD]at w2
      generalize hA1:vP (sY ix1 ix2 m o1 o2 l) k m n (D+1)=A1 at*
      generalize vP (sY ix1 ix2 m o1 o2 l) k m n D=A0 at*
      generalize sA n ((lS k D:Int):Rat) (zI m e)=V at*
      generalize hKQ:((lS k D:Int):Rat)=KQ at*
      generalize lS k D=KZ at*
      generalize i*(m / o1)=I at*
      generalize j*(m / o2)=J at*
      simp only[aW,aH,i64]at g1 g2 w1 w2 w3 w4 w5
      refine pK (nd qd (nd qq' (nd qe (nd he ek)))) ?_
      refine⟨⟨D+1,by omega⟩,?_,by simp only;omega⟩
      simp only[i64]
      rw[hA1]
      exact zL2 [0]
   ·have hs:vP (sY ix1 ix2 m o1 o2 l) k m n (D+1)=vP (sY ix1 ix2 m o1 o2 l) k m n D:=by
     conv=>lhs;unfold vP
     unfold sY
     rw[if_neg hdv]
    generalize hR:l % (D+1)=R at*
    refine pK qd ?_
    refine⟨⟨D+1,by omega⟩,?_,by simp only;omega⟩
    simp only[i64]
    rw[hs]
    exact zL2 [0]
  ·obtain rfl:D=l:=by omega
   refine zA7 ?_
   exact zQ6
end
section
open Go Go.Lg Go.Num
def trN (k f A:Nat):Rat:=sR k f A*Rat.divInt (-1) (2*(k:Int))
def wG (ix:Nat→Option Nat) (k f m o n:Nat):Nat→List Rat
 |0=>List.replicate n 0
 |A+1=>match ix A with
  |none=>wG ix k f m o n A
  |some j=>pT (wG ix k f m o n A) (sA n (trN k f A) (zI m (j*(m / o))))
theorem pH (ix:Nat→Option Nat) (k f m o n:Nat):∀ A,(wG ix k f m o n A).length=n
 |0=>by simp[wG]
 |A+1=>by
  unfold wG
  cases ix A with
  |none=>exact pH ix k f m o n A
  |some e=>simp only;rw[zF (by rw[pH ix k f m o n A,iW]),pH ix k f m o n A]
theorem aKl {k f A:Nat}(k1:1≤k) (k2:k≤40) (f1:1≤f) (f2:f≤60) (hA:A<f):lW (aBb k f*(2*(k:Int))) 201 (trN k f A):=by
 obtain⟨H,h1,h2⟩:=aFf k2 f1 f2 hA
 refine⟨H* -1,?_,?_⟩
 ·unfold trN
  rw[h1,Rat.divInt_mul_divInt]
 ·have:=cH H (-1)
  have h3:len (-1)≤1:=by decide+kernel
  omega
theorem aKm {k f:Nat}(k1:1≤k) (f1:1≤f):aBb k f*(2*(k:Int))≠0:=Int.mul_ne_zero (vJ f1) (by omega)
theorem aC5 {k f:Nat}(k2:k≤40) (f2:f≤60):len (aBb k f*(2*(k:Int)))≤61:=by
 have h1:=cH (aBb k f) (2*(k:Int))
 have h2:=qN (k:=k) (f:=f) k2 f2
 have h3:len (2*(k:Int))≤1:=bG (e:=1) (by omega)
 omega
theorem aOb {D:Int}{L:Nat}{q:Rat}(h:lW D L q) {z:Int}(hz:z.natAbs≤10):lW D (L+1) (q*(z:Rat)):=by
 obtain⟨H,e,hl⟩:=h
 refine⟨H*z,?_,?_⟩
 ·rw[e,aFp z,Rat.divInt_mul_divInt,Int.mul_one]
 ·have h1:=cH H z
  have h2:len z≤1:=bG (e:=1) (by omega)
  omega
theorem bDl {z:List Int}(hz:∀ x∈z,x.natAbs≤10) (i:Nat):(z.getD i 0).natAbs≤10:=by
 rcases Nat.lt_or_ge i z.length with h |h
 ·have hm:z.getD i 0∈z:=by
   rw[show z.getD i 0=z[i]by simp[List.getD,h]]
   exact List.getElem_mem h
  exact hz _ hm
 ·have:z.getD i 0=0:=by simp[List.getD,h]
  rw[this]
  decide
theorem aKn {ix:Nat→Option Nat}{k f m o n:Nat}(k1:1≤k) (k2:k≤40) (f1:1≤f) (f2:f≤60) (hz:∀ e,e<m→∀ z∈zI m e,z.natAbs≤10) (hix:∀ A j,A<f→ix A=some j→j*(m / o)<m):∀ A,A≤f→∀ i,i<n→lW (aBb k f*(2*(k:Int))) (203+A) ((wG ix k f m o n A).getD i 0)
 |0,_,i,hi=>by
  have:(wG ix k f m o n 0).getD i 0=0:=by simp[wG,List.getD,hi]
  rw[this]
  exact zB _ _
 |A+1,hA,i,hi=>by
  unfold wG
  have ih:=aKn (ix:=ix) (o:=o) k1 k2 f1 f2 hz hix A (by omega) i hi
  cases he:ix A with
  |none=>exact ih.mono (by omega)
  |some j=>
   simp only
   rw[fO (by rw[pH,iW]),qO hi]
   exact ih.add ((aOb (aKl k1 k2 f1 f2 (by omega)) (bDl (hz _ (hix A j (by omega) he)) i)).mono (by omega))
theorem zJ {D:Int}{L:Nat}{q:Rat}(h:lW D L q) (hD:D≠0) (hK:len D≤61):lq q≤L+61:=h.lq hD hK
attribute [local irreducible] lrun lwp exThen exBlk keep goodPost sg mg oc op ec wG sA zI rz trN sR
theorem aKo {n1 n2:Nat}{v1 v2:List Int}(hn:n1≠1) {k m n:Nat}(nn1:1≤n) (nn2:n≤12) (T:Int):PureGood Tryz.prog 95 [i64 k,.agg [i64 n1,.sl v1.length (ec v1),i64 n2,.sl v2.length (ec v2),i64 T],i64 m,i64 n] (.sl n (qc (List.replicate n 0))):=by
 have gz:=xK n nn1 (by omega)
 have hn':¬(n1:Int)=1:=by omega
 generalize qc (List.replicate n 0)=Z at*
 simp only[i64]at gz⊢
 refine aA bC Tryz.func95 rfl (by decide) (nt:=64) rfl (rs:=[.tmp 8]) rfl (aZ rfl) ?_
 refine zA7 ?_
 exact zQ6
theorem aOc {n2 o2 c2:Nat}{v1 v2:List Int}{b2:Bool}{ix2:Nat→Option Nat}(h2:SeD n2 v2 o2 c2 b2 ix2) {m n:Nat}(hZ:ZtD m n) (hm2:m % o2=0) {k:Nat}(k1:2≤k) (k2:k≤40) (T:Int):
  PureGood Tryz.prog 95 [i64 k,.agg [i64 1,.sl v1.length (ec v1),i64 n2,.sl v2.length (ec v2),i64 T],i64 m,i64 n] (.sl n (qc (wG ix2 k n2 m o2 n n2))):=by
 obtain⟨m1,m2,nn1,nn2,hrz,_,hzl,hzs⟩:=hZ
 have f1:=h2.n1
 have f2:=h2.n2
 have gz:=xK n nn1 (by omega)
 have hix:∀ A j,A<n2→ix2 A=some j→j*(m / o2)<m:=fun A j hA hj=>(iL h2 (show A<60 by omega) hj hm2 m1 (by omega)).2.2
 have hal:=pH ix2 k n2 m o2 n
 have hlq:=fun A (hA:A≤n2) i (hi:i<n)=>zJ (aKn (ix:=ix2) (o:=o2) (by omega) k2 f1 f2 hzs hix A hA i hi) (aKm (by omega) f1) (aC5 k2 f2)
 have hac0:wG ix2 k n2 m o2 n 0=List.replicate n 0:=by unfold wG;rfl
 rw[← hac0]at gz
 have gnum:=aOa k k2
 have hbl:(bn (k+1)).length=k+1:=jI _
 rw[bD,hbl]at gnum
 have ek:((k:Int)-1)=((k-1:Nat):Int):=by omega
 simp only[i64]at gz gnum⊢
 refine aA bC Tryz.func95 rfl (by decide) (nt:=64) rfl (rs:=[.tmp 8]) rfl (aZ rfl) ?_
 refine zA7 ?_
 refine aI (α:={A:Nat // A≤n2}) (fun A=>st 64 (lk [(0,i64 k),(2,i64 m),(3,i64 n),(5,.ptr 0 0),(9,.sl n (qc (wG ix2 k n2 m o2 n A.1))),(10,i64 n2),(11,.sl (k+1) (qc (bn (k+1)))),(12,i64 ((A.1:Int)+1))]) (cP [(0,⟨58,[i64 1,.sl v1.length (ec v1),i64 n2,.sl v2.length (ec v2),i64 T],false⟩)]) 1) (fun A=>n2-A.1) ⟨0,by omega⟩ ?_ ?_
 ·simp only[i64]
  exact zL2 [0]
 ·rintro⟨A,hA⟩
  simp only[st]
  by_cases hlt:A<n2
  ·cases hi2:ix2 A with
   |none=>
    have g2:=(kW h2 (m:=m) (show A<60 by omega) hi2).2
    have hs:wG ix2 k n2 m o2 n (A+1)=wG ix2 k n2 m o2 n A:=by
      conv=>lhs;unfold wG
      rw[hi2]
    simp only[i64]at g2
    refine zA7 ?_
    refine⟨⟨A+1,by omega⟩,?_,by simp only;omega⟩
    simp only[i64]
    rw[hs]
    exact zL2 [0]
   |some j=>
    obtain⟨_,g2,hjm⟩:=iL h2 (show A<60 by omega) hi2 hm2 m1 (by omega)
    have hs:wG ix2 k n2 m o2 n (A+1)=pT (wG ix2 k n2 m o2 n A) (sA n (trN k n2 A) (zI m (j*(m / o2)))):=by
      conv=>lhs;unfold wG
      rw[hi2]
    have w1:=qI ((A:Int)+1) n2 (by omega) (by omega)
    have lx:lq (Rat.divInt ((A:Int)+1) n2)≤4:=by
      have h:=eK (n:=(A:Int)+1) (d:=n2) (by omega)
      have a1:len ((A:Int)+1)≤1:=bG (e:=1) (by omega)
      have a2:len (n2:Int)≤1:=bG (e:=1) (by omega)
      unfold lq
      omega
    have w2:=aKh k k2 (Rat.divInt ((A:Int)+1) n2) (by omega)
    have w3:=kQ n2 (by omega)
    have w4:=aB8 n2 (k-1) (by omega) (by omega) (by omega)
    have lpw:len ((n2:Int)^(k-1))≤20:=aNq (by omega) (by omega)
    have w5:=aB3 ((n2:Int)^(k-1)) (by omega)
    have lhx:=aJ7 (x:=Rat.divInt ((A:Int)+1) n2) (A:=4) (n:=k) (k:=0) lx (by omega) (by omega)
    rw[List.drop_zero]at lhx
    have lpq:lq ((((n2:Int)^(k-1):Int)):Rat)≤30:=by rw[rJ];omega
    have w6:=dV (mW (xN k) (Rat.divInt ((A:Int)+1) n2)) ((((n2:Int)^(k-1):Int)):Rat) (by omega) (by omega)
    have et:mW (xN k) (Rat.divInt ((A:Int)+1) n2)*((((n2:Int)^(k-1):Int)):Rat)=sR k n2 A:=by
      rw[Rat.mul_comm,bC2,Rat.intCast_pow]
      rfl
    rw[et]at w6
    have w7:=qI (-1) (2*(k:Int)) (by omega) (by omega)
    have lf:lq (Rat.divInt (-1) (2*(k:Int)))≤4:=by
      have h:=eK (n:= -1) (d:=2*(k:Int)) (by omega)
      have a1:len (-1)≤1:=by decide+kernel
      have a2:len (2*(k:Int))≤1:=bG (e:=1) (by omega)
      unfold lq
      omega
    have lt:=bCs (k:=k) (f:=n2) (j:=A) k2 f1 f2 hlt
    have w8:=dV (sR k n2 A) (Rat.divInt (-1) (2*(k:Int))) (by omega) (by omega)
    have en:sR k n2 A*Rat.divInt (-1) (2*(k:Int))=trN k n2 A:=by unfold trN;rfl
    rw[en]at w8
    have ltn:=zJ (aKl (k:=k) (f:=n2) (A:=A) (by omega) k2 f1 f2 hlt) (aKm (by omega) f1) (aC5 k2 f2)
    have w9:=aB7 (q:=trN k n2 A) (hrz _ hjm) (hzl _ hjm) (hzs _ hjm) nn1 (by omega) (by omega) (by omega) (by omega)
    have hvl:=iW n (trN k n2 A) (zI m (j*(m / o2)))
    have w10:=zH (wG ix2 k n2 m o2 n A) (sA n (trN k n2 A) (zI m (j*(m / o2)))) n (hal A) hvl nn1 (by omega) (fun i hi=>by have:=hlq A (by omega) i hi;omega) (fun i hi=>by
      rw[qO hi]
      have:=zJ (aOb (aKl (k:=k) (f:=n2) (A:=A) (by omega) k2 f1 f2 hlt) (bDl (hzs _ hjm) i)) (aKm (by omega) f1) (aC5 k2 f2)
      omega)
    rw[← hs]at w10
    generalize hA1:wG ix2 k n2 m o2 n (A+1)=A1 at*
    generalize wG ix2 k n2 m o2 n A=A0 at*
    generalize sA n (trN k n2 A) (zI m (j*(m / o2)))=V at*
    generalize trN k n2 A=TN at*
    generalize sR k n2 A=TM at*
    generalize mW (xN k) (Rat.divInt ((A:Int)+1) n2)=HX at*
    generalize Rat.divInt ((A:Int)+1) n2=X at*
    generalize hFK:Rat.divInt (-1) (2*(k:Int))=FK at*
    generalize hKQ:((((n2:Int)^(k-1):Int)):Rat)=KQ at*
    generalize (n2:Int)^(k-1)=KZ at*
    generalize bn (k+1)=BN at*
    generalize j*(m / o2)=J at*
    clear et en hKQ
    simp only[aW,aH,i64]at g2 w1 w2 w3 w4 w5 w6 w7 w8 w9 w10
    refine pK ek ?_
    refine⟨⟨A+1,by omega⟩,?_,by simp only;omega⟩
    simp only[i64]
    rw[hA1]
    exact zL2 [0]
  ·obtain rfl:A=n2:=by omega
   refine zA7 ?_
   exact zQ6
end
end Go.Proofs.YtaidcaemdkncgaaGreatDoor
namespace Go.Lg
open Go
def dX (l:List (Nat×Blk)) (B m:Nat) (g:Nat→Blk):Nat→Option Blk:=fun b=>if B≤b then(if b<m+B then some (g (b-B))else none)else cP l b
theorem aKp (l:List (Nat×Blk)) (B m:Nat) (g:Nat→Blk) (b:Nat):dX l B m g b=if B≤b then(if b<m+B then some (g (b-B))else none)else cP l b:=rfl
theorem pI {l:List (Nat×Blk)}{B m:Nat}{g:Nat→Blk}{i:Nat}(h:i<m):dX l B m g (i+B)=some (g i):=by
 rw[aKp,if_pos (by omega),if_pos (by omega),Nat.add_sub_cancel]
def jZ (ρ:List Nat) (B:Nat) (τ:Nat→Nat):Nat→Nat:=fun b=>if B≤b then τ (b-B)else ρ.getD b 0
theorem lF (ρ:List Nat) (B:Nat) (τ:Nat→Nat) (b:Nat):jZ ρ B τ b=if B≤b then τ (b-B)else ρ.getD b 0:=rfl
theorem qP {α:Type}{nb:Nat}{ρ:Nat→Nat}{f g:α→LV}:∀ {l:List α},(∀ x∈l,renL nb ρ (f x)=some (g x))→renLs nb ρ (l.map f)=some (l.map g)
 |[],_=>rfl
 |x::l,h=>by
  rw[List.map_cons,List.map_cons,renLs,h x (by simp),qP (l:=l) (fun y hy=>h y (by simp[hy]))]
theorem Sub.fam {n:Nat}{f:Nat→LV}{h:Nat→Option Blk}{nb nb':Nat}{l:List (Nat×LV)}{hl:List (Nat×Blk)}{B m:Nat}{g:Nat→Blk}(ρ:List Nat) (τ:Nat→Nat) (hnb:nb'=m+B) (hB:B=ρ.length) (hd:ρ.Nodup)
  (hf:∀ p∈l,renL nb' (jZ ρ B τ) p.2=some (f p.1)) (hlt:∀ p∈hl,p.1<ρ.length)
  (hb:∀ p∈hl,∃ cs,h (ρ.getD p.1 0)=some ⟨p.2.ty,cs,p.2.fz⟩∧renLs nb' (jZ ρ B τ) p.2.cells=some cs)
  (hg:∀ i,i<m→h (τ i)=some (g i)) (hgp:∀ i,i<m→∀ c∈(g i).cells,aB c=true) (hτ:∀ i j,i<m→j<m→τ i=τ j→i=j) (hρτ:∀ i,i<m→∀ b∈ρ,b≠τ i):
  Sub 0 ⟨n,f,h,nb⟩ ⟨n,lk l,dX hl B m g,nb'⟩:=by
 subst hnb
 refine⟨rfl,jZ ρ B τ,fun i=>aAb (Q:=fun i v=>v= .dead∨renL (m+B) (jZ ρ B τ) v=some (f i)) (fun _=> .inl rfl) l (fun p hp=> .inr (hf p hp)) i,fun b k hk=> ?_,fun b b' k k' hk hk' e=> ?_,⟨by omega,fun b hb=>by omega⟩⟩
 ·replace hk:dX hl B m g b=some k:=hk
  rw[aKp]at hk
  split at hk
  ·rename_i h1
   split at hk
   ·rename_i h2
    cases hk
    refine⟨by omega,g (b-B),?_,rfl,rfl,cJ (hgp _ (by omega))⟩
    rw[lF,if_pos h1]
    exact hg _ (by omega)
   ·cases hk
  ·rename_i h1
   obtain⟨cs,h2,h3⟩:=hb _ (mO hl hk)
   refine⟨by show b<m+B;omega,⟨k.ty,cs,k.fz⟩,?_,rfl,rfl,h3⟩
   rw[lF,if_neg h1]
   exact h2
 ·replace hk:dX hl B m g b=some k:=hk
  replace hk':dX hl B m g b'=some k':=hk'
  rw[aKp]at hk hk'
  rw[lF,lF]at e
  split at hk
  ·rename_i h1
   split at hk
   ·rename_i h2
    split at hk'
    ·rename_i h3
     split at hk'
     ·rename_i h4
      rw[if_pos h1,if_pos h3]at e
      have:=hτ _ _ (by omega) (by omega) e
      omega
     ·cases hk'
    ·rename_i h3
     rw[if_pos h1,if_neg h3]at e
     have h5:=hlt _ (mO hl hk')
     have:ρ.getD b' 0∈ρ:=by
      rw[List.getD_eq_getElem?_getD,List.getElem?_eq_getElem h5,Option.getD_some]
      exact List.getElem_mem h5
     exact absurd e.symm (hρτ _ (by omega) _ this)
   ·cases hk
  ·rename_i h1
   split at hk'
   ·rename_i h3
    split at hk'
    ·rename_i h4
     rw[if_neg h1,if_pos h3]at e
     have h5:=hlt _ (mO hl hk)
     have:ρ.getD b 0∈ρ:=by
      rw[List.getD_eq_getElem?_getD,List.getElem?_eq_getElem h5,Option.getD_some]
      exact List.getElem_mem h5
     exact absurd e (hρτ _ (by omega) _ this)
    ·cases hk'
   ·rename_i h3
    rw[if_neg h1,if_neg h3]at e
    have h5:=hlt _ (mO hl hk)
    have h6:=hlt _ (mO hl hk')
    simp only[List.getD_eq_getElem?_getD,List.getElem?_eq_getElem h5,List.getElem?_eq_getElem h6,Option.getD_some]at e
    exact(List.getElem_inj hd).1 e
end Go.Lg
namespace Go.Proofs.YtaidcaemdkncgaaGreatDoor
section
open Go Go.Lg Go.Num
def oP (o:Nat→Option Rat) (N:Nat):List (Option Rat):=(List.range N).map o
theorem mE (o:Nat→Option Rat) (N:Nat):(oP o N).length=N:=by simp[oP]
theorem aKq {o:Nat→Option Rat}{N i:Nat}(h:i<N):(oP o N).getD i none=o i:=by simp[oP,h]
theorem bI6 {o:Nat→Option Rat}{N s i:Nat}(h:s+i<N):((oP o N).drop s).getD i none=o (s+i):=by simp[oP,h]
theorem bDm (a:Nat→Rat) (N:Nat):op (oP (fun i=>some (a i)) N)=qc (aP a N):=by
 rw[← bBw]
 simp[aP,oP,Function.comp_def]
theorem aXn:PureGood Tryz.prog 21 [.agg [.lit (.bool false),.sl 0 [],.lit (.bool false),.sl 0 []]] (i64 0):=yT (by kernel_rfl)
theorem aRg:PureGood Tryz.prog 138 [.agg [.lit (.bool false),.sl 0 [],.lit (.bool false),.sl 0 []]] (.agg [.lit (.bool false),.sl 0 [],.lit (.bool false),.sl 1 [.lit (.int .u32 1)]]):=yT (by kernel_rfl)
theorem aIa:bF 0= .agg [.lit (.bool false),.sl 0 [],.lit (.bool false),.sl 1 [.lit (.int .u32 1)]]:=by with_unfolding_all rfl
theorem aXo:PureGood Tryz.prog 138 [.agg [.lit (.bool false),.sl 0 [],.lit (.bool false),.sl 0 []]] (bF 0):=by
 rw[aIa]
 exact aRg
def fS (h:Int) (a:Nat→Rat) (N:Nat):LV:= .agg [i64 (h+Go.Num.ordN a N),.sl (N-Go.Num.ordN a N) (qc (aP (fun i=>a (Go.Num.ordN a N+i)) (N-Go.Num.ordN a N)))]
theorem iY {h:Int}{a:Nat→Rat}{N s:Nat}(hs:Go.Num.ordN a N=s):fS h a N= .agg [i64 (h+s),.sl (N-s) (qc (aP (fun i=>a (s+i)) (N-s)))]:=by
 unfold fS
 rw[hs]
theorem sD {h:Int}{a:Nat→Rat}{N f:Nat}(hf:f≤N) (hz:∀ j,j<f→a j=0):fS h a N=fS (h+f) (fun i=>a (f+i)) (N-f):=by
 have e:=aRe hf hz
 rw[iY e,iY rfl]
 have e2:(fun i=>a (f+Go.Num.ordN (fun i=>a (f+i)) (N-f)+i))=fun i=>a (f+(Go.Num.ordN (fun i=>a (f+i)) (N-f)+i)):=by
  funext i
  rw[Nat.add_assoc]
 rw[e2,show N-(f+Go.Num.ordN (fun i=>a (f+i)) (N-f))=N-f-Go.Num.ordN (fun i=>a (f+i)) (N-f)by omega,show h+((f+Go.Num.ordN (fun i=>a (f+i)) (N-f):Nat):Int)=h+(f:Int)+(Go.Num.ordN (fun i=>a (f+i)) (N-f):Int)by omega]
theorem aIb {h:Int}{a:Nat→Rat}{N:Nat}(ha:∀ j,j<N→a j=0):fS h a N= .agg [i64 (h+N),.sl 0 []]:=by
 rw[iY (aC3 (Nat.le_refl N) ha (fun h=>by omega)),Nat.sub_self]
 rfl
attribute [local irreducible] lrun lwp exThen exBlk keep goodPost sg mg sS qs sv oc mC oqc fS op oqp
theorem aXp (h:Int) (o:Nat→Option Rat) (a:Nat→Rat) (N:Nat) (ha:∀ i,i<N→a i=(o i).getD 0) (h1: -100≤h) (h2:h+N≤1000) (ba:∀ i,i<N→lq (a i)≤1000):PureGood Tryz.prog 253 [i64 h,.sl N (op (oP o N))] (.tup [fS h a N,i64 0]):=by
 have hl:=mE o N
 have hmn:(if 1000-h<(N:Int)then 1000-h else(N:Int))=N:=if_neg (by omega)
 generalize hR:fS h a N=R
 simp only[i64]at*
 refine aA bC Tryz.func253 rfl (by decide) (nt:=61) rfl (rs:=[.cell 4 80,.tmp 5]) rfl (aZ rfl) ?_
 (repeat(first|apply zO (by decide+kernel)|apply zP (by decide+kernel)|(apply zS;(case h=>constructor<;>decide))|((first|apply cD rfl|apply aR|apply zT rfl (by decide) rfl);(case hs=>(simp(disch:=first|omega|exact kD rfl|exact kX rfl) only[smY,simprocAttr,bl,i64,smT,smO,smM,op_len,@op_td,oqp_none,oqp_some,hmn,@op_take,op_drop];exact rfl));first|refine cB ?_|refine cC ?_|refine zq ?_|(case hg=>assumption))))
 refine aI (α:={s:Nat // s≤N∧∀ j,j<s→a j=0}) (fun s=>st 61 (lk [(0,i64 h),(1,.sl N (op (oP o N))),(4,.ptr 0 0),(6,i64 s.1)]) (cP [(0,⟨80,[i64 0,nilL],false⟩)]) 1) (fun s=>N-s.1) ⟨0,Nat.zero_le _,fun j hj=>by omega⟩ ?_ ?_
 ·(refine Sub.heap1 0 ?_ (by simp only[aG,dg,renL,renLs,simprocAttr,bl,i64,smT,smO,smM,op_len,@op_td,oqp_none,oqp_some,hmn,@op_take,op_drop];exact rfl) ?_ ?_;all_goals(first |exact aE _ |with_reducible rfl |(simp only[aG,dg,renL,renLs,simprocAttr,bl,i64,smT,smO,smM,op_len,@op_td,oqp_none,oqp_some,hmn,@op_take,op_drop])|skip))
  all_goals(first |exact⟨rfl,rfl⟩ |simp)
 ·rintro⟨s,hs,hz⟩
  simp only[st]
  by_cases hc:s<N∧a s=0
  ·obtain⟨hlt,has⟩:=hc
   have e0:(op ((oP o N).drop s)).take 4=oqp (o s):=by rw[bBv (by omega),aKq hlt]
   have has':=ha s hlt
   rw[has]at has'
   cases ho:o s with
   |none=>
    rw[ho,oqp_none]at e0
    have g1:=aXn
    simp only[i64,bl]at g1
    refine aYz (nd hmn e0) ?_
    refine⟨⟨s+1,by omega,fun j hj=> ?_⟩,?_,by simp only;omega⟩
    · by_cases e:j=s
      · rw[e];exact has
      · exact hz j (by omega)
    · (refine Sub.heap1 0 ?_ (by simp only[aG,dg,renL,renLs,simprocAttr,bl,i64,smT,smO,smM,op_len,@op_td,oqp_none,oqp_some,hmn,op_drop];exact rfl) ?_ ?_;all_goals(first |exact aE _ |with_reducible rfl |(simp only[aG,dg,renL,renLs,simprocAttr,bl,i64,smT,smO,smM,op_len,@op_td,oqp_none,oqp_some,hmn,op_drop])|skip))
      all_goals(first |exact⟨rfl,rfl⟩ |simp)
   |some q=>
    rw[ho]at e0 has'
    obtain rfl:(0:Rat)=q:=has'
    rw[oqp_some]at e0
    have g1:=kM 0 (by decide+kernel)
    rw[show(0:Rat).num.sign=0 from rfl]at g1
    generalize (0:Rat)=q at*
    simp only[i64,aH]at g1
    refine aYz (nd hmn e0) ?_
    refine⟨⟨s+1,by omega,fun j hj=> ?_⟩,?_,by simp only;omega⟩
    · by_cases e:j=s
      · rw[e];exact has
      · exact hz j (by omega)
    · (refine Sub.heap1 0 ?_ (by simp only[aG,dg,renL,renLs,simprocAttr,bl,i64,smT,smO,smM,op_len,@op_td,oqp_none,oqp_some,hmn,op_drop];exact rfl) ?_ ?_;all_goals(first |exact aE _ |with_reducible rfl |(simp only[aG,dg,renL,renLs,simprocAttr,bl,i64,smT,smO,smM,op_len,@op_td,oqp_none,oqp_some,hmn,op_drop])|skip))
      all_goals(first |exact⟨rfl,rfl⟩ |simp)
  ·have hord:Go.Num.ordN a N=s:=aC3 hs hz (fun hlt e=>hc ⟨hlt,e⟩)
   rw[iY hord]at hR
   have hdl:((oP o N).drop s).length=N-s:=by rw[List.length_drop,hl]
   have hcast:((N-s:Nat):Int)=(N:Int)-s:=by omega
   by_cases hlt:s<N
   ·have e0:(op ((oP o N).drop s)).take 4=oqp (o s):=by rw[bBv (by omega),aKq hlt]
    have has:=ha s hlt
    have has0:a s≠0:=fun e=>hc ⟨hlt,e⟩
    cases ho:o s with
    |none=>rw[ho]at has;exact absurd has has0
    |some q=>
     rw[ho]at e0 has
     obtain rfl:a s=q:=has
     rw[oqp_some]at e0
     have g1:=kM (a s) (by have:=ba s hlt;omega)
     have g2:(a s).num.sign≠0:=fun e=>has0 (Rat.num_eq_zero.1 (Int.sign_eq_zero_iff_zero.1 e))
     have g3: -1≤(a s).num.sign∧(a s).num.sign≤1:=by
       rcases Int.sign_trichotomy (a s).num with e |e |e <;>rw[e] <;>omega
     generalize (a s).num.sign=sg0 at*
     generalize a s=q at*
     simp only[i64,aH]at g1
     refine aYz (nd hmn (nd hdl e0)) ?_
     refine aI (α:={i:Nat // i≤N-s}) (fun i=>st 61 (lk [(0,i64 (h+s)),(4,.ptr 0 0),(7,.own 1 0 i.1 4),(46,.sl (N-s) (op ((oP o N).drop s))),(47,i64 ((N-s:Nat):Int)),(48,i64 i.1)]) (cP [(0,⟨80,[i64 0,nilL],false⟩),(1,⟨47,mC (fun i=>a (s+i)) (N-s) i.1,false⟩)]) 2) (fun i=>N-s-i.1) ⟨0,by omega⟩ ?_ ?_
     · have htk:(op ((oP o N).drop s)).take ((N-s)*4)=op ((oP o N).drop s):=op_take (by rw[hdl])
       (refine Sub.heapL [0,23] rfl (by decide) ?_ (by simp only[fB];decide) ?_ ?_;all_goals(first|(simp only[aB,aG,dg,renL,renLs,simprocAttr,bl,i64,smT,smO,smM,op_len,@op_td,oqp_none,oqp_some,op_drop,htk,vD (fun i=>a (s+i))];done) |(simp only[aG,dg,renL,renLs,simprocAttr,bl,i64,smT,smO,smM,op_len,@op_td,oqp_none,oqp_some,op_drop,htk,vD (fun i=>a (s+i))];(repeat' apply And.intro);all_goals rfl) |(simp only[aG,dg,renL,renLs,simprocAttr,bl,i64,smT,smO,smM,op_len,@op_td,oqp_none,oqp_some,op_drop,htk,vD (fun i=>a (s+i))]) |skip))
       all_goals(first |done |((repeat' apply And.intro);all_goals(first |trivial |rfl)))
     · rintro⟨i,hi⟩
       simp only[st]
       have hl2:=eP (fun i=>a (s+i)) i
       have happ:=pE (fun i=>a (s+i)) i
       by_cases hil:i<N-s
       · have e5:((oP o N).drop s).getD i none=o (s+i):=bI6 (by omega)
         have b5:=ba (s+i) (by omega)
         have ha5:=ha (s+i) (by omega)
         cases ho5:o (s+i)with
         |none=>
          rw[ho5]at e5 ha5
          have g5:=aXo
          rw[show(0:Rat)=a (s+i)from ha5.symm]at g5
          generalize hbv:a (s+i)=v at*
          simp only[aH]at g5
          (repeat(first|apply zO (by decide+kernel)|apply zP (by decide+kernel)|(apply zS;(case h=>constructor<;>decide))|((first|apply cD rfl|apply aR|apply zT rfl (by decide) rfl);(case hs=>(simp(disch:=first|omega|exact kD rfl|exact kX rfl) only[smY,simprocAttr,bl,i64,smT,smO,smM,op_len,@op_td,oqp_none,oqp_some,hdl,e5];exact rfl));first|refine cB ?_|refine cC ?_|refine zq ?_|(case hg=>assumption))))
          refine⟨⟨i+1,by omega⟩,?_,by simp only;omega⟩
          (refine Sub.heapL [0,11] rfl (by decide) ?_ (by simp only[fB];decide) ?_ ?_;all_goals(first|(simp only[aB,aG,dg,renL,renLs,simprocAttr,bl,i64,smT,smO,smM,op_len,@op_td,oqp_none,oqp_some];done) |(simp only[aG,dg,renL,renLs,simprocAttr,bl,i64,smT,smO,smM,op_len,@op_td,oqp_none,oqp_some];(repeat' apply And.intro);all_goals rfl) |(simp only[aG,dg,renL,renLs,simprocAttr,bl,i64,smT,smO,smM,op_len,@op_td,oqp_none,oqp_some]) |skip))
          all_goals(first |done |(rw[aTd (a:=fun i=>a (s+i)) (N:=N-s) (i:=i) hbv];exact⟨trivial,rfl⟩))
         |some q=>
          rw[ho5]at e5 ha5
          obtain rfl:a (s+i)=q:=ha5
          have g5:=gV (a (s+i)) (by omega)
          generalize hbv:a (s+i)=v at*
          simp only[aH]at g5
          (repeat(first|apply zO (by decide+kernel)|apply zP (by decide+kernel)|(apply zS;(case h=>constructor<;>decide))|((first|apply cD rfl|apply aR|apply zT rfl (by decide) rfl);(case hs=>(simp(disch:=first|omega|exact kD rfl|exact kX rfl) only[smY,simprocAttr,bl,i64,smT,smO,smM,op_len,@op_td,oqp_none,oqp_some,hdl,e5];exact rfl));first|refine cB ?_|refine cC ?_|refine zq ?_|(case hg=>assumption))))
          refine⟨⟨i+1,by omega⟩,?_,by simp only;omega⟩
          (refine Sub.heapL [0,11] rfl (by decide) ?_ (by simp only[fB];decide) ?_ ?_;all_goals(first|(simp only[aB,aG,dg,renL,renLs,simprocAttr,bl,i64,smT,smO,smM,op_len,@op_td,oqp_none,oqp_some];done) |(simp only[aG,dg,renL,renLs,simprocAttr,bl,i64,smT,smO,smM,op_len,@op_td,oqp_none,oqp_some];(repeat' apply And.intro);all_goals rfl) |(simp only[aG,dg,renL,renLs,simprocAttr,bl,i64,smT,smO,smM,op_len,@op_td,oqp_none,oqp_some]) |skip))
          all_goals(first |done |(rw[aTd (a:=fun i=>a (s+i)) (N:=N-s) (i:=i) hbv];exact⟨trivial,rfl⟩))
       · obtain rfl:i=N-s:=by omega
         subst hR
         refine bFt ?_
         ((first|apply dG|apply dI);case hres=>(simp only[iC];simp(disch:=first|omega|exact kD rfl|exact kX rfl) only[smY,simprocAttr,bl,i64,smT,smO,smM,op_len,@op_td,oqp_none,oqp_some];exact rfl))
         simp(disch:=first|omega|exact kD rfl|exact kX rfl) only[smY,simprocAttr,bl,i64,smT,smO,smM,op_len,@op_td,oqp_none,oqp_some]
   ·
    refine bFt ?_
    refine kZ rfl (by decide) rfl ?_
    refine bFt ?_
    refine aI (α:={i:Nat // i≤N-s}) (fun i=>st 61 (lk [(0,i64 (h+s)),(4,.ptr 0 0),(7,.own 1 0 i.1 4),(46,.sl (N-s) (op ((oP o N).drop s))),(47,i64 ((N-s:Nat):Int)),(48,i64 i.1)]) (cP [(0,⟨80,[i64 0,nilL],false⟩),(1,⟨47,mC (fun i=>a (s+i)) (N-s) i.1,false⟩)]) 2) (fun i=>N-s-i.1) ⟨0,by omega⟩ ?_ ?_
    ·have htk:(op ((oP o N).drop s)).take ((N-s)*4)=op ((oP o N).drop s):=op_take (by rw[hdl])
     (refine Sub.heapL [0,23] rfl (by decide) ?_ (by simp only[fB];decide) ?_ ?_;all_goals(first|(simp only[aB,aG,dg,renL,renLs,simprocAttr,bl,i64,smT,smO,smM,op_len,@op_td,oqp_none,oqp_some,op_drop,htk,vD (fun i=>a (s+i))];done) |(simp only[aG,dg,renL,renLs,simprocAttr,bl,i64,smT,smO,smM,op_len,@op_td,oqp_none,oqp_some,op_drop,htk,vD (fun i=>a (s+i))];(repeat' apply And.intro);all_goals rfl) |(simp only[aG,dg,renL,renLs,simprocAttr,bl,i64,smT,smO,smM,op_len,@op_td,oqp_none,oqp_some,op_drop,htk,vD (fun i=>a (s+i))]) |skip))
     all_goals(first |done |((repeat' apply And.intro);all_goals(first |trivial |rfl)))
    ·rintro⟨i,hi⟩
     simp only[st]
     have hl2:=eP (fun i=>a (s+i)) i
     have happ:=pE (fun i=>a (s+i)) i
     by_cases hil:i<N-s
     ·exfalso;omega
     ·obtain rfl:i=N-s:=by omega
      subst hR
      refine bFt ?_
      ((first|apply dG|apply dI);case hres=>(simp only[iC];simp(disch:=first|omega|exact kD rfl|exact kX rfl) only[smY,simprocAttr,bl,i64,smT,smO,smM,op_len,@op_td,oqp_none,oqp_some];exact rfl))
      simp(disch:=first|omega|exact kD rfl|exact kX rfl) only[smY,simprocAttr,bl,i64,smT,smO,smM,op_len,@op_td,oqp_none,oqp_some]
end
section
open Go Go.Lg Go.Num
attribute [local irreducible] lrun lwp exThen exBlk keep goodPost sg mg sS qs sv oc mC oqc fS
theorem aBg (q:Rat) (hq:lq q≤1000):PureGood Tryz.prog 186 [bF q] (bl (decide (q=0))):=by
 by_cases h:q=0
 ·subst h
  rw[qA rfl,aIa]
  exact yT (by kernel_rfl)
 ·rw[nJ h]
  exact aRd q hq (fun e=>h (Rat.num_eq_zero.1 e))
theorem lT (h:Int) (a:Nat→Rat) (N:Nat) (h1: -100≤h) (h2:h+N≤1000) (ba:∀ i,i<N→lq (a i)≤1000):PureGood Tryz.prog 97 [i64 h,.sl N (qc (aP a N))] (.tup [fS h a N,i64 0]):=by
 have hl:=eP a N
 generalize hR:fS h a N=R
 simp only[i64]at*
 refine aA bC Tryz.func97 rfl (by decide) (nt:=68) rfl (rs:=[.cell 4 80,.tmp 5]) rfl (aZ rfl) ?_
 refine dM ?_
 refine aI (α:={s:Nat // s≤N∧∀ j,j<s→a j=0}) (fun s=>st 68 (lk [(0,i64 h),(1,.sl N (qc (aP a N))),(4,.ptr 0 0),(6,i64 (h+N)),(7,i64 s.1)]) (cP [(0,⟨80,[i64 0,nilL],false⟩)]) 1) (fun s=>N-s.1) ⟨0,Nat.zero_le _,fun j hj=>by omega⟩ ?_ ?_
 ·exact zO4 0
 ·rintro⟨s,hs,hz⟩
  simp only[st]
  by_cases hc:s<N∧a s=0
  ·obtain⟨hlt,has⟩:=hc
   have e0:(aP a N).getD s 0=a s:=rV hlt
   have g1:=aBg (a s) (ba s hlt)
   rw[qA has]at g1
   have hz':∀ j,j<s+1→a j=0:=fun j hj=>by
    by_cases e:j=s
    ·rw[e];exact has
    ·exact hz j (by omega)
   clear has
   generalize a s=av at g1 e0
   simp only[aH,bl]at g1
   refine cW e0 ?_
   refine⟨⟨s+1,by omega,hz'⟩,?_,by simp only;omega⟩
   exact zO4 0
  ·have hord:Go.Num.ordN a N=s:=aC3 hs hz (fun hlt e=>hc ⟨hlt,e⟩)
   rw[iY hord]at hR
   by_cases hlt:s<N
   ·have e0:(aP a N).getD s 0=a s:=rV hlt
    have g1:=aBg (a s) (ba s hlt)
    rw[nJ (fun e=>hc ⟨hlt,e⟩)]at g1
    generalize a s=av at g1 e0
    simp only[aH,bl]at g1
    refine cW e0 ?_
    refine aI (α:={m:Nat // s+m≤N}) (fun m=>st 68 (lk [(1,.sl N (qc (aP a N))),(4,.ptr 0 0),(8,.ptr 1 0),(9,i64 ((s:Int)+(m.1:Int)))]) (cP ((0,⟨80,[i64 0,nilL],false⟩)::(1,⟨80,[i64 (h+s),nV 2 m.1],false⟩)::nB 2 m.1 (qc (aP (fun i=>a (s+i)) m.1)))) 3) (fun m=>N-(s+m.1)) ⟨0,by omega⟩ ?_ ?_
    ·simp only[mU,mV]
     (refine Sub.heapR [0,24,99] rfl (by decide) ?_ (by simp only[fB];decide) ?_;all_goals(first|(simp only[aG,dg,renL,renLs,simprocAttr,bl,i64,smT];done) |(simp only[aG,dg,renL,renLs,simprocAttr,bl,i64,smT,Option.some.injEq,Blk.mk.injEq,true_and,and_true];first |done |(repeat' (first |apply And.intro |(refine⟨_,rfl,?_⟩;simp only[aG,dg,renL,renLs,simprocAttr,bl,i64,smT];first |done |rfl)))) |skip))
     all_goals(first |done |((repeat' apply And.intro);all_goals(first |trivial |rfl |(simp only[LV.lit.injEq,Value.int.injEq,true_and];omega) |exact⟨_,rfl,rfl⟩)))
    ·rintro⟨m,hm⟩
     simp only[st]
     have hl2:=eP (fun i=>a (s+i)) m
     have happ:=pE (fun i=>a (s+i)) m
     have hcn:((s:Int)+(m:Int)).toNat=s+m:=by omega
     by_cases hlt:s+m<N
     ·by_cases hi0:m=0
      ·simp only[oA hi0,oB hi0]
       have e1:(aP a N).getD (s+m) 0=a (s+m):=rV (by omega)
       have b1:=ba (s+m) (by omega)
       have g2:=eH (a (s+m)) (by omega)
       generalize hai:a (s+m)=ai at*
       simp only[aH]at g2
       refine cW (nd e1 hcn) ?_
       refine⟨⟨m+1,by omega⟩,?_,by simp only;omega⟩
       (subst hi0;simp only[dR,dS];(refine Sub.heapR [0,1,15] rfl (by decide) ?_ (by simp only[fB];decide) ?_;all_goals(first|(simp only[aG,dg,renL,renLs,simprocAttr,bl,i64,smT];done) |(simp only[aG,dg,renL,renLs,simprocAttr,bl,i64,smT,Option.some.injEq,Blk.mk.injEq,true_and,and_true];first |done |(repeat' (first |apply And.intro |(refine⟨_,rfl,?_⟩;simp only[aG,dg,renL,renLs,simprocAttr,bl,i64,smT];first |done |rfl)))) |skip));have e:aP (fun i=>a (s+i)) 1=[ai]:=(by rw[← hai];rfl);all_goals(first |done |((repeat' apply And.intro);all_goals(first |trivial |rfl |(simp only[LV.lit.injEq,Value.int.injEq,true_and];omega) |(refine⟨_,rfl,?_⟩;show qc [a (s+0)]=_;rw[hai,← jB])))))
      ·simp only[lQ hi0,lR hi0]
       have e1:(aP a N).getD (s+m) 0=a (s+m):=rV (by omega)
       have b1:=ba (s+m) (by omega)
       have g2:=eH (a (s+m)) (by omega)
       generalize hai:a (s+m)=ai at*
       simp only[aH]at g2
       refine cW (nd e1 hcn) ?_
       refine⟨⟨m+1,by omega⟩,?_,by simp only;omega⟩
       (simp only[dR,dS];(refine Sub.heapR [0,1,15] rfl (by decide) ?_ (by simp only[fB];decide) ?_;all_goals(first|(simp only[aG,dg,renL,renLs,simprocAttr,bl,i64,smT];done) |(simp only[aG,dg,renL,renLs,simprocAttr,bl,i64,smT,Option.some.injEq,Blk.mk.injEq,true_and,and_true];first |done |(repeat' (first |apply And.intro |(refine⟨_,rfl,?_⟩;simp only[aG,dg,renL,renLs,simprocAttr,bl,i64,smT];first |done |rfl)))) |skip));all_goals(first |done |((repeat' apply And.intro);all_goals(first |trivial |rfl |(simp only[LV.lit.injEq,Value.int.injEq,true_and];omega) |exact⟨_,rfl,(by rw[happ,← gY])⟩))))
     ·have hi0:m≠0:=by omega
      obtain rfl:m=N-s:=by omega
      simp only[lQ hi0,lR hi0]
      subst hR
      refine dM ?_
      exact mJ
   ·have hsN:(h:Int)+N-s=h:=by omega
    refine cW hsN ?_
    refine kZ rfl (by decide) rfl ?_
    refine cW hsN ?_
    refine aI (α:={m:Nat // s+m≤N}) (fun m=>st 68 (lk [(1,.sl N (qc (aP a N))),(4,.ptr 0 0),(8,.ptr 1 0),(9,i64 ((s:Int)+(m.1:Int)))]) (cP ((0,⟨80,[i64 0,nilL],false⟩)::(1,⟨80,[i64 (h+s),nV 2 m.1],false⟩)::nB 2 m.1 (qc (aP (fun i=>a (s+i)) m.1)))) 3) (fun m=>N-(s+m.1)) ⟨0,by omega⟩ ?_ ?_
    ·simp only[mU,mV]
     (refine Sub.heapR [0,28,99] rfl (by decide) ?_ (by simp only[fB];decide) ?_;all_goals(first|(simp only[aG,dg,renL,renLs,simprocAttr,bl,i64,smT];done) |(simp only[aG,dg,renL,renLs,simprocAttr,bl,i64,smT,Option.some.injEq,Blk.mk.injEq,true_and,and_true];first |done |(repeat' (first |apply And.intro |(refine⟨_,rfl,?_⟩;simp only[aG,dg,renL,renLs,simprocAttr,bl,i64,smT];first |done |rfl)))) |skip))
     all_goals(first |done |((repeat' apply And.intro);all_goals(first |trivial |rfl |(simp only[LV.lit.injEq,Value.int.injEq,true_and];omega) |exact⟨_,rfl,rfl⟩)))
    ·rintro⟨m,hm⟩
     simp only[st]
     have hl2:=eP (fun i=>a (s+i)) m
     have happ:=pE (fun i=>a (s+i)) m
     have hcn:((s:Int)+(m:Int)).toNat=s+m:=by omega
     by_cases hlt:s+m<N
     ·exfalso;omega
     ·have hi0:m=0:=by omega
      simp only[oA hi0,oB hi0]
      subst hR
      rw[show N-s=0 by omega]
      have hq:qc (aP (fun i=>a (s+i)) 0)=[]:=rfl
      rw[hq]
      refine dM ?_
      exact mJ
end
section
open Go Go.Lg Go.Num
attribute [local irreducible] lrun lwp exThen exBlk keep goodPost sg mg oc mC bq fS
theorem aP0 (a:Nat→Rat):qc (aP a 0)=[]:=rfl
theorem dT (h:Int) (a:Nat→Rat) (N:Nat):∃ x M L,fS h a N= .agg [i64 x,.sl M (qc L)]∧L.length=M∧M≤N∧x=h+((N:Int)-M):=by
 obtain⟨h1,_,_⟩:=iM a N
 exact⟨_,_,_,iY rfl,eP _ _,by omega,by omega⟩
end
section
open Go Go.Lg Go.Num
attribute [local irreducible] lrun lwp exThen exBlk keep goodPost sg mg oc mC bq fS oqc op oqp
theorem aRh (x:Int) (M:Nat) (cs:List LV) (h1: -100≤x) (h2:x+M≤1000):PureGood Tryz.prog 111 [.agg [i64 x,.sl M cs]] (bl true):=by
 simp only[i64,bl]
 refine aA bC Tryz.func111 rfl (by decide) (nt:=20) rfl (rs:=[.tmp 2]) rfl (aZ rfl) ?_
 refine bFs ?_
 exact zQ8
theorem bDn (h:Int) (o:Nat→Option Rat) (a:Nat→Rat) (N:Nat) (ha:∀ i,i<N→a i=(o i).getD 0) (h1: -100≤h) (h2:h+N≤1000) (ba:∀ i,i<N→lq (a i)≤1000):PureGood Tryz.prog 178 [.agg [i64 h,.sl N (op (oP o N))]] (fS h a N):=by
 have g:=aXp h o a N ha h1 h2 ba
 have hl:=mE o N
 obtain⟨x,M,L,hR,hLM,hM,hx⟩:=dT h a N
 rw[hR]at g⊢
 clear hR
 simp only[i64]at*
 refine aA bC Tryz.func178 rfl (by decide) (nt:=14) rfl (rs:=[.cell 2 80]) rfl (aZ rfl) ?_
 refine bFs ?_
 exact zQ8
theorem aB9 (h:Int) (o:Nat→Option Rat) (a:Nat→Rat) (N:Nat) (ha:∀ i,i<N→a i=(o i).getD 0) (h1: -100≤h) (h2:h+N≤1000) (ba:∀ i,i<N→lq (a i)≤1000):PureGood Tryz.prog 89 [.agg [i64 h,.sl N (op (oP o N))]] (.tup [fS h a N,i64 0]):=by
 have g2:=bDn h o a N ha h1 h2 ba
 have g1:=aRh h N (op (oP o N)) h1 h2
 have hl:=mE o N
 obtain⟨x,M,L,hR,hLM,hM,hx⟩:=dT h a N
 rw[hR]at g2⊢
 clear hR
 simp only[i64,bl]at*
 refine aA bC Tryz.func89 rfl (by decide) (nt:=10) rfl (rs:=[.cell 2 80,.tmp 3]) rfl (aZ rfl) ?_
 refine bFs ?_
 exact zQ8
theorem aXq (q:Rat) (h:lq q≤1000):PureGood Tryz.prog 74 [bF q,.agg [.lit (.bool false),.sl 0 [],.lit (.bool false),.sl 0 []]] (bF 0):=by
 have e0:aO 0= .agg [.lit (.bool false),.sl 0 []]:=by with_unfolding_all rfl
 have hz:len 0=0:=by simp[len,aX]
 have h1:=fV q.num 0 (by unfold lq at h;omega) (by omega)
 have h2:=fV (q.den:Int) 0 (by unfold lq at h;omega) (by omega)
 have h3:=uY 0 0 (by omega) (by omega)
 rw[Int.mul_zero]at h1 h2
 rw[show Rat.divInt 0 0=0 from rfl]at h3
 rw[e0]at h1 h2 h3
 simp only[aH,aW]at*
 refine aA bC Tryz.func74 rfl (by decide) (nt:=16) rfl (rs:=[.cell 4 47]) rfl (aZ rfl) ?_
 refine bFs ?_
 exact zQ8
theorem bDo {l:List (Option Rat)}{m:Nat}(h:m=l.length*4):(oc l).take m=oc l:=List.take_of_length_le (by rw[aA4];omega)
def sX (a:Nat→Rat) (t n:Nat):Rat:=if n % t=0 then a (n / t)else 0
def stO (w:Nat→Option Rat) (m n:Nat):Option Rat:=if n<m then w n else none
theorem bDp (w:Nat→Option Rat) (N:Nat):oP (stO w 0) N=List.replicate N none:=by
 apply List.ext_getElem
 ·simp[oP]
 ·intro i h1 h2
  simp[oP,stO]
theorem bI7 (w:Nat→Option Rat) (N:Nat):oP (stO w N) N=oP w N:=by
 apply List.ext_getElem
 ·simp[oP]
 ·intro i h1 h2
  simp[oP]at h1
  simp[oP,stO,h1]
theorem aUb {w:Nat→Option Rat}{m N:Nat}{q:Rat}(h:w m=some q):(oP (stO w m) N).set m (some q)=oP (stO w (m+1)) N:=by
 apply List.ext_getElem
 ·simp[oP]
 ·intro i h1 h2
  simp only[List.getElem_set,oP,stO,List.getElem_map,List.getElem_range]
  by_cases e:m=i
  ·subst e;rw[if_pos rfl,if_pos (by omega),h]
  ·rw[if_neg e]
   by_cases e2:i<m
   ·rw[if_pos (by omega),if_pos (by omega)]
   ·rw[if_neg (by omega),if_neg (by omega)]
theorem bI8 {w:Nat→Option Rat}{m N:Nat}(h:m<N):(oP (stO w m) N).getD m none=none:=by
 rw[aKq h,stO,if_neg (by omega)]
def dfT (a:Nat→Rat) (t n:Nat):Rat:=a n-((t:Int):Rat)*sX a t n
def dfO (a:Nat→Rat) (t n:Nat):Option Rat:=some (dfT a t n)
theorem aOd (a:Nat→Rat) (N t:Nat) (hN:N≤1000) (ht1:1≤t) (ht:t≤1000) (ba:∀ i,i<N→lq (a i)≤1000):PureGood Tryz.prog 90 [.sl N (qc (aP a N)),i64 t,bl true] (.sl N (qc (aP (dfT a t) N))):=by
 have hl:=eP a N
 have hl2:∀ m,(oP (stO (dfO a t) m) N).length=N:=fun m=>mE _ _
 have g1:=gW (t:Int) (by omega)
 have b1:=aJv (z:=(t:Int)) (by omega)
 rw[← bDm (dfT a t),show(fun i=>some (dfT a t i))=dfO a t from rfl,← bI7 (dfO a t) N]
 simp only[i64,bl,aH]at*
 refine aA bC Tryz.func90 rfl (by decide) (nt:=48) rfl (rs:=[.tmp 6]) rfl (aZ rfl) ?_
 refine sU hl2 ?_
 refine aI (α:={n:Nat // n≤N}) (fun n=>st 48 (lk [(0,.sl N (qc (aP a N))),(1,i64 t),(2,bl true),(7,.own 0 0 N 4),(13,i64 N),(14,i64 n.1)]) (cP [(0,⟨47,oc (oP (stO (dfO a t) n.1) N),false⟩)]) 1) (fun n=>N-n.1) ⟨0,by omega⟩ ?_ ?_
 ·simp only[bDp]
  (refine Sub.heap1 3 ?_ (by simp only[aG,dg,renL,renLs,simprocAttr,bl,i64,smT,smO,hl2];exact rfl) ?_ ?_;all_goals(first |exact aE _ |with_reducible rfl |(simp only[aG,dg,renL,renLs,simprocAttr,bl,i64,smT,smO,hl2])|skip))
  all_goals(first |done |(rw[qJ]) |trace_state)
 ·rintro⟨n,hn⟩
  simp only[st]
  by_cases hlt:n<N
  ·have hq:n / t≤n:=Nat.div_le_self _ _
   have e1:(aP a N).getD (n / t) 0=a (n / t):=rV (by omega)
   have e2:(aP a N).getD n 0=a n:=rV hlt
   have b2:=ba n hlt
   have b3:=ba (n / t) (by omega)
   by_cases hd:n % t=0
   ·have hu:sX a t n=a (n / t):=if_pos hd
    have b4:=kK ((t:Int):Rat) (a (n / t))
    have g2:=gE ((t:Int):Rat) (a (n / t)) (by omega) (by omega)
    have g3:=nC (a n) (((t:Int):Rat)*a (n / t)) (by omega) (by omega)
    have hw:dfO a t n=some (a n-((t:Int):Rat)*a (n / t)):=by rw[← hu];rfl
    have hs:=aUb (N:=N) hw
    have ho1:=kT (l:=oP (stO (dfO a t) n) N) (j:=n) (by rw[mE];exact hlt) (a (n / t))
    have hln:((oP (stO (dfO a t) n) N).set n (some (a (n / t)))).length=N:=by rw[List.length_set,mE]
    have hgd:((oP (stO (dfO a t) n) N).set n (some (a (n / t)))).getD n none=some (a (n / t)):=by
     rw[List.getD_eq_getElem?_getD,List.getElem?_set_self (by rw[mE];exact hlt)];rfl
    have ho2:=kT (l:=(oP (stO (dfO a t) n) N).set n (some (a (n / t)))) (j:=n) (by rw[hln];exact hlt) (a n-((t:Int):Rat)*a (n / t))
    rw[List.set_set,hs]at ho2
    clear hw hs b4
    generalize hS:(oP (stO (dfO a t) n) N).set n (some (a (n / t)))=S1 at*
    generalize a n-((t:Int):Rat)*a (n / t)=dv at*
    generalize ((t:Int):Rat)*a (n / t)=mv at*
    generalize a (n / t)=av at*
    generalize a n=an at*
    generalize hqv:n / t=q at*
    simp only[aH]at g2 g3
    refine sU (nd hl2 (nd e1 (nd e2 (nd hqv (nd ho1 (nd hln hgd)))))) ?_
    refine⟨⟨n+1,by omega⟩,?_,by simp only;omega⟩
    (refine Sub.heap1 0 ?_ (by simp only[aG,dg,renL,renLs,simprocAttr,bl,i64,smT,smO,hl2];exact rfl) ?_ ?_;all_goals(first |exact aE _ |with_reducible rfl |(simp only[aG,dg,renL,renLs,simprocAttr,bl,i64,smT,smO,hl2])|skip))
    all_goals(first |done |exact ho2 |trace_state)
   ·have hu:sX a t n=0:=if_neg hd
    have g2:=aXq ((t:Int):Rat) (by omega)
    have g3:=nC (a n) 0 (by omega) (by have:lq 0≤3:=by decide+kernel
                                       omega)
    have hw:dfO a t n=some (a n-0):=by
     show some (a n-((t:Int):Rat)*sX a t n)=_
     rw[hu,Rat.mul_zero]
    have hs:=aUb (N:=N) hw
    have ho2:=kT (l:=oP (stO (dfO a t) n) N) (j:=n) (by rw[mE];exact hlt) (a n-0)
    have hgd:((oc (oP (stO (dfO a t) n) N)).drop (n*4)).take 4=[.lit (.bool false),.lit (.slice none 0 0),.lit (.bool false),.lit (.slice none 0 0)]:=by
     rw[bN5 (by rw[mE];exact hlt),bI8 hlt,aE0]
    rw[hs]at ho2
    clear hw hs
    generalize a n-0=dv at*
    generalize a n=an at*
    simp only[aH]at g2 g3
    refine sU (nd hl2 (nd e2 hgd)) ?_
    refine⟨⟨n+1,by omega⟩,?_,by simp only;omega⟩
    (refine Sub.heap1 0 ?_ (by simp only[aG,dg,renL,renLs,simprocAttr,bl,i64,smT,smO,hl2];exact rfl) ?_ ?_;all_goals(first |exact aE _ |with_reducible rfl |(simp only[aG,dg,renL,renLs,simprocAttr,bl,i64,smT,smO,hl2])|skip))
    all_goals(first |done |exact ho2 |trace_state)
  ·obtain rfl:n=N:=by omega
   have htk:(oc (oP (stO (dfO a t) n) n)).take (n*4)=oc (oP (stO (dfO a t) n) n):=bDo (by rw[mE])
   (repeat(first|apply zO (by decide+kernel)|apply zP (by decide+kernel)|(apply zS;(case h=>constructor<;>decide))|((first|apply cD rfl|apply aR|apply zT rfl (by decide) rfl);(case hs=>(simp(disch:=first|omega|exact kD rfl|exact kX rfl) only[smY,simprocAttr,bl,i64,smT,smO,hl2,@uB,htk];exact rfl));first|refine cB ?_|refine cC ?_|refine zq ?_|(case hg=>assumption))))
   ((first|apply dG|apply dI);case hres=>(simp only[iC];simp(disch:=first|omega|exact kD rfl|exact kX rfl) only[smY,simprocAttr,bl,i64,smT,smO,hl2,@uB,htk];exact rfl))
   simp(disch:=first|omega|exact kD rfl|exact kX rfl) only[smY,simprocAttr,bl,i64,smT,smO,hl2,@uB,htk]
end
end Go.Proofs.YtaidcaemdkncgaaGreatDoor
