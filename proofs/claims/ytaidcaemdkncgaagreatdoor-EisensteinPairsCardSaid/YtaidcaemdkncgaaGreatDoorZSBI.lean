/- Contracts of functions of the program, and what proves them (texts: EC3 Lg27 S1 S2 R3e S3 R4 R5 R6 R7 EC4 ECs). -/
import Derived.Test.YtaidcaemdkncgaaGreatDoorZSAE
import Derived.Test.YtaidcaemdkncgaaGreatDoorZSAP
import Derived.Test.YtaidcaemdkncgaaGreatDoorZSAQ
import Derived.Test.YtaidcaemdkncgaaGreatDoorZSBH
set_option linter.all false
set_option maxRecDepth 100000
set_option maxHeartbeats 8000000
namespace Go.Proofs.YtaidcaemdkncgaaGreatDoor
open Go Go.Lg Go.Num
def trN (k f A:Nat):Rat:=tS k f A*Rat.divInt (-1) (2*(k:Int))
def uB (ix:Nat→Option Nat) (k f m o n:Nat):Nat→List Rat
 |0=>List.replicate n 0
 |A+1=>match ix A with
  |none=>uB ix k f m o n A
  |some j=>qO (uB ix k f m o n A) (tA n (trN k f A) (zI m (j*(m / o))))
theorem nE (ix:Nat→Option Nat) (k f m o n:Nat):∀ A,(uB ix k f m o n A).length=n
 |0=>by simp[uB]
 |A+1=>by
  unfold uB
  cases ix A with
  |none=>exact nE ix k f m o n A
  |some e=>simp only;rw[aAq (by rw[nE ix k f m o n A,iO]),nE ix k f m o n A]
theorem aMb {k f A:Nat}(k1:1≤k) (k2:k≤40) (f1:1≤f) (f2:f≤60) (hA:A<f):mE (aCc k f*(2*(k:Int))) 201 (trN k f A):=by
 obtain⟨H,h1,h2⟩:=aGo k2 f1 f2 hA;refine⟨H* -1,?_,?_⟩
 ·unfold trN;rw[h1,Rat.divInt_mul_divInt]
 ·have:=cJ H (-1);have h3:len (-1)≤1:=by decide+kernel
  omega
theorem aMc {k f:Nat}(k1:1≤k) (f1:1≤f):aCc k f*(2*(k:Int))≠0:=Int.mul_ne_zero (sX f1) (by omega)
theorem aEc {k f:Nat}(k2:k≤40) (f2:f≤60):len (aCc k f*(2*(k:Int)))≤61:=by
 have h1:=cJ (aCc k f) (2*(k:Int));have h2:=oT (k:=k) (f:=f) k2 f2;have h3:len (2*(k:Int))≤1:=bH (e:=1) (by omega);omega
theorem aP7 {D:Int}{L:Nat}{q:Rat}(h:mE D L q) {z:Int}(hz:z.natAbs≤10):mE D (L+1) (q*(z:Rat)):=by
 obtain⟨H,e,hl⟩:=h;refine⟨H*z,?_,?_⟩
 ·rw[e,aG3 z,Rat.divInt_mul_divInt,Int.mul_one]
 ·have h1:=cJ H z;have h2:len z≤1:=bH (e:=1) (by omega);omega
theorem bGe {z:List Int}(hz:∀ x∈z,x.natAbs≤10) (i:Nat):(z.getD i 0).natAbs≤10:=by
 rcases Nat.lt_or_ge i z.length with h |h
 ·have hm:z.getD i 0∈z:=by
   rw[show z.getD i 0=z[i]by simp[List.getD,h]];exact List.getElem_mem h
  exact hz _ hm
 ·have:z.getD i 0=0:=by simp[List.getD,h]
  rw[this];decide
theorem aMd {ix:Nat→Option Nat}{k f m o n:Nat}(k1:1≤k) (k2:k≤40) (f1:1≤f) (f2:f≤60) (hz:∀ e,e<m→∀ z∈zI m e,z.natAbs≤10) (hix:∀ A j,A<f→ix A=some j→j*(m / o)<m):∀ A,A≤f→∀ i,i<n→mE (aCc k f*(2*(k:Int))) (203+A) ((uB ix k f m o n A).getD i 0)
 |0,_,i,hi=>by
  have:(uB ix k f m o n 0).getD i 0=0:=by simp[uB,List.getD,hi]
  rw[this]
  exact aAj _ _
 |A+1,hA,i,hi=>by
  unfold uB;have ih:=aMd (ix:=ix) (o:=o) k1 k2 f1 f2 hz hix A (by omega) i hi
  cases he:ix A with
  |none=>exact ih.mono (by omega)
  |some j=>
   simp only;rw[fC (by rw[nE,iO]),oW hi];exact ih.add ((aP7 (aMb k1 k2 f1 f2 (by omega)) (bGe (hz _ (hix A j (by omega) he)) i)).mono (by omega))
theorem aAt {D:Int}{L:Nat}{q:Rat}(h:mE D L q) (hD:D≠0) (hK:len D≤61):lq q≤L+61:=h.lq hD hK
attribute [local irreducible] lrun lwp exThen exBlk keep goodPost sg mg oc op ec uB tA zI rz trN tS
theorem aMe {n1 n2:Nat}{v1 v2:List Int}(hn:n1≠1) {k m n:Nat}(nn1:1≤n) (nn2:n≤12) (T:Int):PGd 95 [i64 k,.agg [i64 n1,.sl v1.length (ec v1),i64 n2,.sl v2.length (ec v2),i64 T],i64 m,i64 n] (.sl n (qc (List.replicate n 0))):=by
 have gz:=yQ n nn1 (by omega);have hn':¬(n1:Int)=1:=by omega
 generalize qc (List.replicate n 0)=Z at*;simp only[i64]at gz⊢;refine aA aV Tryz.func95 rfl (by decide) (nt:=64) rfl (rs:=[.tmp 8]) rfl (aW rfl) ?_;refine zA8 ?_;exact zQ9
theorem aP8 {n2 o2 c2:Nat}{v1 v2:List Int}{b2:Bool}{ix2:Nat→Option Nat}(h2:SeD n2 v2 o2 c2 b2 ix2) {m n:Nat}(hZ:ZtD m n) (hm2:m % o2=0) {k:Nat}(k1:2≤k) (k2:k≤40) (T:Int):
  PGd 95 [i64 k,.agg [i64 1,.sl v1.length (ec v1),i64 n2,.sl v2.length (ec v2),i64 T],i64 m,i64 n] (.sl n (qc (uB ix2 k n2 m o2 n n2))):=by
 obtain⟨m1,m2,nn1,nn2,hrz,_,hzl,hzs⟩:=hZ;have f1:=h2.n1;have f2:=h2.n2;have gz:=yQ n nn1 (by omega);have hix:∀ A j,A<n2→ix2 A=some j→j*(m / o2)<m:=fun A j hA hj=>(fV h2 (show A<60 by omega) hj hm2 m1 (by omega)).2.2
 have hal:=nE ix2 k n2 m o2 n;have hlq:=fun A (hA:A≤n2) i (hi:i<n)=>aAt (aMd (ix:=ix2) (o:=o2) (by omega) k2 f1 f2 hzs hix A hA i hi) (aMc (by omega) f1) (aEc k2 f2)
 have hac0:uB ix2 k n2 m o2 n 0=List.replicate n 0:=by unfold uB;rfl
 rw[← hac0]at gz
 have gnum:=aP6 k k2;have hbl:(bn (k+1)).length=k+1:=jP _;rw[bE,hbl]at gnum
 have ek:((k:Int)-1)=((k-1:Nat):Int):=by omega
 simp only[i64]at gz gnum⊢;refine aA aV Tryz.func95 rfl (by decide) (nt:=64) rfl (rs:=[.tmp 8]) rfl (aW rfl) ?_;refine zA8 ?_;refine aG (α:={A:Nat // A≤n2}) (fun A=>st 64 (lk [(0,i64 k),(2,i64 m),(3,i64 n),(5,.ptr 0 0),(9,.sl n (qc (uB ix2 k n2 m o2 n A.1))),(10,i64 n2),(11,.sl (k+1) (qc (bn (k+1)))),(12,i64 ((A.1:Int)+1))]) (cG [(0,⟨58,[i64 1,.sl v1.length (ec v1),i64 n2,.sl v2.length (ec v2),i64 T],false⟩)]) 1) (fun A=>n2-A.1) ⟨0,by omega⟩ ?_ ?_
 ·simp only[i64];exact zL2 [0]
 ·rintro⟨A,hA⟩;simp only[st];by_cases hlt:A<n2
  ·cases hi2:ix2 A with
   |none=>
    have g2:=(iW h2 (m:=m) (show A<60 by omega) hi2).2
    have hs:uB ix2 k n2 m o2 n (A+1)=uB ix2 k n2 m o2 n A:=by
      conv=>lhs;unfold uB
      rw[hi2]
    simp only[i64]at g2;refine zA8 ?_;refine⟨⟨A+1,by omega⟩,?_,by simp only;omega⟩;simp only[i64];rw[hs]
    exact zL2 [0]
   |some j=>
    obtain⟨_,g2,hjm⟩:=fV h2 (show A<60 by omega) hi2 hm2 m1 (by omega)
    have hs:uB ix2 k n2 m o2 n (A+1)=qO (uB ix2 k n2 m o2 n A) (tA n (trN k n2 A) (zI m (j*(m / o2)))):=by
      conv=>lhs;unfold uB
      rw[hi2]
    have w1:=rG ((A:Int)+1) n2 (by omega) (by omega)
    have lx:lq (Rat.divInt ((A:Int)+1) n2)≤4:=by
      have h:=eQ (n:=(A:Int)+1) (d:=n2) (by omega);have a1:len ((A:Int)+1)≤1:=bH (e:=1) (by omega);have a2:len (n2:Int)≤1:=bH (e:=1) (by omega);unfold lq;omega
    have w2:=aL9 k k2 (Rat.divInt ((A:Int)+1) n2) (by omega);have w3:=lD n2 (by omega);have w4:=aDb n2 (k-1) (by omega) (by omega) (by omega);have lpw:len ((n2:Int)^(k-1))≤20:=aPf (by omega) (by omega);have w5:=aC4 ((n2:Int)^(k-1)) (by omega);have lhx:=aLw (x:=Rat.divInt ((A:Int)+1) n2) (A:=4) (n:=k) (k:=0) lx (by omega) (by omega);rw[List.drop_zero]at lhx
    have lpq:lq ((((n2:Int)^(k-1):Int)):Rat)≤30:=by rw[sK];omega
    have w6:=eB (nC (yT k) (Rat.divInt ((A:Int)+1) n2)) ((((n2:Int)^(k-1):Int)):Rat) (by omega) (by omega)
    have et:nC (yT k) (Rat.divInt ((A:Int)+1) n2)*((((n2:Int)^(k-1):Int)):Rat)=tS k n2 A:=by
      rw[Rat.mul_comm,bFl,Rat.intCast_pow];rfl
    rw[et]at w6
    have w7:=rG (-1) (2*(k:Int)) (by omega) (by omega)
    have lf:lq (Rat.divInt (-1) (2*(k:Int)))≤4:=by
      have h:=eQ (n:= -1) (d:=2*(k:Int)) (by omega);have a1:len (-1)≤1:=by decide+kernel
      have a2:len (2*(k:Int))≤1:=bH (e:=1) (by omega);unfold lq;omega
    have lt:=bFb (k:=k) (f:=n2) (j:=A) k2 f1 f2 hlt;have w8:=eB (tS k n2 A) (Rat.divInt (-1) (2*(k:Int))) (by omega) (by omega);have en:tS k n2 A*Rat.divInt (-1) (2*(k:Int))=trN k n2 A:=by unfold trN;rfl
    rw[en]at w8
    have ltn:=aAt (aMb (k:=k) (f:=n2) (A:=A) (by omega) k2 f1 f2 hlt) (aMc (by omega) f1) (aEc k2 f2);have w9:=aDa (q:=trN k n2 A) (hrz _ hjm) (hzl _ hjm) (hzs _ hjm) nn1 (by omega) (by omega) (by omega) (by omega);have hvl:=iO n (trN k n2 A) (zI m (j*(m / o2)))
    have w10:=aAs (uB ix2 k n2 m o2 n A) (tA n (trN k n2 A) (zI m (j*(m / o2)))) n (hal A) hvl nn1 (by omega) (fun i hi=>by have:=hlq A (by omega) i hi;omega) (fun i hi=>by
      rw[oW hi];have:=aAt (aP7 (aMb (k:=k) (f:=n2) (A:=A) (by omega) k2 f1 f2 hlt) (bGe (hzs _ hjm) i)) (aMc (by omega) f1) (aEc k2 f2)
      omega)
    rw[← hs]at w10
    generalize hA1:uB ix2 k n2 m o2 n (A+1)=A1 at*;generalize uB ix2 k n2 m o2 n A=A0 at*;generalize tA n (trN k n2 A) (zI m (j*(m / o2)))=V at*;generalize trN k n2 A=TN at*;generalize tS k n2 A=TM at*;generalize nC (yT k) (Rat.divInt ((A:Int)+1) n2)=HX at*;generalize Rat.divInt ((A:Int)+1) n2=X at*;generalize hFK:Rat.divInt (-1) (2*(k:Int))=FK at*;generalize hKQ:((((n2:Int)^(k-1):Int)):Rat)=KQ at*;generalize (n2:Int)^(k-1)=KZ at*;generalize bn (k+1)=BN at*;generalize j*(m / o2)=J at*;clear et en hKQ;simp only[aY,aH,i64]at g2 w1 w2 w3 w4 w5 w6 w7 w8 w9 w10;refine kK ek ?_;refine⟨⟨A+1,by omega⟩,?_,by simp only;omega⟩;simp only[i64];rw[hA1];exact zL2 [0]
  ·obtain rfl:A=n2:=by omega
   refine zA8 ?_;exact zQ9
end Go.Proofs.YtaidcaemdkncgaaGreatDoor
namespace Go.Lg
open Go
def eE (l:List (Nat×Blk)) (B m:Nat) (g:Nat→Blk):Nat→Option Blk:=fun b=>if B≤b then(if b<m+B then some (g (b-B))else none)else cG l b
theorem aMf (l:List (Nat×Blk)) (B m:Nat) (g:Nat→Blk) (b:Nat):eE l B m g b=if B≤b then(if b<m+B then some (g (b-B))else none)else cG l b:=rfl
theorem qD {l:List (Nat×Blk)}{B m:Nat}{g:Nat→Blk}{i:Nat}(h:i<m):eE l B m g (i+B)=some (g i):=by
 rw[aMf,if_pos (by omega),if_pos (by omega),Nat.add_sub_cancel]
def kL (ρ:List Nat) (B:Nat) (τ:Nat→Nat):Nat→Nat:=fun b=>if B≤b then τ (b-B)else ρ.getD b 0
theorem lQ (ρ:List Nat) (B:Nat) (τ:Nat→Nat) (b:Nat):kL ρ B τ b=if B≤b then τ (b-B)else ρ.getD b 0:=rfl
theorem rS {α:Type}{nb:Nat}{ρ:Nat→Nat}{f g:α→LV}:∀ {l:List α},(∀ x∈l,renL nb ρ (f x)=some (g x))→renLs nb ρ (l.map f)=some (l.map g)
 |[],_=>rfl
 |x::l,h=>by
  rw[List.map_cons,List.map_cons,renLs,h x (by simp),rS (l:=l) (fun y hy=>h y (by simp[hy]))]
theorem Sub.fam {n:Nat}{f:Nat→LV}{h:Nat→Option Blk}{nb nb':Nat}{l:List (Nat×LV)}{hl:List (Nat×Blk)}{B m:Nat}{g:Nat→Blk}(ρ:List Nat) (τ:Nat→Nat) (hnb:nb'=m+B) (hB:B=ρ.length) (hd:ρ.Nodup)
  (hf:∀ p∈l,renL nb' (kL ρ B τ) p.2=some (f p.1)) (hlt:∀ p∈hl,p.1<ρ.length)
  (hb:∀ p∈hl,∃ cs,h (ρ.getD p.1 0)=some ⟨p.2.ty,cs,p.2.fz⟩∧renLs nb' (kL ρ B τ) p.2.cells=some cs)
  (hg:∀ i,i<m→h (τ i)=some (g i)) (hgp:∀ i,i<m→∀ c∈(g i).cells,aB c=true) (hτ:∀ i j,i<m→j<m→τ i=τ j→i=j) (hρτ:∀ i,i<m→∀ b∈ρ,b≠τ i):
  Sub 0 ⟨n,f,h,nb⟩ ⟨n,lk l,eE hl B m g,nb'⟩:=by
 subst hnb;refine⟨rfl,kL ρ B τ,fun i=>aBc (Q:=fun i v=>v= .dead∨renL (m+B) (kL ρ B τ) v=some (f i)) (fun _=> .inl rfl) l (fun p hp=> .inr (hf p hp)) i,fun b k hk=> ?_,fun b b' k k' hk hk' e=> ?_,⟨by omega,fun b hb=>by omega⟩⟩
 ·replace hk:eE hl B m g b=some k:=hk
  rw[aMf]at hk
  split at hk
  ·rename_i h1;split at hk
   ·rename_i h2
    cases hk
    refine⟨by omega,g (b-B),?_,rfl,rfl,cM (hgp _ (by omega))⟩;rw[lQ,if_pos h1];exact hg _ (by omega)
   ·cases hk
  ·rename_i h1;obtain⟨cs,h2,h3⟩:=hb _ (mT hl hk);refine⟨by show b<m+B;omega,⟨k.ty,cs,k.fz⟩,?_,rfl,rfl,h3⟩;rw[lQ,if_neg h1];exact h2
 ·replace hk:eE hl B m g b=some k:=hk
  replace hk':eE hl B m g b'=some k':=hk'
  rw[aMf]at hk hk'
  rw[lQ,lQ]at e
  split at hk
  ·rename_i h1;split at hk
   ·rename_i h2;split at hk'
    ·rename_i h3;split at hk'
     ·rename_i h4;rw[if_pos h1,if_pos h3]at e
      have:=hτ _ _ (by omega) (by omega) e;omega
     ·cases hk'
    ·rename_i h3;rw[if_pos h1,if_neg h3]at e
     have h5:=hlt _ (mT hl hk')
     have:ρ.getD b' 0∈ρ:=by
      rw[List.getD_eq_getElem?_getD,List.getElem?_eq_getElem h5,Option.getD_some];exact List.getElem_mem h5
     exact absurd e.symm (hρτ _ (by omega) _ this)
   ·cases hk
  ·rename_i h1;split at hk'
   ·rename_i h3;split at hk'
    ·rename_i h4;rw[if_neg h1,if_pos h3]at e
     have h5:=hlt _ (mT hl hk)
     have:ρ.getD b 0∈ρ:=by
      rw[List.getD_eq_getElem?_getD,List.getElem?_eq_getElem h5,Option.getD_some];exact List.getElem_mem h5
     exact absurd e (hρτ _ (by omega) _ this)
    ·cases hk'
   ·rename_i h3;rw[if_neg h1,if_neg h3]at e
    have h5:=hlt _ (mT hl hk);have h6:=hlt _ (mT hl hk');simp only[List.getD_eq_getElem?_getD,List.getElem?_eq_getElem h5,List.getElem?_eq_getElem h6,Option.getD_some]at e;exact(List.getElem_inj hd).1 e
end Go.Lg
namespace Go.Proofs.YtaidcaemdkncgaaGreatDoor
section
open Go Go.Lg Go.Num
def oP (o:Nat→Option Rat) (N:Nat):List (Option Rat):=(List.range N).map o
theorem mL (o:Nat→Option Rat) (N:Nat):(oP o N).length=N:=by simp[oP]
theorem aMg {o:Nat→Option Rat}{N i:Nat}(h:i<N):(oP o N).getD i none=o i:=by simp[oP,h]
theorem bL5 {o:Nat→Option Rat}{N s i:Nat}(h:s+i<N):((oP o N).drop s).getD i none=o (s+i):=by simp[oP,h]
theorem aJy (a:Nat→Rat) (N:Nat):op (oP (fun i=>some (a i)) N)=qc (aP a N):=by
 rw[← bEf];simp[aP,oP,Function.comp_def]
theorem aZ8:PGd 21 [.agg [.lit (.bool false),.sl 0 [],.lit (.bool false),.sl 0 []]] (i64 0):=aAc (by kernel_rfl)
theorem aTp:PGd 138 [.agg [.lit (.bool false),.sl 0 [],.lit (.bool false),.sl 0 []]] (.agg [.lit (.bool false),.sl 0 [],.lit (.bool false),.sl 1 [.lit (.int .u32 1)]]):=aAc (by kernel_rfl)
theorem aJz:bG 0= .agg [.lit (.bool false),.sl 0 [],.lit (.bool false),.sl 1 [.lit (.int .u32 1)]]:=by with_unfolding_all rfl
theorem aZ9:PGd 138 [.agg [.lit (.bool false),.sl 0 [],.lit (.bool false),.sl 0 []]] (bG 0):=by
 rw[aJz];exact aTp
def fJ (h:Int) (a:Nat→Rat) (N:Nat):LV:= .agg [i64 (h+Go.Num.ordN a N),.sl (N-Go.Num.ordN a N) (qc (aP (fun i=>a (Go.Num.ordN a N+i)) (N-Go.Num.ordN a N)))]
theorem iX {h:Int}{a:Nat→Rat}{N s:Nat}(hs:Go.Num.ordN a N=s):fJ h a N= .agg [i64 (h+s),.sl (N-s) (qc (aP (fun i=>a (s+i)) (N-s)))]:=by
 unfold fJ;rw[hs]
theorem oX {h:Int}{a:Nat→Rat}{N f:Nat}(hf:f≤N) (hz:∀ j,j<f→a j=0):fJ h a N=fJ (h+f) (fun i=>a (f+i)) (N-f):=by
 have e:=aTm hf hz;rw[iX e,iX rfl]
 have e2:(fun i=>a (f+Go.Num.ordN (fun i=>a (f+i)) (N-f)+i))=fun i=>a (f+(Go.Num.ordN (fun i=>a (f+i)) (N-f)+i)):=by
  funext i
  rw[Nat.add_assoc]
 rw[e2,show N-(f+Go.Num.ordN (fun i=>a (f+i)) (N-f))=N-f-Go.Num.ordN (fun i=>a (f+i)) (N-f)by omega,show h+((f+Go.Num.ordN (fun i=>a (f+i)) (N-f):Nat):Int)=h+(f:Int)+(Go.Num.ordN (fun i=>a (f+i)) (N-f):Int)by omega]
theorem aCh {h:Int}{a:Nat→Rat}{N:Nat}(ha:∀ j,j<N→a j=0):fJ h a N= .agg [i64 (h+N),.sl 0 []]:=by
 rw[iX (aD9 (Nat.le_refl N) ha (fun h=>by omega)),Nat.sub_self];rfl
attribute [local irreducible] lrun lwp exThen exBlk keep goodPost sg mg sS qs sv oc mC oqc fJ op oqp
theorem bAa (h:Int) (o:Nat→Option Rat) (a:Nat→Rat) (N:Nat) (ha:∀ i,i<N→a i=(o i).getD 0) (h1: -100≤h) (h2:h+N≤1000) (ba:∀ i,i<N→lq (a i)≤1000):PGd 253 [i64 h,.sl N (op (oP o N))] (.tup [fJ h a N,i64 0]):=by
 have hl:=mL o N;have hmn:(if 1000-h<(N:Int)then 1000-h else(N:Int))=N:=if_neg (by omega);generalize hR:fJ h a N=R;simp only[i64]at*;refine aA aV Tryz.func253 rfl (by decide) (nt:=61) rfl (rs:=[.cell 4 80,.tmp 5]) rfl (aW rfl) ?_
 (repeat(first|apply zO (by decide+kernel)|apply zP (by decide+kernel)|(apply zS;(case h=>constructor<;>decide))|((first|apply cB rfl|apply aS|apply zT rfl (by decide) rfl);(case hs=>(simp(disch:=first|omega|exact kD rfl|exact kX rfl) only[smY,simprocAttr,bl,i64,smT,smO,smM,op_len,@op_td,oqp_none,oqp_some,hmn,@op_take,op_drop];exact rfl));first|refine bZ ?_|refine cA ?_|refine zq ?_|(case hg=>assumption))))
 refine aG (α:={s:Nat // s≤N∧∀ j,j<s→a j=0}) (fun s=>st 61 (lk [(0,i64 h),(1,.sl N (op (oP o N))),(4,.ptr 0 0),(6,i64 s.1)]) (cG [(0,⟨80,[i64 0,nilL],false⟩)]) 1) (fun s=>N-s.1) ⟨0,Nat.zero_le _,fun j hj=>by omega⟩ ?_ ?_
 ·(refine Sub.heap1 0 ?_ (by simp only[aI,simprocAttr,bl,i64,smT,smO,smM,op_len,@op_td,oqp_none,oqp_some,hmn,@op_take,op_drop];exact rfl) ?_ ?_;all_goals(first |exact aE _ |with_reducible rfl |(simp only[aI,simprocAttr,bl,i64,smT,smO,smM,op_len,@op_td,oqp_none,oqp_some,hmn,@op_take,op_drop])|skip))
  all_goals(first |exact⟨rfl,rfl⟩ |simp)
 ·rintro⟨s,hs,hz⟩;simp only[st];by_cases hc:s<N∧a s=0
  ·obtain⟨hlt,has⟩:=hc;have e0:(op ((oP o N).drop s)).take 4=oqp (o s):=by rw[bEe (by omega),aMg hlt]
   have has':=ha s hlt;rw[has]at has'
   cases ho:o s with
   |none=>
    rw[ho,oqp_none]at e0
    have g1:=aZ8;simp only[i64,bl]at g1;refine bBo (nd hmn e0) ?_;refine⟨⟨s+1,by omega,fun j hj=> ?_⟩,?_,by simp only;omega⟩
    · by_cases e:j=s
      · rw[e];exact has
      · exact hz j (by omega)
    · (refine Sub.heap1 0 ?_ (by simp only[aI,simprocAttr,bl,i64,smT,smO,smM,op_len,@op_td,oqp_none,oqp_some,hmn,op_drop];exact rfl) ?_ ?_;all_goals(first |exact aE _ |with_reducible rfl |(simp only[aI,simprocAttr,bl,i64,smT,smO,smM,op_len,@op_td,oqp_none,oqp_some,hmn,op_drop])|skip))
      all_goals(first |exact⟨rfl,rfl⟩ |simp)
   |some q=>
    rw[ho]at e0 has'
    obtain rfl:(0:Rat)=q:=has';rw[oqp_some]at e0
    have g1:=kY 0 (by decide+kernel);rw[show(0:Rat).num.sign=0 from rfl]at g1
    generalize (0:Rat)=q at*;simp only[i64,aH]at g1;refine bBo (nd hmn e0) ?_;refine⟨⟨s+1,by omega,fun j hj=> ?_⟩,?_,by simp only;omega⟩
    · by_cases e:j=s
      · rw[e];exact has
      · exact hz j (by omega)
    · (refine Sub.heap1 0 ?_ (by simp only[aI,simprocAttr,bl,i64,smT,smO,smM,op_len,@op_td,oqp_none,oqp_some,hmn,op_drop];exact rfl) ?_ ?_;all_goals(first |exact aE _ |with_reducible rfl |(simp only[aI,simprocAttr,bl,i64,smT,smO,smM,op_len,@op_td,oqp_none,oqp_some,hmn,op_drop])|skip))
      all_goals(first |exact⟨rfl,rfl⟩ |simp)
  ·have hord:Go.Num.ordN a N=s:=aD9 hs hz (fun hlt e=>hc ⟨hlt,e⟩);rw[iX hord]at hR
   have hdl:((oP o N).drop s).length=N-s:=by rw[List.length_drop,hl]
   have hcast:((N-s:Nat):Int)=(N:Int)-s:=by omega
   by_cases hlt:s<N
   ·have e0:(op ((oP o N).drop s)).take 4=oqp (o s):=by rw[bEe (by omega),aMg hlt]
    have has:=ha s hlt;have has0:a s≠0:=fun e=>hc ⟨hlt,e⟩
    cases ho:o s with
    |none=>rw[ho]at has;exact absurd has has0
    |some q=>
     rw[ho]at e0 has
     obtain rfl:a s=q:=has;rw[oqp_some]at e0
     have g1:=kY (a s) (by have:=ba s hlt;omega);have g2:(a s).num.sign≠0:=fun e=>has0 (Rat.num_eq_zero.1 (Int.sign_eq_zero_iff_zero.1 e))
     have g3: -1≤(a s).num.sign∧(a s).num.sign≤1:=by
       rcases Int.sign_trichotomy (a s).num with e |e |e <;>rw[e] <;>omega
     generalize (a s).num.sign=sg0 at*;generalize a s=q at*;simp only[i64,aH]at g1;refine bBo (nd hmn (nd hdl e0)) ?_;refine aG (α:={i:Nat // i≤N-s}) (fun i=>st 61 (lk [(0,i64 (h+s)),(4,.ptr 0 0),(7,.own 1 0 i.1 4),(46,.sl (N-s) (op ((oP o N).drop s))),(47,i64 ((N-s:Nat):Int)),(48,i64 i.1)]) (cG [(0,⟨80,[i64 0,nilL],false⟩),(1,⟨47,mC (fun i=>a (s+i)) (N-s) i.1,false⟩)]) 2) (fun i=>N-s-i.1) ⟨0,by omega⟩ ?_ ?_
     · have htk:(op ((oP o N).drop s)).take ((N-s)*4)=op ((oP o N).drop s):=op_take (by rw[hdl])
       (refine fY [0,23] ?_ ?_ ?_;all_goals(first|(simp only[aB,aI,simprocAttr,bl,i64,smT,smO,smM,op_len,@op_td,oqp_none,oqp_some,op_drop,htk,aD7 (fun i=>a (s+i))];done) |(simp only[aI,simprocAttr,bl,i64,smT,smO,smM,op_len,@op_td,oqp_none,oqp_some,op_drop,htk,aD7 (fun i=>a (s+i))];try((repeat' apply And.intro);all_goals rfl)) |skip))
       all_goals(first |done |((repeat' apply And.intro);all_goals(first |trivial |rfl)))
     · rintro⟨i,hi⟩;simp only[st];have hl2:=eC (fun i=>a (s+i)) i;have happ:=pY (fun i=>a (s+i)) i;by_cases hil:i<N-s
       · have e5:((oP o N).drop s).getD i none=o (s+i):=bL5 (by omega);have b5:=ba (s+i) (by omega);have ha5:=ha (s+i) (by omega)
         cases ho5:o (s+i)with
         |none=>
          rw[ho5]at e5 ha5
          have g5:=aZ9;rw[show(0:Rat)=a (s+i)from ha5.symm]at g5
          generalize hbv:a (s+i)=v at*;simp only[aH]at g5
          (repeat(first|apply zO (by decide+kernel)|apply zP (by decide+kernel)|(apply zS;(case h=>constructor<;>decide))|((first|apply cB rfl|apply aS|apply zT rfl (by decide) rfl);(case hs=>(simp(disch:=first|omega|exact kD rfl|exact kX rfl) only[smY,simprocAttr,bl,i64,smT,smO,smM,op_len,@op_td,oqp_none,oqp_some,hdl,e5];exact rfl));first|refine bZ ?_|refine cA ?_|refine zq ?_|(case hg=>assumption))))
          refine⟨⟨i+1,by omega⟩,?_,by simp only;omega⟩
          (refine fY [0,11] ?_ ?_ ?_;all_goals(first|(simp only[aB,aI,simprocAttr,bl,i64,smT,smO,smM,op_len,@op_td,oqp_none,oqp_some];done) |(simp only[aI,simprocAttr,bl,i64,smT,smO,smM,op_len,@op_td,oqp_none,oqp_some];try((repeat' apply And.intro);all_goals rfl)) |skip))
          all_goals(first |done |(rw[aVr (a:=fun i=>a (s+i)) (N:=N-s) (i:=i) hbv];exact⟨trivial,rfl⟩))
         |some q=>
          rw[ho5]at e5 ha5
          obtain rfl:a (s+i)=q:=ha5;have g5:=iF (a (s+i)) (by omega);generalize hbv:a (s+i)=v at*;simp only[aH]at g5
          (repeat(first|apply zO (by decide+kernel)|apply zP (by decide+kernel)|(apply zS;(case h=>constructor<;>decide))|((first|apply cB rfl|apply aS|apply zT rfl (by decide) rfl);(case hs=>(simp(disch:=first|omega|exact kD rfl|exact kX rfl) only[smY,simprocAttr,bl,i64,smT,smO,smM,op_len,@op_td,oqp_none,oqp_some,hdl,e5];exact rfl));first|refine bZ ?_|refine cA ?_|refine zq ?_|(case hg=>assumption))))
          refine⟨⟨i+1,by omega⟩,?_,by simp only;omega⟩
          (refine fY [0,11] ?_ ?_ ?_;all_goals(first|(simp only[aB,aI,simprocAttr,bl,i64,smT,smO,smM,op_len,@op_td,oqp_none,oqp_some];done) |(simp only[aI,simprocAttr,bl,i64,smT,smO,smM,op_len,@op_td,oqp_none,oqp_some];try((repeat' apply And.intro);all_goals rfl)) |skip))
          all_goals(first |done |(rw[aVr (a:=fun i=>a (s+i)) (N:=N-s) (i:=i) hbv];exact⟨trivial,rfl⟩))
       · obtain rfl:i=N-s:=by omega
         subst hR;refine bIt ?_
         ((first|apply dI|apply dK);case hres=>(simp only[gW];simp(disch:=first|omega|exact kD rfl|exact kX rfl) only[smY,simprocAttr,bl,i64,smT,smO,smM,op_len,@op_td,oqp_none,oqp_some];exact rfl))
         simp(disch:=first|omega|exact kD rfl|exact kX rfl) only[smY,simprocAttr,bl,i64,smT,smO,smM,op_len,@op_td,oqp_none,oqp_some]
   ·
    refine bIt ?_;refine fX rfl (by decide) rfl ?_;refine bIt ?_;refine aG (α:={i:Nat // i≤N-s}) (fun i=>st 61 (lk [(0,i64 (h+s)),(4,.ptr 0 0),(7,.own 1 0 i.1 4),(46,.sl (N-s) (op ((oP o N).drop s))),(47,i64 ((N-s:Nat):Int)),(48,i64 i.1)]) (cG [(0,⟨80,[i64 0,nilL],false⟩),(1,⟨47,mC (fun i=>a (s+i)) (N-s) i.1,false⟩)]) 2) (fun i=>N-s-i.1) ⟨0,by omega⟩ ?_ ?_
    ·have htk:(op ((oP o N).drop s)).take ((N-s)*4)=op ((oP o N).drop s):=op_take (by rw[hdl])
     (refine fY [0,23] ?_ ?_ ?_;all_goals(first|(simp only[aB,aI,simprocAttr,bl,i64,smT,smO,smM,op_len,@op_td,oqp_none,oqp_some,op_drop,htk,aD7 (fun i=>a (s+i))];done) |(simp only[aI,simprocAttr,bl,i64,smT,smO,smM,op_len,@op_td,oqp_none,oqp_some,op_drop,htk,aD7 (fun i=>a (s+i))];try((repeat' apply And.intro);all_goals rfl)) |skip))
     all_goals(first |done |((repeat' apply And.intro);all_goals(first |trivial |rfl)))
    ·rintro⟨i,hi⟩;simp only[st];have hl2:=eC (fun i=>a (s+i)) i;have happ:=pY (fun i=>a (s+i)) i;by_cases hil:i<N-s
     ·exfalso;omega
     ·obtain rfl:i=N-s:=by omega
      subst hR;refine bIt ?_
      ((first|apply dI|apply dK);case hres=>(simp only[gW];simp(disch:=first|omega|exact kD rfl|exact kX rfl) only[smY,simprocAttr,bl,i64,smT,smO,smM,op_len,@op_td,oqp_none,oqp_some];exact rfl))
      simp(disch:=first|omega|exact kD rfl|exact kX rfl) only[smY,simprocAttr,bl,i64,smT,smO,smM,op_len,@op_td,oqp_none,oqp_some]
end
section
open Go Go.Lg Go.Num
attribute [local irreducible] lrun lwp exThen exBlk keep goodPost sg mg sS qs sv oc mC oqc fJ
theorem aCi (q:Rat) (hq:lq q≤1000):PGd 186 [bG q] (bl (decide (q=0))):=by
 by_cases h:q=0
 ·subst h;rw[nS rfl,aJz];exact aAc (by kernel_rfl)
 ·rw[nT h];exact aTl q hq (fun e=>h (Rat.num_eq_zero.1 e))
theorem mA (h:Int) (a:Nat→Rat) (N:Nat) (h1: -100≤h) (h2:h+N≤1000) (ba:∀ i,i<N→lq (a i)≤1000):PGd 97 [i64 h,.sl N (qc (aP a N))] (.tup [fJ h a N,i64 0]):=by
 have hl:=eC a N;generalize hR:fJ h a N=R;simp only[i64]at*;refine aA aV Tryz.func97 rfl (by decide) (nt:=68) rfl (rs:=[.cell 4 80,.tmp 5]) rfl (aW rfl) ?_;refine dP ?_;refine aG (α:={s:Nat // s≤N∧∀ j,j<s→a j=0}) (fun s=>st 68 (lk [(0,i64 h),(1,.sl N (qc (aP a N))),(4,.ptr 0 0),(6,i64 (h+N)),(7,i64 s.1)]) (cG [(0,⟨80,[i64 0,nilL],false⟩)]) 1) (fun s=>N-s.1) ⟨0,Nat.zero_le _,fun j hj=>by omega⟩ ?_ ?_
 ·exact zO4 0
 ·rintro⟨s,hs,hz⟩;simp only[st];by_cases hc:s<N∧a s=0
  ·obtain⟨hlt,has⟩:=hc;have e0:(aP a N).getD s 0=a s:=sT hlt;have g1:=aCi (a s) (ba s hlt);rw[nS has]at g1
   have hz':∀ j,j<s+1→a j=0:=fun j hj=>by
    by_cases e:j=s
    ·rw[e];exact has
    ·exact hz j (by omega)
   clear has;generalize a s=av at g1 e0;simp only[aH,bl]at g1;refine cZ e0 ?_;refine⟨⟨s+1,by omega,hz'⟩,?_,by simp only;omega⟩;exact zO4 0
  ·have hord:Go.Num.ordN a N=s:=aD9 hs hz (fun hlt e=>hc ⟨hlt,e⟩);rw[iX hord]at hR
   by_cases hlt:s<N
   ·have e0:(aP a N).getD s 0=a s:=sT hlt;have g1:=aCi (a s) (ba s hlt);rw[nT (fun e=>hc ⟨hlt,e⟩)]at g1
    generalize a s=av at g1 e0;simp only[aH,bl]at g1;refine cZ e0 ?_;refine aG (α:={m:Nat // s+m≤N}) (fun m=>st 68 (lk [(1,.sl N (qc (aP a N))),(4,.ptr 0 0),(8,.ptr 1 0),(9,i64 ((s:Int)+(m.1:Int)))]) (cG ((0,⟨80,[i64 0,nilL],false⟩)::(1,⟨80,[i64 (h+s),nV 2 m.1],false⟩)::nB 2 m.1 (qc (aP (fun i=>a (s+i)) m.1)))) 3) (fun m=>N-(s+m.1)) ⟨0,by omega⟩ ?_ ?_
    ·simp only[mZ,nA]
     (refine Sub.heapR [0,24,99] rfl (by decide) ?_ (by simp only[smL];decide) ?_;all_goals(first|(simp only[aI,simprocAttr,bl,i64,smT];done) |(simp only[aI,simprocAttr,bl,i64,smT,Option.some.injEq,Blk.mk.injEq,true_and,and_true];first |done |(repeat' (first |apply And.intro |(refine⟨_,rfl,?_⟩;simp only[aI,simprocAttr,bl,i64,smT];first |done |rfl)))) |skip))
     all_goals(first |done |((repeat' apply And.intro);all_goals(first |trivial |rfl |(simp only[LV.lit.injEq,Value.int.injEq,true_and];omega) |exact⟨_,rfl,rfl⟩)))
    ·rintro⟨m,hm⟩;simp only[st];have hl2:=eC (fun i=>a (s+i)) m;have happ:=pY (fun i=>a (s+i)) m;have hcn:((s:Int)+(m:Int)).toNat=s+m:=by omega
     by_cases hlt:s+m<N
     ·by_cases hi0:m=0
      ·simp only[oN hi0,oO hi0];have e1:(aP a N).getD (s+m) 0=a (s+m):=sT (by omega);have b1:=ba (s+m) (by omega);have g2:=eN (a (s+m)) (by omega);generalize hai:a (s+m)=ai at*;simp only[aH]at g2;refine cZ (nd e1 hcn) ?_;refine⟨⟨m+1,by omega⟩,?_,by simp only;omega⟩
       (subst hi0;simp only[dW,dX];(refine Sub.heapR [0,1,15] rfl (by decide) ?_ (by simp only[smL];decide) ?_;all_goals(first|(simp only[aI,simprocAttr,bl,i64,smT];done) |(simp only[aI,simprocAttr,bl,i64,smT,Option.some.injEq,Blk.mk.injEq,true_and,and_true];first |done |(repeat' (first |apply And.intro |(refine⟨_,rfl,?_⟩;simp only[aI,simprocAttr,bl,i64,smT];first |done |rfl)))) |skip));have e:aP (fun i=>a (s+i)) 1=[ai]:=(by rw[← hai];rfl);all_goals(first |done |((repeat' apply And.intro);all_goals(first |trivial |rfl |(simp only[LV.lit.injEq,Value.int.injEq,true_and];omega) |(refine⟨_,rfl,?_⟩;show qc [a (s+0)]=_;rw[hai,← jK])))))
      ·simp only[lY hi0,lZ hi0];have e1:(aP a N).getD (s+m) 0=a (s+m):=sT (by omega);have b1:=ba (s+m) (by omega);have g2:=eN (a (s+m)) (by omega);generalize hai:a (s+m)=ai at*;simp only[aH]at g2;refine cZ (nd e1 hcn) ?_;refine⟨⟨m+1,by omega⟩,?_,by simp only;omega⟩
       (simp only[dW,dX];(refine Sub.heapR [0,1,15] rfl (by decide) ?_ (by simp only[smL];decide) ?_;all_goals(first|(simp only[aI,simprocAttr,bl,i64,smT];done) |(simp only[aI,simprocAttr,bl,i64,smT,Option.some.injEq,Blk.mk.injEq,true_and,and_true];first |done |(repeat' (first |apply And.intro |(refine⟨_,rfl,?_⟩;simp only[aI,simprocAttr,bl,i64,smT];first |done |rfl)))) |skip));all_goals(first |done |((repeat' apply And.intro);all_goals(first |trivial |rfl |(simp only[LV.lit.injEq,Value.int.injEq,true_and];omega) |exact⟨_,rfl,(by rw[happ,← iI])⟩))))
     ·have hi0:m≠0:=by omega
      obtain rfl:m=N-s:=by omega
      simp only[lY hi0,lZ hi0];subst hR;refine dP ?_;exact lU
   ·have hsN:(h:Int)+N-s=h:=by omega
    refine cZ hsN ?_;refine fX rfl (by decide) rfl ?_;refine cZ hsN ?_;refine aG (α:={m:Nat // s+m≤N}) (fun m=>st 68 (lk [(1,.sl N (qc (aP a N))),(4,.ptr 0 0),(8,.ptr 1 0),(9,i64 ((s:Int)+(m.1:Int)))]) (cG ((0,⟨80,[i64 0,nilL],false⟩)::(1,⟨80,[i64 (h+s),nV 2 m.1],false⟩)::nB 2 m.1 (qc (aP (fun i=>a (s+i)) m.1)))) 3) (fun m=>N-(s+m.1)) ⟨0,by omega⟩ ?_ ?_
    ·simp only[mZ,nA]
     (refine Sub.heapR [0,28,99] rfl (by decide) ?_ (by simp only[smL];decide) ?_;all_goals(first|(simp only[aI,simprocAttr,bl,i64,smT];done) |(simp only[aI,simprocAttr,bl,i64,smT,Option.some.injEq,Blk.mk.injEq,true_and,and_true];first |done |(repeat' (first |apply And.intro |(refine⟨_,rfl,?_⟩;simp only[aI,simprocAttr,bl,i64,smT];first |done |rfl)))) |skip))
     all_goals(first |done |((repeat' apply And.intro);all_goals(first |trivial |rfl |(simp only[LV.lit.injEq,Value.int.injEq,true_and];omega) |exact⟨_,rfl,rfl⟩)))
    ·rintro⟨m,hm⟩;simp only[st];have hl2:=eC (fun i=>a (s+i)) m;have happ:=pY (fun i=>a (s+i)) m;have hcn:((s:Int)+(m:Int)).toNat=s+m:=by omega
     by_cases hlt:s+m<N
     ·exfalso;omega
     ·have hi0:m=0:=by omega
      simp only[oN hi0,oO hi0];subst hR;rw[show N-s=0 by omega];have hq:qc (aP (fun i=>a (s+i)) 0)=[]:=rfl;rw[hq];refine dP ?_;exact lU
end
section
open Go Go.Lg Go.Num
attribute [local irreducible] lrun lwp exThen exBlk keep goodPost sg mg oc mC bq fJ
theorem aP0 (a:Nat→Rat):qc (aP a 0)=[]:=rfl
theorem dN (h:Int) (a:Nat→Rat) (N:Nat):∃ x M L,fJ h a N= .agg [i64 x,.sl M (qc L)]∧L.length=M∧M≤N∧x=h+((N:Int)-M):=by
 obtain⟨h1,_,_⟩:=gU a N;exact⟨_,_,_,iX rfl,eC _ _,by omega,by omega⟩
end
section
open Go Go.Lg Go.Num
attribute [local irreducible] lrun lwp exThen exBlk keep goodPost sg mg oc mC bq fJ oqc op oqp
theorem aG6 (x:Int) (M:Nat) (cs:List LV) (h1: -100≤x) (h2:x+M≤1000):PGd 111 [.agg [i64 x,.sl M cs]] (bl true):=by
 simp only[i64,bl];refine aA aV Tryz.func111 rfl (by decide) (nt:=20) rfl (rs:=[.tmp 2]) rfl (aW rfl) ?_;refine bIs ?_;exact zQ8
theorem aP9 (h:Int) (o:Nat→Option Rat) (a:Nat→Rat) (N:Nat) (ha:∀ i,i<N→a i=(o i).getD 0) (h1: -100≤h) (h2:h+N≤1000) (ba:∀ i,i<N→lq (a i)≤1000):PGd 178 [.agg [i64 h,.sl N (op (oP o N))]] (fJ h a N):=by
 have g:=bAa h o a N ha h1 h2 ba;have hl:=mL o N;obtain⟨x,M,L,hR,hLM,hM,hx⟩:=dN h a N;rw[hR]at g⊢
 clear hR;simp only[i64]at*;refine aA aV Tryz.func178 rfl (by decide) (nt:=14) rfl (rs:=[.cell 2 80]) rfl (aW rfl) ?_;refine bIs ?_;exact zQ8
theorem qE (h:Int) (o:Nat→Option Rat) (a:Nat→Rat) (N:Nat) (ha:∀ i,i<N→a i=(o i).getD 0) (h1: -100≤h) (h2:h+N≤1000) (ba:∀ i,i<N→lq (a i)≤1000):PGd 89 [.agg [i64 h,.sl N (op (oP o N))]] (.tup [fJ h a N,i64 0]):=by
 have g2:=aP9 h o a N ha h1 h2 ba;have g1:=aG6 h N (op (oP o N)) h1 h2;have hl:=mL o N;obtain⟨x,M,L,hR,hLM,hM,hx⟩:=dN h a N;rw[hR]at g2⊢
 clear hR;simp only[i64,bl]at*;refine aA aV Tryz.func89 rfl (by decide) (nt:=10) rfl (rs:=[.cell 2 80,.tmp 3]) rfl (aW rfl) ?_;refine bIs ?_;exact zQ8
theorem bAb (q:Rat) (h:lq q≤1000):PGd 74 [bG q,.agg [.lit (.bool false),.sl 0 [],.lit (.bool false),.sl 0 []]] (bG 0):=by
 have e0:aO 0= .agg [.lit (.bool false),.sl 0 []]:=by with_unfolding_all rfl
 have hz:len 0=0:=by simp[len,bD]
 have h1:=gD q.num 0 (by unfold lq at h;omega) (by omega);have h2:=gD (q.den:Int) 0 (by unfold lq at h;omega) (by omega);have h3:=wE 0 0 (by omega) (by omega);rw[Int.mul_zero]at h1 h2
 rw[show Rat.divInt 0 0=0 from rfl]at h3
 rw[e0]at h1 h2 h3
 simp only[aH,aY]at*;refine aA aV Tryz.func74 rfl (by decide) (nt:=16) rfl (rs:=[.cell 4 47]) rfl (aW rfl) ?_;refine bIs ?_;exact zQ8
theorem bGf {l:List (Option Rat)}{m:Nat}(h:m=l.length*4):(oc l).take m=oc l:=List.take_of_length_le (by rw[aB5];omega)
def pG (a:Nat→Rat) (t n:Nat):Rat:=if n % t=0 then a (n / t)else 0
def stO (w:Nat→Option Rat) (m n:Nat):Option Rat:=if n<m then w n else none
theorem bGg (w:Nat→Option Rat) (N:Nat):oP (stO w 0) N=List.replicate N none:=by
 apply List.ext_getElem
 ·simp[oP]
 ·intro i h1 h2;simp[oP,stO]
theorem bL6 (w:Nat→Option Rat) (N:Nat):oP (stO w N) N=oP w N:=by
 apply List.ext_getElem
 ·simp[oP]
 ·intro i h1 h2;simp[oP]at h1
  simp[oP,stO,h1]
theorem aWv {w:Nat→Option Rat}{m N:Nat}{q:Rat}(h:w m=some q):(oP (stO w m) N).set m (some q)=oP (stO w (m+1)) N:=by
 apply List.ext_getElem
 ·simp[oP]
 ·intro i h1 h2;simp only[List.getElem_set,oP,stO,List.getElem_map,List.getElem_range];by_cases e:m=i
  ·subst e;rw[if_pos rfl,if_pos (by omega),h]
  ·rw[if_neg e];by_cases e2:i<m
   ·rw[if_pos (by omega),if_pos (by omega)]
   ·rw[if_neg (by omega),if_neg (by omega)]
theorem bL7 {w:Nat→Option Rat}{m N:Nat}(h:m<N):(oP (stO w m) N).getD m none=none:=by
 rw[aMg h,stO,if_neg (by omega)]
def dfT (a:Nat→Rat) (t n:Nat):Rat:=a n-((t:Int):Rat)*pG a t n
def dfO (a:Nat→Rat) (t n:Nat):Option Rat:=some (dfT a t n)
theorem aDc (a:Nat→Rat) (N t:Nat) (hN:N≤1000) (ht1:1≤t) (ht:t≤1000) (ba:∀ i,i<N→lq (a i)≤1000):PGd 90 [.sl N (qc (aP a N)),i64 t,bl true] (.sl N (qc (aP (dfT a t) N))):=by
 have hl:=eC a N;have hl2:∀ m,(oP (stO (dfO a t) m) N).length=N:=fun m=>mL _ _
 have g1:=iG (t:Int) (by omega);have b1:=aF7 (z:=(t:Int)) (by omega);rw[← aJy (dfT a t),show(fun i=>some (dfT a t i))=dfO a t from rfl,← bL6 (dfO a t) N];simp only[i64,bl,aH]at*;refine aA aV Tryz.func90 rfl (by decide) (nt:=48) rfl (rs:=[.tmp 6]) rfl (aW rfl) ?_;refine tW hl2 ?_;refine aG (α:={n:Nat // n≤N}) (fun n=>st 48 (lk [(0,.sl N (qc (aP a N))),(1,i64 t),(2,bl true),(7,.own 0 0 N 4),(13,i64 N),(14,i64 n.1)]) (cG [(0,⟨47,oc (oP (stO (dfO a t) n.1) N),false⟩)]) 1) (fun n=>N-n.1) ⟨0,by omega⟩ ?_ ?_
 ·simp only[bGg]
  (refine Sub.heap1 3 ?_ (by simp only[aI,simprocAttr,bl,i64,smT,smO,hl2];exact rfl) ?_ ?_;all_goals(first |exact aE _ |with_reducible rfl |(simp only[aI,simprocAttr,bl,i64,smT,smO,hl2])|skip))
  all_goals(first |done |(rw[rH]) |trace_state)
 ·rintro⟨n,hn⟩;simp only[st];by_cases hlt:n<N
  ·have hq:n / t≤n:=Nat.div_le_self _ _;have e1:(aP a N).getD (n / t) 0=a (n / t):=sT (by omega);have e2:(aP a N).getD n 0=a n:=sT hlt;have b2:=ba n hlt;have b3:=ba (n / t) (by omega);by_cases hd:n % t=0
   ·have hu:pG a t n=a (n / t):=if_pos hd;have b4:=jZ ((t:Int):Rat) (a (n / t));have g2:=gS ((t:Int):Rat) (a (n / t)) (by omega) (by omega);have g3:=nL (a n) (((t:Int):Rat)*a (n / t)) (by omega) (by omega);have hw:dfO a t n=some (a n-((t:Int):Rat)*a (n / t)):=by rw[← hu];rfl
    have hs:=aWv (N:=N) hw;have ho1:=lH (l:=oP (stO (dfO a t) n) N) (j:=n) (by rw[mL];exact hlt) (a (n / t));have hln:((oP (stO (dfO a t) n) N).set n (some (a (n / t)))).length=N:=by rw[List.length_set,mL]
    have hgd:((oP (stO (dfO a t) n) N).set n (some (a (n / t)))).getD n none=some (a (n / t)):=by
     rw[List.getD_eq_getElem?_getD,List.getElem?_set_self (by rw[mL];exact hlt)];rfl
    have ho2:=lH (l:=(oP (stO (dfO a t) n) N).set n (some (a (n / t)))) (j:=n) (by rw[hln];exact hlt) (a n-((t:Int):Rat)*a (n / t));rw[List.set_set,hs]at ho2
    clear hw hs b4;generalize hS:(oP (stO (dfO a t) n) N).set n (some (a (n / t)))=S1 at*;generalize a n-((t:Int):Rat)*a (n / t)=dv at*;generalize ((t:Int):Rat)*a (n / t)=mv at*;generalize a (n / t)=av at*;generalize a n=an at*;generalize hqv:n / t=q at*;simp only[aH]at g2 g3;refine tW (nd hl2 (nd e1 (nd e2 (nd hqv (nd ho1 (nd hln hgd)))))) ?_;refine⟨⟨n+1,by omega⟩,?_,by simp only;omega⟩
    (refine Sub.heap1 0 ?_ (by simp only[aI,simprocAttr,bl,i64,smT,smO,hl2];exact rfl) ?_ ?_;all_goals(first |exact aE _ |with_reducible rfl |(simp only[aI,simprocAttr,bl,i64,smT,smO,hl2])|skip))
    all_goals(first |done |exact ho2 |trace_state)
   ·have hu:pG a t n=0:=if_neg hd;have g2:=bAb ((t:Int):Rat) (by omega)
    have g3:=nL (a n) 0 (by omega) (by have:lq 0≤3:=by decide+kernel
                                       omega)
    have hw:dfO a t n=some (a n-0):=by
     show some (a n-((t:Int):Rat)*pG a t n)=_;rw[hu,Rat.mul_zero]
    have hs:=aWv (N:=N) hw;have ho2:=lH (l:=oP (stO (dfO a t) n) N) (j:=n) (by rw[mL];exact hlt) (a n-0)
    have hgd:((oc (oP (stO (dfO a t) n) N)).drop (n*4)).take 4=[.lit (.bool false),.lit (.slice none 0 0),.lit (.bool false),.lit (.slice none 0 0)]:=by
     rw[bNs (by rw[mL];exact hlt),bL7 hlt,aF9]
    rw[hs]at ho2
    clear hw hs;generalize a n-0=dv at*;generalize a n=an at*;simp only[aH]at g2 g3;refine tW (nd hl2 (nd e2 hgd)) ?_;refine⟨⟨n+1,by omega⟩,?_,by simp only;omega⟩
    (refine Sub.heap1 0 ?_ (by simp only[aI,simprocAttr,bl,i64,smT,smO,hl2];exact rfl) ?_ ?_;all_goals(first |exact aE _ |with_reducible rfl |(simp only[aI,simprocAttr,bl,i64,smT,smO,hl2])|skip))
    all_goals(first |done |exact ho2 |trace_state)
  ·obtain rfl:n=N:=by omega
   have htk:(oc (oP (stO (dfO a t) n) n)).take (n*4)=oc (oP (stO (dfO a t) n) n):=bGf (by rw[mL])
   (repeat(first|apply zO (by decide+kernel)|apply zP (by decide+kernel)|(apply zS;(case h=>constructor<;>decide))|((first|apply cB rfl|apply aS|apply zT rfl (by decide) rfl);(case hs=>(simp(disch:=first|omega|exact kD rfl|exact kX rfl) only[smY,simprocAttr,bl,i64,smT,smO,hl2,@vC,htk];exact rfl));first|refine bZ ?_|refine cA ?_|refine zq ?_|(case hg=>assumption))))
   ((first|apply dI|apply dK);case hres=>(simp only[gW];simp(disch:=first|omega|exact kD rfl|exact kX rfl) only[smY,simprocAttr,bl,i64,smT,smO,hl2,@vC,htk];exact rfl))
   simp(disch:=first|omega|exact kD rfl|exact kX rfl) only[smY,simprocAttr,bl,i64,smT,smO,hl2,@vC,htk]
end
section
open Go Go.Lg Go.Num
attribute [local irreducible] lrun lwp exThen exBlk keep goodPost sg mg oc mC bq fJ
theorem cLp:lq 0≤3:=by decide+kernel
theorem kG (x:Int) (M:Nat) (cs:List LV) (h1: -100≤x) (h2:x+M≤1000):PGd 259 [.agg [i64 x,.sl M cs]] (i64 0):=by
 simp only[i64];refine aA aV Tryz.func259 rfl (by decide) (nt:=20) rfl (rs:=[.tmp 2]) rfl (aW rfl) ?_;refine dP ?_;exact lU
theorem aTr (x y:Int) (M N:Nat) (cs ds:List LV) (h1: -100≤x) (h2:x+M≤1000) (h3: -100≤y) (h4:y+N≤1000) (hc:(∀ c∈cs,fK c=true)):PGd 265 [.agg [i64 x,.sl M cs],.agg [i64 y,.sl N ds]] (i64 0):=by
 have g1:=kG x M cs h1 h2;have g2:=kG y N ds h3 h4;simp only[i64]at*;refine aA aV Tryz.func265 rfl (by decide) (nt:=13) rfl (rs:=[.tmp 4]) rfl (aW rfl) ?_;refine dP ?_;exact lU
theorem aDd (x:Int) (h1: -1000000≤x∧x≤1000000):PGd 262 [i64 x] (.agg [i64 x,.sl 0 []]):=by
 simp only[i64]at*;refine aA aV Tryz.func262 rfl (by decide) (nt:=5) rfl (rs:=[.cell 2 80]) rfl (aW rfl) ?_;refine dP ?_;exact lU
theorem oY (x:Int) (M:Nat) (cs:List LV) (h1: -100≤x) (h2:x+M≤1000):PGd 263 [.agg [i64 x,.sl M cs]] (i64 (x+M)):=by
 simp only[i64]at*;refine aA aV Tryz.func263 rfl (by decide) (nt:=9) rfl (rs:=[.tmp 2]) rfl (aW rfl) ?_;refine dP ?_;exact lU
theorem aMh (d:Nat) (h1:1≤d) (h2:d≤1000):PGd 260 [i64 d] (bl false):=by
 simp only[i64,bl]at*;refine aA aV Tryz.func260 rfl (by decide) (nt:=9) rfl (rs:=[.tmp 2]) rfl (aW rfl) ?_;refine dP ?_;exact lU
theorem aTs (n d:Nat) (hn:n≤10000000) (h1:1≤d) (h2:d≤10000000):PGd 155 [i64 n,i64 d] (i64 ((n % d:Nat):Int)):=by
 have:=Nat.mod_lt n (show 0<d by omega);simp only[i64]at*;refine aA aV Tryz.func155 rfl (by decide) (nt:=15) rfl (rs:=[.tmp 4]) rfl (aW rfl) ?_;refine dP ?_;exact lU
theorem bAc (o M:Nat) (a:Nat→Rat) (h2:o+M≤1000) (ha:0<M→a o≠0) (hb:0<M→lq (a o)≤1000):PGd 261 [.agg [i64 o,.sl M (qc (aP (fun i=>a (o+i)) M))]] (i64 o):=by
 have hl:=eC (fun i=>a (o+i)) M;have gp:=oY o M (qc (aP (fun i=>a (o+i)) M)) (by omega) (by omega);simp only[i64,bl]at*;refine aA aV Tryz.func261 rfl (by decide) (nt:=24) rfl (rs:=[.tmp 2]) rfl (aW rfl) ?_;refine dP ?_;refine aG (α:=Unit) (fun _=>st 24 (lk [(1,.ptr 0 0),(3,i64 0)]) (cG [(0,⟨80,[i64 o,.sl M (qc (aP (fun i=>a (o+i)) M))],false⟩)]) 1) (fun _=>0) () ?_ ?_
 ·exact zO4 0
 ·rintro⟨⟩;simp only[st];by_cases hM:0<M
  ·have e1:(aP (fun i=>a (o+i)) M).getD 0 0=a o:=sT hM;have gz:=aCi (a o) (hb hM);rw[nT (ha hM)]at gz
   generalize a o=q at gz e1;simp only[aH,bl]at gz
   (repeat(first|apply zO (by decide+kernel)|apply zP (by decide+kernel)|(apply zS;(case h=>constructor<;>decide))|((first|apply cB rfl|apply aS|apply zT rfl (by decide) rfl);(case hs=>(simp(disch:=first|omega|exact kD rfl|exact kX rfl) only[smY,simprocAttr,bl,i64,smT,e1,Int.add_zero];exact rfl));first|refine bZ ?_|refine cA ?_|refine zq ?_|(case hg=>assumption))))
   ((first|apply dI|apply dK);case hres=>(simp only[gW];simp(disch:=first|omega|exact kD rfl|exact kX rfl) only[smY,simprocAttr,bl,i64,smT,e1,Int.add_zero];exact rfl))
   simp(disch:=first|omega|exact kD rfl|exact kX rfl) only[smY,simprocAttr,bl,i64,smT,e1,Int.add_zero]
  ·obtain rfl:M=0:=by omega
   rw[Int.natCast_zero,Int.add_zero]at gp
   refine dP ?_;exact lU
theorem tC (o M n:Nat) (a:Nat→Rat) (h2:o+M≤1000) (hz:∀ j,j<o→a j=0) (hn:n<o+M) (hb:lq (a n)≤1000):PGd 264 [.agg [i64 o,.sl M (qc (aP (fun i=>a (o+i)) M))],i64 n] (bG (a n)):=by
 have hl:=eC (fun i=>a (o+i)) M;by_cases hno:n<o
 ·have g0:=fI 0 (by omega);rw[show((0:Int):Rat)=a n from(hz n hno).symm]at g0
  generalize a n=q at*;simp only[i64,aH]at*;refine aA aV Tryz.func264 rfl (by decide) (nt:=29) rfl (rs:=[.cell 4 47]) rfl (aW rfl) ?_;refine dP ?_;exact lU
 ·have e1:(aP (fun i=>a (o+i)) M).getD (n-o) 0=a n:=by
   rw[sT (by omega)];show a (o+(n-o))=_;rw[show o+(n-o)=n by omega]
  have g0:=eN (a n) (by omega);have hc:((n:Int)-(o:Int)).toNat=n-o:=by omega
  generalize hq:a n=q at g0 e1⊢;simp only[i64,aH]at g0⊢;refine aA aV Tryz.func264 rfl (by decide) (nt:=29) rfl (rs:=[.cell 4 47]) rfl (aW rfl) ?_;refine cZ (nd e1 hc) ?_;exact aKn (nd e1 hc)
end
section
open Go Go.Lg Go.Num
attribute [local irreducible] lrun lwp exThen exBlk keep goodPost sg mg oc mC bq fJ
theorem aWw {a:Nat→Rat}{t o j:Nat}(ht:1≤t) (hz:∀ j,j<o→a j=0) (h:j<t*o):pG a t j=0:=by
 unfold pG;split
 ·exact hz _ (Nat.div_lt_of_lt_mul h)
 ·rfl
theorem vN {a:Nat→Rat}{t p B j:Nat}(ba:∀ i,i<p→lq (a i)≤B) (hB:3≤B) (h:j<t*p):lq (pG a t j)≤B:=by
 unfold pG;split
 ·exact ba _ (Nat.div_lt_of_lt_mul h)
 ·exact Nat.le_trans cLp hB
theorem aAu (a:Nat→Rat) (p t:Nat) (hp:p≤1000) (ht1:1≤t) (ht:t≤1000) (ba:∀ i,i<p→lq (a i)≤1000):PGd 187 [fJ 0 a p,i64 t] (.tup [fJ 0 (pG a t) (min (t*p) 1000),i64 0]):=by
 obtain⟨ho,hz,hnz⟩:=gU a p;rw[iX (a:=a) rfl,Int.zero_add];generalize Go.Num.ordN a p=o at*;have hoM:o+(p-o)=p:=by omega
 generalize p-o=M at*;have g1:=kG o M (qc (aP (fun i=>a (o+i)) M)) (by omega) (by omega);have g2:=aMh t ht1 ht;have g3:=bAc o M a (by omega) (fun h=>hnz (by omega)) (fun h=>ba _ (by omega));have g4:=oY o M (qc (aP (fun i=>a (o+i)) M)) (by omega) (by omega);rw[show(o:Int)+M=((p:Nat):Int)by omega]at g4
 have hl:=eC (fun i=>a (o+i)) M;have b1:t*o≤1000*1000:=Nat.mul_le_mul ht (by omega);have b2:t*p≤1000*1000:=Nat.mul_le_mul ht hp;have b3:t*o≤t*p:=Nat.mul_le_mul_left _ ho;have hmul:(t:Int)*o=((t*o:Nat):Int):=by simp
 have hmul2:(t:Int)*p=((t*p:Nat):Int):=by simp
 by_cases hF:1000≤t*o
 ·have hN:min (t*p) 1000=1000:=by omega
  rw[hN,aCh (fun j hj=>aWw ht1 hz (by omega))];have g5:=aDd 1000 (by omega);generalize t*o=F at*;simp only[i64,bl]at*;refine aA aV Tryz.func187 rfl (by decide) (nt:=61) rfl (rs:=[.cell 4 80,.tmp 5]) rfl (aW rfl) ?_;refine cZ hmul ?_
  ((first|apply dI|apply dK);case hres=>(simp only[gW];simp(disch:=first|omega|exact kD rfl|exact kX rfl) only[smY,simprocAttr,bl,i64,smT,hmul];exact rfl))
  simp(disch:=first|omega|exact kD rfl|exact kX rfl) only[smY,simprocAttr,bl,i64,smT,hmul]
  trace_state
 ·have hN:((min (t*p) 1000:Nat):Int)=if(1000:Int)<((t*p:Nat):Int)then 1000 else((t*p:Nat):Int):=by split <;>omega
  have hFN:t*o≤min (t*p) 1000:=by omega
  have hNp:min (t*p) 1000≤t*p:=by omega
  have hN1:min (t*p) 1000≤1000:=by omega
  rw[oX hFN (fun j hj=>aWw ht1 hz hj),Int.zero_add];have gR:=mA ((t*o:Nat):Int) (fun i=>pG a t (t*o+i)) (min (t*p) 1000-t*o) (by omega) (by omega) (fun i hi=>vN ba (by omega) (by omega));obtain⟨x,MR,LR,hR,hLM,hM,hx⟩:=dN ((t*o:Nat):Int) (fun i=>pG a t (t*o+i)) (min (t*p) 1000-t*o);rw[hR]at gR⊢
  clear hR;generalize hNv:min (t*p) 1000=N at*;obtain⟨b,hbd⟩:∃ b,b=fun i=>pG a t (t*o+i):=⟨_,rfl⟩
  rw[← hbd]at gR
  have hbf:∀ i,b i=pG a t (t*o+i):=fun i=>by rw[hbd]
  clear hbd;generalize hFv:t*o=F at*;generalize hPv:t*p=P at*;have hmn:=hN.symm;simp only[i64,bl]at g1 g2 g3 g4 gR⊢;refine aA aV Tryz.func187 rfl (by decide) (nt:=61) rfl (rs:=[.cell 4 80,.tmp 5]) rfl (aW rfl) ?_;refine cZ hmul ?_;refine aG (α:={m:Nat // F+m≤N}) (fun m=>st 61 (lk [(1,i64 t),(2,.ptr 0 0),(4,.ptr 1 0),(7,i64 F),(8,nV 2 m.1),(9,i64 ((F+m.1:Nat):Int))]) (cG ((0,⟨80,[i64 o,.sl M (qc (aP (fun i=>a (o+i)) M))],false⟩)::(1,⟨80,[i64 0,nilL],false⟩)::nB 2 m.1 (qc (aP b m.1)))) 3) (fun m=>N-(F+m.1)) ⟨0,by omega⟩ ?_ ?_
  ·simp only[mZ,nA]
   (refine fY [0,1,99] ?_ ?_ ?_;all_goals(first|(simp only[aB,aI,simprocAttr,bl,i64,smT,hmul];done) |(simp only[aI,simprocAttr,bl,i64,smT,hmul];try((repeat' apply And.intro);all_goals rfl)) |skip))
   all_goals(first |done |((repeat' apply And.intro);all_goals(first |trivial |rfl)))
  ·rintro⟨m,hm⟩;simp only[st];have hla:=eC b m;have happ:=pY b m;have hbm0:=hbf m;rw[pG]at hbm0
   by_cases hlt:F+m<N
   ·have gm:=aTs (F+m) t (by omega) ht1 (by omega);generalize hn:F+m=n at*;simp only[i64]at gm;by_cases h0:m=0
    ·simp only[oN h0,oO h0];by_cases hd:n % t=0
     ·have hb:b m=a (n / t):=by rw[hbm0,if_pos hd]
      have hnt:n / t<o+M:=by rw[hoM];exact Nat.div_lt_of_lt_mul (by omega)
      have gc:=tC o M (n / t) a (by omega) hz hnt (ba _ (by omega));rw[← hb]at gc
      rw[hd]at gm
      generalize hbm:b m=bv at*;generalize hqt:n / t=q at*;simp only[i64,aH]at gc
      (repeat(first|apply zO (by decide+kernel)|apply zP (by decide+kernel)|(apply zS;(case h=>constructor<;>decide))|((first|apply cB rfl|apply aS|apply zT rfl (by decide) rfl);(case hs=>(simp(disch:=first|omega|exact kD rfl|exact kX rfl) only[smY,simprocAttr,bl,i64,smT,hmul2,hmn,hqt,Int.sub_zero];exact rfl));first|refine bZ ?_|refine cA ?_|refine zq ?_|(case hg=>assumption))))
      refine⟨⟨m+1,by omega⟩,?_,by simp only;omega⟩;simp only[dW,dX]
      (refine fY [0,1,25] ?_ ?_ ?_;all_goals(first|(simp only[aB,aI,simprocAttr,bl,i64,smT];done) |(simp only[aI,simprocAttr,bl,i64,smT];try((repeat' apply And.intro);all_goals rfl)) |skip))
      all_goals(first |done |(subst h0;(repeat' apply And.intro);all_goals(first |trivial |rfl |(simp only[LV.lit.injEq,Value.int.injEq,true_and];omega) |(have e:aP b 1=[bv]:=happ;rw[e,← jK]))))
     ·have hb:b m=0:=by rw[hbm0,if_neg hd]
      have gc:=fI 0 (by omega);rw[show((0:Int):Rat)=b m from hb.symm]at gc
      generalize hbm:b m=bv at*;generalize hrt:n % t=r at*;simp only[i64,aH]at gc;refine cZ (nd hmul2 hmn) ?_;refine⟨⟨m+1,by omega⟩,?_,by simp only;omega⟩;simp only[dW,dX]
      (refine fY [0,1,17] ?_ ?_ ?_;all_goals(first|(simp only[aB,aI,simprocAttr,bl,i64,smT];done) |(simp only[aI,simprocAttr,bl,i64,smT];try((repeat' apply And.intro);all_goals rfl)) |skip))
      all_goals(first |done |(subst h0;(repeat' apply And.intro);all_goals(first |trivial |rfl |(simp only[LV.lit.injEq,Value.int.injEq,true_and];omega) |(have e:aP b 1=[bv]:=happ;rw[e,← jK]))))
    ·simp only[lY h0,lZ h0];by_cases hd:n % t=0
     ·have hb:b m=a (n / t):=by rw[hbm0,if_pos hd]
      have hnt:n / t<o+M:=by rw[hoM];exact Nat.div_lt_of_lt_mul (by omega)
      have gc:=tC o M (n / t) a (by omega) hz hnt (ba _ (by omega));rw[← hb]at gc
      rw[hd]at gm
      generalize hbm:b m=bv at*;generalize hqt:n / t=q at*;simp only[i64,aH]at gc
      (repeat(first|apply zO (by decide+kernel)|apply zP (by decide+kernel)|(apply zS;(case h=>constructor<;>decide))|((first|apply cB rfl|apply aS|apply zT rfl (by decide) rfl);(case hs=>(simp(disch:=first|omega|exact kD rfl|exact kX rfl) only[smY,simprocAttr,bl,i64,smT,hmul2,hmn,hqt,Int.sub_zero];exact rfl));first|refine bZ ?_|refine cA ?_|refine zq ?_|(case hg=>assumption))))
      refine⟨⟨m+1,by omega⟩,?_,by simp only;omega⟩;simp only[dW,dX]
      (refine fY [0,1,25] ?_ ?_ ?_;all_goals(first|(simp only[aB,aI,simprocAttr,bl,i64,smT];done) |(simp only[aI,simprocAttr,bl,i64,smT];try((repeat' apply And.intro);all_goals rfl)) |skip))
      all_goals(first |done |((repeat' apply And.intro);all_goals(first |trivial |rfl |(simp only[LV.lit.injEq,Value.int.injEq,true_and];omega) |rw[happ,← iI])))
     ·have hb:b m=0:=by rw[hbm0,if_neg hd]
      have gc:=fI 0 (by omega);rw[show((0:Int):Rat)=b m from hb.symm]at gc
      generalize hbm:b m=bv at*;generalize hrt:n % t=r at*;simp only[i64,aH]at gc;refine cZ (nd hmul2 hmn) ?_;refine⟨⟨m+1,by omega⟩,?_,by simp only;omega⟩;simp only[dW,dX]
      (refine fY [0,1,17] ?_ ?_ ?_;all_goals(first|(simp only[aB,aI,simprocAttr,bl,i64,smT];done) |(simp only[aI,simprocAttr,bl,i64,smT];try((repeat' apply And.intro);all_goals rfl)) |skip))
      all_goals(first |done |((repeat' apply And.intro);all_goals(first |trivial |rfl |(simp only[LV.lit.injEq,Value.int.injEq,true_and];omega) |rw[happ,← iI])))
   ·have hmN:N-F=m:=by omega
    rw[hmN]at gR
    by_cases h0:m=0
    ·simp only[oN h0,oO h0];subst h0;rw[aP0]at gR
     refine cZ (nd hmul2 hmn) ?_;exact aKn (nd hmul2 hmn)
    ·simp only[lY h0,lZ h0];refine cZ (nd hmul2 hmn) ?_;exact aKn (nd hmul2 hmn)
end
section
open Go Go.Lg Go.Num
attribute [local irreducible] lrun lwp exThen exBlk keep goodPost sg mg oc mC bq fJ
theorem bGh (b:Nat→Rat) {m n:Nat}(h:m≤n):(qc (aP b n)).take (m*4)=qc (aP b m):=by
 rw[aO8];congr 1;unfold aP;rw[← List.map_take,List.take_range,Nat.min_eq_left h]
theorem aJ1 (c:Nat→Rat) (N p:Nat) (hp:p≤N) (hN:N≤1000) (ba:∀ i,i<N→lq (c i)≤1000):PGd 188 [fJ 0 c N,i64 p] (.tup [fJ 0 c p,i64 0]):=by
 obtain⟨ho,hz,hnz⟩:=gU c N;rw[iX (a:=c) (N:=N) rfl,Int.zero_add];generalize Go.Num.ordN c N=o at*;have hoM:o+(N-o)=N:=by omega
 generalize N-o=M at*;have g1:=kG o M (qc (aP (fun i=>c (o+i)) M)) (by omega) (by omega);have hl:=eC (fun i=>c (o+i)) M;by_cases hpo:p≤o
 ·have g5:=aDd p (by omega);rw[aCh (fun j hj=>hz j (by omega)),Int.zero_add];simp only[i64,bl]at*;refine aA aV Tryz.func188 rfl (by decide) (nt:=45) rfl (rs:=[.cell 4 80,.tmp 5]) rfl (aW rfl) ?_;refine dP ?_;exact lU
 ·rw[oX (f:=o) (by omega) hz,Int.zero_add];have g4:=oY o M (qc (aP (fun i=>c (o+i)) M)) (by omega) (by omega);rw[show(o:Int)+M=((N:Nat):Int)by omega]at g4
  have gR:=mA o (fun i=>c (o+i)) (p-o) (by omega) (by omega) (fun i hi=>ba _ (by omega));obtain⟨x,MR,LR,hR,hLM,hM,hx⟩:=dN o (fun i=>c (o+i)) (p-o);rw[hR]at gR⊢
  clear hR;by_cases hpN:p=N
  ·have hMe:p-o=M:=by omega
   rw[hMe]at gR
   simp only[i64,bl]at*;refine aA aV Tryz.func188 rfl (by decide) (nt:=45) rfl (rs:=[.cell 4 80,.tmp 5]) rfl (aW rfl) ?_;refine dP ?_;exact lU
  ·have hpm:p-o≤M:=by omega
   have htk:=bGh (fun i=>c (o+i)) hpm;have hcn:((p:Int)-(o:Int)).toNat=p-o:=by omega
   have hlq:=eC (fun i=>c (o+i)) (p-o);generalize hq:p-o=q at*;simp only[i64,bl]at g1 g4 gR⊢;refine aA aV Tryz.func188 rfl (by decide) (nt:=45) rfl (rs:=[.cell 4 80,.tmp 5]) rfl (aW rfl) ?_;refine cZ (nd htk hcn) ?_;exact aKn (nd htk hcn)
theorem aMi (q:Rat) (c:Nat→Rat) (p:Nat) (hp:p≤1000) (lqq:lq q≤480) (ba:∀ i,i<p→lq (c i)≤480):PGd 189 [bG q,fJ 0 c p] (.tup [fJ 0 (fun i=>q*c i) p,i64 0]):=by
 obtain⟨ho,hz,hnz⟩:=gU c p
 have hb1:∀ i,i<p→lq (q*c i)≤1000:=fun i hi=>by
  have:=jZ q (c i);have:=ba i hi;omega
 rw[iX (a:=c) rfl,Int.zero_add,oX (a:=fun i=>q*c i) ho (fun j hj=>by simp only[hz j hj];exact Rat.mul_zero q),Int.zero_add];generalize Go.Num.ordN c p=o at*;have hoM:o+(p-o)=p:=by omega
 generalize p-o=M at*;have g1:=kG o M (qc (aP (fun i=>c (o+i)) M)) (by omega) (by omega);have hl:=eC (fun i=>c (o+i)) M;have gR:=mA o (fun i=>q*c (o+i)) M (by omega) (by omega) (fun i hi=>hb1 _ (by omega));obtain⟨x,MR,LR,hR,hLM,hM,hx⟩:=dN o (fun i=>q*c (o+i)) M;rw[hR]at gR⊢
 clear hR;obtain⟨b,hbd⟩:∃ b,b=fun i=>q*c (o+i):=⟨_,rfl⟩
 rw[← hbd]at gR
 have hbf:∀ i,b i=q*c (o+i):=fun i=>by rw[hbd]
 clear hbd;simp only[i64,bl,aH]at g1 gR⊢;refine aA aV Tryz.func189 rfl (by decide) (nt:=38) rfl (rs:=[.cell 4 80,.tmp 5]) rfl (aW rfl) ?_;refine dP ?_;refine aG (α:={m:Nat // m≤M}) (fun m=>st 38 (lk [(2,.ptr 0 0),(3,.ptr 1 0),(4,.ptr 2 0),(7,nV 3 m.1),(8,i64 m.1)]) (cG ((0,⟨47,[sg (q).num,mg (q).num,sg ((q).den:Int),mg ((q).den:Int)],false⟩)::(1,⟨80,[i64 o,.sl M (qc (aP (fun i=>c (o+i)) M))],false⟩)::(2,⟨80,[i64 0,nilL],false⟩)::nB 3 m.1 (qc (aP b m.1)))) 4) (fun m=>M-m.1) ⟨0,by omega⟩ ?_ ?_
 ·simp only[mZ,nA];exact zL0 [0,1,2,99]
 ·rintro⟨m,hm⟩;simp only[st];have hla:=eC b m;have happ:=pY b m;by_cases hlt:m<M
  ·have e1:(aP (fun i=>c (o+i)) M).getD m 0=c (o+m):=sT hlt;have b1:=ba (o+m) (by omega);have r1:=eB q (c (o+m)) (by omega) (by omega);rw[← hbf m]at r1
   generalize c (o+m)=ci at*;generalize hbm:b m=bv at*;simp only[aH]at r1;by_cases h0:m=0
   ·simp only[oN h0,oO h0];refine cZ e1 ?_;refine⟨⟨m+1,by omega⟩,?_,by simp only;omega⟩;simp only[dW,dX]
    (refine fY [0,1,2,18] ?_ ?_ ?_;all_goals(first|(simp only[aB,aI,simprocAttr,bl,i64,smT];done) |(simp only[aI,simprocAttr,bl,i64,smT];try((repeat' apply And.intro);all_goals rfl)) |skip))
    all_goals(first |done |(subst h0;(repeat' apply And.intro);all_goals(first |trivial |rfl |(simp only[LV.lit.injEq,Value.int.injEq,true_and];omega) |(have e:aP b 1=[bv]:=happ;rw[e,← jK]))))
   ·simp only[lY h0,lZ h0];refine cZ e1 ?_;refine⟨⟨m+1,by omega⟩,?_,by simp only;omega⟩;simp only[dW,dX]
    (refine fY [0,1,2,18] ?_ ?_ ?_;all_goals(first|(simp only[aB,aI,simprocAttr,bl,i64,smT];done) |(simp only[aI,simprocAttr,bl,i64,smT];try((repeat' apply And.intro);all_goals rfl)) |skip))
    all_goals(first |done |((repeat' apply And.intro);all_goals(first |trivial |rfl |(simp only[LV.lit.injEq,Value.int.injEq,true_and];omega) |rw[happ,← iI])))
  ·obtain rfl:m=M:=by omega
   by_cases h0:m=0
   ·simp only[oN h0,oO h0];subst h0;rw[aP0]at gR
    refine dP ?_;exact lU
   ·simp only[lY h0,lZ h0];refine dP ?_;exact lU
theorem aTt (a c:Nat→Rat) (p:Nat) (hp:p≤1000) (ba:∀ i,i<p→lq (a i)≤450) (bc:∀ i,i<p→lq (c i)≤450) (bs:∀ i,i<p→lq (a i+c i)≤1000):PGd 190 [fJ 0 a p,fJ 0 c p] (.tup [fJ 0 (fun i=>a i+c i) p,i64 0]):=by
 obtain⟨ho,hz,hnz⟩:=gU a p;obtain⟨ho2,hz2,hnz2⟩:=gU c p;rw[iX (a:=a) rfl,iX (a:=c) rfl,Int.zero_add,Int.zero_add];generalize Go.Num.ordN a p=o at*;generalize Go.Num.ordN c p=w at*;have hf1:min (min o w) p≤p:=by omega
 rw[oX (a:=fun i=>a i+c i) hf1 (fun j hj=>by simp only[hz j (by omega),hz2 j (by omega)];exact Rat.add_zero 0),Int.zero_add];have hoM:o+(p-o)=p:=by omega
 have hwM:w+(p-w)=p:=by omega
 have hmin:(if(p:Int)<(if(w:Int)<(o:Int)then(w:Int)else(o:Int))then(p:Int)else(if(w:Int)<(o:Int)then(w:Int)else(o:Int)))=((min (min o w) p:Nat):Int):=by
  by_cases h1:(w:Int)<o
  ·rw[if_pos h1];split <;>omega
  ·rw[if_neg h1];split <;>omega
 have hfo:min (min o w) p≤o:=by omega
 have hfw:min (min o w) p≤w:=by omega
 generalize min (min o w) p=f at*;generalize p-o=M at*;generalize p-w=K at*;have g1:=aTr o w M K (qc (aP (fun i=>a (o+i)) M)) (qc (aP (fun i=>c (w+i)) K)) (by omega) (by omega) (by omega) (by omega) (lE sQ sR _);have g2:=oY o M (qc (aP (fun i=>a (o+i)) M)) (by omega) (by omega);have g3:=oY w K (qc (aP (fun i=>c (w+i)) K)) (by omega) (by omega);rw[show(o:Int)+M=((p:Nat):Int)by omega]at g2
 rw[show(w:Int)+K=((p:Nat):Int)by omega]at g3
 have hmp:(if(p:Int)<(p:Int)then(p:Int)else(p:Int))=(p:Int):=by split <;>rfl
 have hl:=eC (fun i=>a (o+i)) M;have hl':=eC (fun i=>c (w+i)) K;have gR:=mA f (fun i=>a (f+i)+c (f+i)) (p-f) (by omega) (by omega) (fun i hi=>bs _ (by omega));obtain⟨x,MR,LR,hR,hLM,hM,hx⟩:=dN f (fun i=>a (f+i)+c (f+i)) (p-f);rw[hR]at gR⊢
 clear hR;obtain⟨b,hbd⟩:∃ b,b=fun i=>a (f+i)+c (f+i):=⟨_,rfl⟩
 rw[← hbd]at gR
 have hbf:∀ i,b i=a (f+i)+c (f+i):=fun i=>by rw[hbd]
 clear hbd;simp only[i64,bl]at g1 g2 g3 gR⊢;refine aA aV Tryz.func190 rfl (by decide) (nt:=50) rfl (rs:=[.cell 4 80,.tmp 5]) rfl (aW rfl) ?_;refine cZ (nd hmin hmp) ?_;refine aG (α:={m:Nat // f+m≤p}) (fun m=>st 50 (lk [(2,.ptr 0 0),(3,.ptr 1 0),(4,.ptr 2 0),(7,i64 p),(8,i64 f),(9,nV 3 m.1),(10,i64 ((f+m.1:Nat):Int))]) (cG ((0,⟨80,[i64 o,.sl M (qc (aP (fun i=>a (o+i)) M))],false⟩)::(1,⟨80,[i64 w,.sl K (qc (aP (fun i=>c (w+i)) K))],false⟩)::(2,⟨80,[i64 0,nilL],false⟩)::nB 3 m.1 (qc (aP b m.1)))) 4) (fun m=>p-(f+m.1)) ⟨0,by omega⟩ ?_ ?_
 ·simp only[mZ,nA];exact zL0 [0,1,2,99]
 ·rintro⟨m,hm⟩;simp only[st];have hla:=eC b m;have happ:=pY b m;by_cases hlt:f+m<p
  ·have b1:=ba (f+m) hlt;have b2:=bc (f+m) hlt;have r1:=tC o M (f+m) a (by omega) hz (by omega) (by omega);have r2:=tC w K (f+m) c (by omega) hz2 (by omega) (by omega);have r3:=lC (a (f+m)) (c (f+m)) (by omega) (by omega);rw[← hbf m]at r3
   generalize hn:f+m=n at*;generalize a n=av at*;generalize c n=cv at*;generalize hbm:b m=bv at*;simp only[aH,i64]at r1 r2 r3;by_cases h0:m=0
   ·simp only[oN h0,oO h0];refine dP ?_;refine⟨⟨m+1,by omega⟩,?_,by simp only;omega⟩;simp only[dW,dX]
    (refine fY [0,1,2,16] ?_ ?_ ?_;all_goals(first|(simp only[aB,aI,simprocAttr,bl,i64,smT];done) |(simp only[aI,simprocAttr,bl,i64,smT];try((repeat' apply And.intro);all_goals rfl)) |skip))
    all_goals(first |done |(subst h0;(repeat' apply And.intro);all_goals(first |trivial |rfl |(simp only[LV.lit.injEq,Value.int.injEq,true_and];omega) |(have e:aP b 1=[bv]:=happ;rw[e,← jK]))))
   ·simp only[lY h0,lZ h0];refine dP ?_;refine⟨⟨m+1,by omega⟩,?_,by simp only;omega⟩;simp only[dW,dX]
    (refine fY [0,1,2,16] ?_ ?_ ?_;all_goals(first|(simp only[aB,aI,simprocAttr,bl,i64,smT];done) |(simp only[aI,simprocAttr,bl,i64,smT];try((repeat' apply And.intro);all_goals rfl)) |skip))
    all_goals(first |done |((repeat' apply And.intro);all_goals(first |trivial |rfl |(simp only[LV.lit.injEq,Value.int.injEq,true_and];omega) |rw[happ,← iI])))
  ·have hmN:p-f=m:=by omega
   rw[hmN]at gR
   by_cases h0:m=0
   ·simp only[oN h0,oO h0];subst h0;rw[aP0]at gR
    refine dP ?_;exact lU
   ·simp only[lY h0,lZ h0];refine dP ?_;exact lU
end
section
open Go Go.Lg Go.Num
attribute [local irreducible] lrun lwp exThen exBlk keep goodPost sg mg oc mC bq fJ
theorem aG7 (a:Nat→Rat) (k p t:Nat) (b:Bool) (hp:p≤1000) (ht1:1≤t) (ht:t≤1000) (ba:∀ i,i<p→lq (a i)≤410) (hk:k≤40) (hkb:¬(k=2∧b=true)):PGd 98 [fJ 0 a p,i64 k,i64 t,bl b,i64 p] (fJ 0 (pG a t) p):=by
 have hpt:p≤t*p:=Nat.le_mul_of_pos_left p (by omega);have g1:=aAu a p t hp ht1 ht (fun i hi=>Nat.le_trans (ba i hi) (by omega));have g2:=aJ1 (pG a t) (min (t*p) 1000) p (by omega) (by omega) (fun i hi=>vN (fun i hi=>Nat.le_trans (ba i hi) (by omega)) (by omega) (by omega:i<t*p));obtain⟨x1,M1,L1,hR1,hL1,hM1,hx1⟩:=dN 0 a p;rw[hR1]at g1⊢
 clear hR1;obtain⟨x2,M2,L2,hR2,hL2,hM2,hx2⟩:=dN 0 (pG a t) (min (t*p) 1000);rw[hR2]at g1 g2
 clear hR2;obtain⟨x3,M3,L3,hR3,hL3,hM3,hx3⟩:=dN 0 (pG a t) p;rw[hR3]at g2⊢
 clear hR3;simp only[i64,bl]at*;by_cases h2:k=2
 ·obtain rfl:b=false:=by
   cases b with
   |false=>rfl
   |true=>exact absurd ⟨h2,rfl⟩ hkb
  refine aA aV Tryz.func98 rfl (by decide) (nt:=45) rfl (rs:=[.cell 10 80]) rfl (aW rfl) ?_;refine dP ?_;exact lU
 ·refine aA aV Tryz.func98 rfl (by decide) (nt:=45) rfl (rs:=[.cell 10 80]) rfl (aW rfl) ?_;refine dP ?_;exact lU
theorem aIb (a:Nat→Rat) (p t:Nat) (hp:p≤1000) (ht1:1≤t) (ht:t≤1000) (ba:∀ i,i<p→lq (a i)≤100):PGd 98 [fJ 0 a p,i64 2,i64 t,bl true,i64 p] (fJ 0 (dfT a t) p):=by
 have hpt:p≤t*p:=Nat.le_mul_of_pos_left p (by omega);have bu:∀ i,i<p→lq (pG a t i)≤100:=fun i hi=>vN ba (by omega) (by omega:i<t*p)
 have lt':=aF7 (z:= -(t:Int)) (by omega)
 have bm:∀ i,i<p→lq (((-(t:Int):Int):Rat)*pG a t i)≤103:=fun i hi=>by
  have:=jZ ((-(t:Int):Int):Rat) (pG a t i);have:=bu i hi;omega
 have g1:=aAu a p t hp ht1 ht (fun i hi=>Nat.le_trans (ba i hi) (by omega));have g2:=aJ1 (pG a t) (min (t*p) 1000) p (by omega) (by omega) (fun i hi=>vN (fun i hi=>Nat.le_trans (ba i hi) (by omega)) (by omega) (by omega:i<t*p));have g0:=fI (-(t:Int)) (by omega);have g3:=aMi ((-(t:Int):Int):Rat) (pG a t) p hp (by omega) (fun i hi=>Nat.le_trans (bu i hi) (by omega))
 have g4:=aTt a (fun i=>((-(t:Int):Int):Rat)*pG a t i) p hp (fun i hi=>Nat.le_trans (ba i hi) (by omega)) (fun i hi=>Nat.le_trans (bm i hi) (by omega)) (fun i hi=>by
  have h1:=bDi (a i) (((-(t:Int):Int):Rat)*pG a t i);have h2:=ba i hi;have h3:=bm i hi
  omega)
 rw[show(fun i=>a i+((-(t:Int):Int):Rat)*pG a t i)=dfT a t from funext fun i=>by
  unfold dfT
  rw[Rat.intCast_neg,Rat.neg_mul,Rat.sub_eq_add_neg]]at g4
 rw[show -(t:Int)=0-(t:Int)by omega]at g0
 generalize hc:(fun i=>((-(t:Int):Int):Rat)*pG a t i)=c at*;generalize hq:((-(t:Int):Int):Rat)=q at*;rw[show((0-(t:Int):Int):Rat)=q by rw[← hq];congr 1;omega]at g0
 clear hc hq bm lt' bu;obtain⟨x1,M1,L1,hR1,hL1,hM1,hx1⟩:=dN 0 a p;rw[hR1]at g1 g4⊢
 clear hR1;obtain⟨x2,M2,L2,hR2,hL2,hM2,hx2⟩:=dN 0 (pG a t) (min (t*p) 1000);rw[hR2]at g1 g2
 clear hR2;obtain⟨x3,M3,L3,hR3,hL3,hM3,hx3⟩:=dN 0 (pG a t) p;rw[hR3]at g2 g3
 clear hR3;obtain⟨x4,M4,L4,hR4,hL4,hM4,hx4⟩:=dN 0 c p;rw[hR4]at g3 g4
 clear hR4;obtain⟨x5,M5,L5,hR5,hL5,hM5,hx5⟩:=dN 0 (dfT a t) p;rw[hR5]at g4⊢
 clear hR5;simp only[i64,bl,aH]at*;refine aA aV Tryz.func98 rfl (by decide) (nt:=45) rfl (rs:=[.cell 10 80]) rfl (aW rfl) ?_;refine dP ?_;exact lU
end
section
open Go Go.Lg Go.Num
def cvL (l j:Nat):LV:=if l=0 then nilL else .own (j+2) 0 l 4
def cvI (l i j:Nat):LV:=if j<i then .own (j+2) 0 (l+1) 4 else cvL l j
def cI (n l i:Nat):List LV:=(List.range n).map (cvI l i)
def qP (cf:Nat→Nat→Rat) (l j:Nat):List Rat:=(List.range l).map fun l'=>cf l' j
def gQ (cf:Nat→Nat→Rat) (l i j:Nat):Blk:=⟨47,qc (qP cf (if j<i then l+1 else l) j),false⟩
def eH (n l i:Nat):Nat:=if l=0 then i else n
theorem bWg (n l i:Nat):(cI n l i).length=n:=by simp[cI]
theorem bGi (l j:Nat):cvL (l+1) j= .own (j+2) 0 (l+1) 4:=if_neg (by omega)
theorem aG8 (j:Nat):cvL 0 j=nilL:=rfl
theorem bL9 (n l:Nat):cI n l n=cI n (l+1) 0:=by
 unfold cI;refine List.map_congr_left (fun j hj=> ?_);unfold cvI;rw[if_pos (List.mem_range.1 hj),if_neg (by omega),bGi]
theorem bGj (n:Nat):cI n 0 0=List.replicate n nilL:=by
 unfold cI
 have:cvI 0 0=fun _=>nilL:=by
  funext j
  unfold cvI;rw[if_neg (by omega)];rfl
 rw[this,List.map_const',List.length_range]
theorem bWh {n l i:Nat}(h:i<n):((cI n l i).drop i).head? =some (cvL l i):=by
 have:cvI l i i=cvL l i:=by unfold cvI;rw[if_neg (by omega)]
 simp[cI,h,this]
theorem aQa (cf:Nat→Nat→Rat) (l j:Nat):(qP cf l j).length=l:=by simp[qP]
theorem bAd (cf:Nat→Nat→Rat) (l j:Nat):qP cf (l+1) j=qP cf l j++[cf l j]:=by simp[qP,List.range_succ]
theorem xL {α:Type}{n i:Nat}(f:Nat→α) (x:α) (h:i<n):((List.range n).map f).set i x=(List.range n).map fun j=>if j=i then x else f j:=by
 refine List.ext_getElem (by simp) (fun j h1 h2=> ?_);rw[List.getElem_set];simp only[List.getElem_map,List.getElem_range];by_cases e:i=j
 ·rw[if_pos e,if_pos e.symm]
 ·rw[if_neg e,if_neg (fun x=>e x.symm)]
theorem aMj {l i j:Nat}(h:j<i):cvI l i j= .own (j+2) 0 (l+1) 4:=if_pos h
theorem aTu {l i j:Nat}(h:¬j<i):cvI l i j=cvL l j:=if_neg h
theorem rT {nb b off n sz:Nat}{ρ:Nat→Nat}(h:b<nb):renL nb ρ (.own b off n sz)=some (.own (ρ b) off n sz):=by
 rw[renL,if_pos h]
theorem aAv (ρ:List Nat) (τ:Nat→Nat) (j:Nat):kL ρ 2 τ (j+2)=τ j:=by
 rw[lQ,if_pos (by omega),Nat.add_sub_cancel]
theorem wW {n l i:Nat}(h:l≠0):eH n l i=n:=if_neg h
theorem bWi {n l i new:Nat}{ρ:List Nat}{τ:Nat→Nat}(h:i<n) (h1:∀ j,j<eH n l (i+1)→j≠i→τ j=j+2) (h2:τ i=new):renLs (eH n l (i+1)+2) (kL ρ 2 τ) (cI n l (i+1))=some ((cI n l i).set i (.own new 0 (l+1) 4)):=by
 unfold cI;rw[xL _ _ h]
 have hf:∀ j,j<n→(l=0→j<i+1)→j<eH n l (i+1):=fun j hj h0=>by
  unfold eH;split
  ·exact h0 (by assumption)
  ·exact hj
 refine rS (fun j hj=> ?_);have hj:=List.mem_range.1 hj;by_cases e:j=i
 ·subst e;have hlt:=hf j hj (fun _=>by omega);rw[aMj (by omega),rT (by omega),aAv,h2,if_pos rfl]
 ·rw[if_neg e];by_cases c:j<i
  ·have hlt:=hf j hj (fun _=>by omega);rw[aMj (by omega),aMj c,rT (by omega),aAv,h1 j hlt e]
  ·rw[aTu (by omega),aTu c];by_cases hl:l=0
   ·subst hl;rw[aG8];rfl
   ·have hlt:=hf j hj (fun h=>absurd h hl);have e2:cvL l j= .own (j+2) 0 l 4:=if_neg hl;rw[e2,rT (by omega),aAv,h1 j hlt e]
attribute [local irreducible] lrun lwp exThen exBlk keep goodPost sg mg oc op ec qP cI fJ
end
section
open Go Go.Lg Go.Num
def nW (b m:Nat):LV:=if m=0 then nilL else .own b 0 m 2
def nWB (b m:Nat) (cs:List LV):List (Nat×Blk):=if m=0 then[]else[(b,⟨80,cs,false⟩)]
theorem nW0 (b:Nat):nW b 0=nilL:=rfl
theorem nWs (b m:Nat):nW b (m+1)= .own b 0 (m+1) 2:=rfl
theorem nWn {b m:Nat}(h:¬m=0):nW b m= .own b 0 m 2:=if_neg h
theorem cLr (b m:Nat) (cs:List LV):nWB b (m+1) cs=[(b,⟨80,cs,false⟩)]:=rfl
def sC (S:Nat→LV×LV) (j:Nat):List LV:=(List.range j).flatMap fun j=>[(S j).1,(S j).2]
theorem tD (S:Nat→LV×LV) (j:Nat):(sC S j).length=j*2:=by
 induction j with
 |zero=>rfl
 |succ j ih=>
  unfold sC at*;rw[List.range_succ,List.flatMap_append,List.length_append,ih];simp;omega
theorem aAw (S:Nat→LV×LV) (j:Nat):sC S (j+1)=sC S j++[(S j).1,(S j).2]:=by
 unfold sC;rw[List.range_succ,List.flatMap_append];simp
theorem aAx {S:Nat→LV×LV}(hS:∀ j,fK (S j).1=true∧fK (S j).2=true) (n:Nat):∀ c∈sC S n,fK c=true:=by
 intro c hc;simp only[sC,List.mem_flatMap]at hc;obtain⟨j,_,h⟩:=hc;simp only[List.mem_cons,List.not_mem_nil,or_false]at h;rcases h with rfl |rfl
 ·exact(hS j).1
 ·exact(hS j).2
theorem vO {S:Nat→LV×LV}(hS:∀ j,∃ a nn cs,(S j).1=i64 a∧(S j).2= .sl nn cs) (n:Nat):∀ c∈sC S n,aB c=true:=by
 intro c hc;simp only[sC,List.mem_flatMap]at hc;obtain⟨j,_,h⟩:=hc;obtain⟨a,nn,cs,e1,e2⟩:=hS j;simp only[List.mem_cons,List.not_mem_nil,or_false]at h;rcases h with rfl |rfl
 ·rw[e1];rfl
 ·rw[e2];rfl
end
end Go.Proofs.YtaidcaemdkncgaaGreatDoor
