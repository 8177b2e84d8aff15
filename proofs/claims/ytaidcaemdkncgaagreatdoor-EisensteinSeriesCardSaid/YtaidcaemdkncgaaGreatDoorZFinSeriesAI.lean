/- Contracts of functions of the program, and what proves them (texts: EZ EL EAk EC6 BC11e EQ0 EAq). -/
import Derived.KernelRfl
import Derived.Test.YtaidcaemdkncgaaGreatDoorZFinSeriesAB
import Derived.Test.YtaidcaemdkncgaaGreatDoorZFinSeriesAC
import Derived.Test.YtaidcaemdkncgaaGreatDoorZFinSeriesAD
import Derived.Test.YtaidcaemdkncgaaGreatDoorZFinSeriesAF
import Derived.Test.YtaidcaemdkncgaaGreatDoorZFinSeriesAG
import Derived.Test.YtaidcaemdkncgaaGreatDoorZFinSeriesAH
set_option linter.all false
set_option maxRecDepth 100000
set_option maxHeartbeats 8000000
namespace Go.Proofs.YtaidcaemdkncgaaGreatDoor
section
open Go Go.Lg Go.Num
theorem bWr:qS.all bEc=true:=by kernel_rfl
theorem bWs:∀ m∈qS,eZ m=true:=by
 have e:qS=[1,2,3,4,5,6,7,8,9,10,11,12,13,14,15,16,18,20,21,22,24,26,28,30,36,42]:=rfl
 rw[e]
 simp only[List.forall_mem_cons]
 exact⟨cLm,cLn,cLo,cLp,cLq,cLr,cLs,cLt,cLu,cGj,cGk,cGl,cGm,cGn,cGo,cGp,cGq,cGr,cGs,cGt,cGu,cGv,cGw,cGx,cGy,cGz,by simp⟩
theorem aDa {m:Nat}(hm:m∈qS):ZtD m ((dF m).length-1):=by
 obtain⟨m1,m2⟩:=bDf hm
 have hc:=bJn m hm
 rw[Bool.and_eq_true,Nat.ble_eq,Nat.ble_eq]at hc
 have hz:=fun e (he:e<m)=>cGe hm (List.all_eq_true.1 (List.all_eq_true.1 bWm m hm) e (List.mem_range.2 he))
 exact⟨m1,m2,by omega,by omega,fun e he=>aOn hm he (cGh (bWs m hm)) (cGi (List.all_eq_true.1 bWr m hm)),fun e he=>aRv hm he,fun e he=>(hz e he).1,fun e he=>(hz e he).2⟩
end
section
open Go Go.Lg Go.Num
def mL:List Nat:=[1,2,3,4,5,6,7,8,9,10,11,12,13,14,15,16,18,20,21,22,23,24,26,28,29,30,33,35,36,39,40,42,44,45,46,48,52,55,56,58,60,63,65,66,69,70,72,77,78,80,84,87,88,90,91,92,99,104,105,110,112,115,116,117,120,126,130,132,138,140,143,144,145,154,156,161,165,168,174,176,180,182,184,195,198,203,207,208,210,220,230,231,232,234,240,252,253,260,261,273,276,280,286,290,299,308,319,322,330,336,345,348,360,364,368,377,390,396,406,414,420,435,440,460,462,464,468,483,506,520,522,546,572,580,598,609,638,644,667,690,754,780,812,828,840,870,920,966,1044,1092,1160,1196,1218,1334,1508]
theorem bWt:(oL.all fun a=>oL.all fun b=>mL.contains (Nat.lcm a b))=true:=by decide+kernel
noncomputable def wI (m:Nat):Bool:=match evo aXk 94 [.lit (.int .i64 (.ofNat m))]with
 |some (.lit (.int .i64 (.ofNat c)))=>(qS.contains m && Nat.beq (c+1) (dF m).length) ||(Nat.ble 13 c && Nat.ble c 4000 && (match evo aXk 48 [.lit (.int .i64 (.ofNat m))]with
  |some (.tup [.agg [.sl 0 []],.lit (.int .i64 (.ofNat e))])=>Nat.ble 1 e && Nat.ble e 100
  |_=>false))
 |_=>false
theorem cLv:((mL.drop 0).take 20).all wI=true:=by kernel_rfl
theorem cLw:((mL.drop 20).take 20).all wI=true:=by kernel_rfl
theorem cLx:((mL.drop 40).take 20).all wI=true:=by kernel_rfl
theorem cLy:((mL.drop 60).take 20).all wI=true:=by kernel_rfl
theorem cLz:((mL.drop 80).take 20).all wI=true:=by kernel_rfl
theorem cL0:((mL.drop 100).take 20).all wI=true:=by kernel_rfl
theorem cL1:((mL.drop 120).take 20).all wI=true:=by kernel_rfl
theorem cL2:((mL.drop 140).take 20).all wI=true:=by kernel_rfl
theorem bWu:mL.all wI=true:=by
 have e:mL=((mL.drop 0).take 20)++((mL.drop 20).take 20)++((mL.drop 40).take 20)++((mL.drop 60).take 20)++((mL.drop 80).take 20)++((mL.drop 100).take 20)++((mL.drop 120).take 20)++((mL.drop 140).take 20):=rfl
 rw[e]
 simp only[List.all_append,cLv,cLw,cLx,cLy,cLz,cL0,cL1,cL2,Bool.and_self]
theorem bJq {a b:Nat}(ha:a∈oL) (hb:b∈oL):(Nat.lcm a b∈qS∧PureGood Tryz.prog 94 [i64 (Nat.lcm a b)] (i64 (((dF (Nat.lcm a b)).length-1:Nat):Int)))∨((∃ c:Nat,13≤c∧c≤4000∧PureGood Tryz.prog 94 [i64 (Nat.lcm a b)] (i64 c))∧∃ e:Nat,(1≤e∧e≤100)∧PureGood Tryz.prog 48 [i64 (Nat.lcm a b)] (.tup [.agg [.sl 0 []],i64 e])):=by
 have h1:=List.all_eq_true.1 (List.all_eq_true.1 bWt a ha) b hb
 have h:=List.all_eq_true.1 bWu _ (List.contains_iff_mem.1 h1)
 generalize Nat.lcm a b=m at*
 unfold wI at h
 split at h
 ·rename_i c hc
  have g1:=dE vM hc
  simp only[Bool.or_eq_true,Bool.and_eq_true,Nat.ble_eq,Nat.beq_eq]at h
  rcases h with⟨h2,h3⟩ |⟨⟨h2,h3⟩,h4⟩
  ·refine .inl ⟨List.contains_iff_mem.1 h2,?_⟩
   have e:(dF m).length-1=c:=by omega
   rw[e]
   exact g1
  ·refine .inr ⟨⟨c,h2,h3,g1⟩,?_⟩
   split at h4
   ·rename_i e he
    simp only[Bool.and_eq_true,Nat.ble_eq]at h4
    exact⟨e,h4,dE vM he⟩
   ·cases h4
 ·cases h
end
section
open Go Go.Lg Go.Num
theorem aX0 {n:Nat}{v:List Nat}(n1:1≤n) (n2:n≤60) (hb:ChB n (nI v)) (he:jU n (nI v)=0) (hl:v.length≤10) (h:bZ n v=true):∃ c b,SeD n (nI v) (ordN n v) c b (ixB (ordN n v) n v):=by
 unfold bZ at h
 simp only[Bool.and_eq_true,cR]at h
 obtain⟨⟨⟨hor,hco⟩,hm⟩,hoL,hv⟩:=h
 obtain⟨⟨o1,o2⟩,go,gro⟩:=bCm hor
 have hv:=List.all_eq_true.1 hv
 unfold bOh at hco
 split at hco
 ·rename_i c e hc
  rw[Bool.and_eq_true,Bool.and_eq_true,Bool.and_eq_true,Nat.beq_eq,Nat.ble_eq]at hco
  obtain⟨⟨⟨rfl,c2⟩,hci⟩,hpr⟩:=hco
  have hpr:c=n→PureGood Tryz.prog 57 [.agg [i64 n,.sl (nI v).length (ec (nI v))]] (.tup [.agg [i64 n,.sl (nI v).length (ec (nI v))],i64 0]):=by
   intro ec'
   subst ec'
   rw[Nat.beq_refl,Bool.not_true,Bool.false_or]at hpr
   have:=dE zA (bV0 hpr)
   rwa [aA1]at this
  have g1:=dE zA hc
  have g2:=dE zA (bVz hci)
  rw[aA1]at g1 g2
  unfold bOg at hm
  split at hm
  ·rename_i b e z a d hev hrv
   simp only[Bool.and_eq_true,Nat.beq_eq]at hm
   obtain⟨⟨rfl,hz⟩,hb2⟩:=hm
   have hz:z=false:=by cases z <;>simp_all
   subst hz
   have g3:=dE zA hev
   have g4:=yZ hrv
   rw[aA1]at g3 g4
   have g5:=uA n (nI v) hb.m1 hb.ln
   have g6:=wC n (nI v) hb.m1 hb.ln
   rw[he]at g5 g6
   refine⟨c,b,⟨n1,n2,by rw[dW];exact hl,o1,o2,c2,List.contains_iff_mem.1 hoL,hpr,g5,g6,go,gro,g1,g2,g3,?_,fun j hj hn=> ?_,fun j i hj hi=> ?_⟩⟩
   ·cases b with
    |true=>
     rw[cond_true,Bool.and_eq_true,Nat.beq_eq,Nat.beq_eq]at hb2
     obtain⟨rfl,rfl⟩:=hb2
     exact g4
    |false=>
     rw[cond_false,Bool.and_eq_true,Nat.beq_eq,Nat.beq_eq]at hb2
     obtain⟨rfl,rfl⟩:=hb2
     exact g4
   ·have h1:=hv j (List.mem_range.2 hj)
    rw[Bool.and_eq_true]at h1
    exact(bOf h1.1).1 hn
   ·have h1:=hv j (List.mem_range.2 hj)
    rw[Bool.and_eq_true]at h1
    exact⟨((bOf h1.1).2 i hi).1,bV1 h1.1 h1.2 i hi⟩
  ·cases hm
 ·cases hco
end
section
open Go Go.Lg Go.Num
def unL (o i:Nat):List Rat:=(List.replicate o 0).set i 1
theorem pJ (o i:Nat):(unL o i).length=o:=by simp[unL]
theorem aUq {o i j:Nat}(hj:j<o):(unL o i).getD j 0=if j=i then 1 else 0:=by
 unfold unL
 by_cases e:i=j
 ·subst e
  rw[if_pos rfl]
  simp[List.getD,hj]
 ·rw[if_neg (fun x=>e x.symm)]
  simp[List.getD,List.getElem?_set,e,List.getElem?_replicate,hj]
theorem aOo {ix:Nat→Option Nat}{k f o A i:Nat}(h:ix A=some i):vL ix k f o (A+1)=pT (vL ix k f o A) (uL (sR k f A) (unL o i)):=by
 have hl:(vL ix k f o A).length=(uL (sR k f A) (unL o i)).length:=by rw[iK,uM,pJ]
 refine zG (by rw[zF hl,iK,iK]) (fun j hj=> ?_)
 rw[iK]at hj
 rw[fO hl,aKb hj,aKb hj,oF,aUq hj]
 by_cases e:j=i
 ·subst e
  rw[if_pos rfl,Rat.mul_one,aT2 h]
 ·rw[if_neg e,Rat.mul_zero,Rat.add_zero,uK (fun x=>e (by rw[h]at x;injection x with x;exact x.symm))]
theorem aGq (a:List Rat) (d j:Nat):(a++List.replicate d 0).getD j 0=a.getD j 0:=by
 rcases Nat.lt_or_ge j a.length with h |h
 ·simp[List.getD,List.getElem?_append_left h]
 ·simp[List.getD,List.getElem?_append_right h,List.getElem?_replicate,List.getElem?_eq_none h]
  split <;>rfl
theorem bEd {o i:Nat}(hi:i<o):bQ (unL o i)=bQ (ov (unO i)):=by
 have:unL o i=ov (unO i)++List.replicate (o-1-i) 0:=by
  have hl:(ov (unO i)).length=i+1:=by rw[aA9,lE]
  refine zG (by rw[List.length_append,hl,List.length_replicate,pJ];omega) (fun j hj=> ?_)
  rw[pJ]at hj
  rw[aUq hj,aGq,aKd,mD,aKf]
  split <;>rfl
 rw[this,vN]
theorem aOp {m i j:Nat}(hm:m∈qS) (hi:i<m):(eU (rz (dF m)) (m+1-(dF m).length) (unL m i)).getD j 0=(((zI m i).getD j 0:Int):Rat):=by
 obtain⟨c1,c2,c3,c4⟩:=wE hm
 have h:=vO (g:=rz (dF m)) (by rw[bX];omega) (unL m i)
 rw[bEd hi,aRc hm,pJ,bX]at h
 rw[← jC,← h,mD]
theorem aIk {ix:Nat→Option Nat}{k f m n:Nat}(hm:m∈qS) (hix:∀ A j,A<f→ix A=some j→j<m) {j:Nat}(hj:j<n):∀ A,A≤f→(eU (rz (dF m)) (m+1-(dF m).length) (vL ix k f m A)).getD j 0*Rat.divInt (-1) (2*(k:Int))=(wG ix k f m m n A).getD j 0
 |0,_=>by
  have e:List.replicate m (0:Rat)=uL 0 (List.replicate m 0):=by simp[uL]
  rw[aNu,e,uN,oF,Rat.zero_mul,Rat.zero_mul]
  simp[wG,List.getD,hj]
 |A+1,hA=>by
  have ih:=aIk (k:=k) (f:=f) hm hix hj A (by omega)
  obtain⟨m1,m2⟩:=bDf hm
  unfold wG
  cases hi:ix A with
  |none=>
   rw[aNv hi]
   exact ih
  |some i=>
   have hil:=hix A i (by omega) hi
   simp only
   rw[aOo hi,aFo _ _ _ _ (by rw[iK,uM,pJ]),uN,fO (by rw[jW,iK,uM,jW,pJ]),oF,aOp hm hil,Rat.add_mul,ih,fO (by rw[pH,iW]),qO hj,Nat.div_self (by omega),Nat.mul_one]
   unfold trN
   congr 1
   grind
theorem bEe {ix:Nat→Option Nat}{k f m n:Nat}(hm:m∈qS) (hix:∀ A j,A<f→ix A=some j→j<m) {j:Nat}(hj:j<n):(oQ (rz (dF m)) (bQ (vL ix k f m f))).getD j 0*Rat.divInt (-1) (2*(k:Int))=(wG ix k f m m n f).getD j 0:=by
 obtain⟨c1,c2,c3,c4⟩:=wE hm
 rw[vO (by rw[bX];omega),jC,iK,bX]
 exact aIk hm hix hj f (Nat.le_refl _)
theorem bEf {k:Nat}(k1:1≤k) (q:Rat):q*Rat.divInt (-1) (2*(k:Int))=q / (((-2*(k:Int):Int)):Rat):=by
 have e:Rat.divInt (-1) (2*(k:Int))=Rat.divInt 1 (-2*(k:Int)):=by
  have h:=Rat.neg_divInt_neg 1 (-2*(k:Int))
  rw[← h,Int.neg_mul,Int.neg_neg]
 rw[e,Rat.div_def,Rat.divInt_eq_div,Rat.intCast_one,Rat.div_def,Rat.one_mul]
end
section
open Go Go.Lg Go.Num
attribute [local irreducible] lrun lwp exThen exBlk keep goodPost ec pt gn od jU sg mg
theorem bEg {R:List Rat}{P:Rat→Prop}(h:∀ j,P (R.getD j 0)):∀ c∈R,P c:=by
 intro c hc
 obtain⟨j,hj,rfl⟩:=List.getElem_of_mem hc
 have:=h j
 rwa [show R.getD j 0=R[j]by simp[List.getD,hj]]at this
theorem aK3 {k:Nat}(k1:1≤k) (k2:k≤40) {n o f:Nat}{v w:List Int}{ix:Nat→Option Nat}(hf:1≤f∧f≤60∧w.length≤10∧o∈qS∧phN o o≤12) (hc:ChD n v o f w ix):
  PureGood Tryz.prog 17 [i64 k,.agg [i64 n,.sl v.length (ec v)]] (.tup [encF (oQ (rz (dF o)) (bQ (vL ix k f o f))),i64 o,i64 0])∧(∀ c∈oQ (rz (dF o)) (bQ (vL ix k f o f)),lq c≤100000)∧(oQ (rz (dF o)) (bQ (vL ix k f o f))).length≤60:=by
 obtain⟨f1,f2,lw,ho,hp⟩:=hf
 have o1:=hc.o1
 have o2:=hc.o2
 obtain⟨c1,c2,c3,c4⟩:=wE ho
 have hfr:=fun i=>aT4 (ix:=ix) (k:=k) (f:=f) (o:=o) (j:=f) k2 f1 f2 (Nat.le_refl _) i
 have hpv:=bC6 ix k f o f
 have gN:=wF ho (plP ix k f o f) (vJ f1) (qN k2 f2) (L:=260) (by omega) (by rw[aKa];omega) (by
  intro j
  have:ov (plP ix k f o f)=vL ix k f o f:=hpv
  rw[this]
  exact hfr j) (aXi k2 f1 f2 (Nat.le_refl _))
 have:ov (plP ix k f o f)=vL ix k f o f:=hpv
 rw[this,aKa]at gN
 have hl2:=uI (vL ix k f o f)
 rw[iK]at hl2
 refine⟨aRa hc lw _ (oE ho) ⟨_,_,rfl⟩ k1 k2 gN,bEg (fun j=> ?_),by have:=bC8 (rz (dF o)) (bQ (vL ix k f o f));omega⟩
 refine uJ (aNw c1 (L:=260) (fun j=> ?_) j) (vJ f1) (qN k2 f2) (by omega)
 rw[jC]
 exact hfr j
end
section
open Go Go.Lg Go.Num
def sS (a:Nat→Rat) (N:Nat):LV×LV:=(i64 (0+(Go.Num.ordN a N:Int)),.sl (N-Go.Num.ordN a N) (qc (aP (fun i=>a (Go.Num.ordN a N+i)) (N-Go.Num.ordN a N))))
theorem aCc (a:Nat→Rat) (N:Nat):fS 0 a N= .agg [(sS a N).1,(sS a N).2]:=by unfold fS;rfl
theorem aOq (a:Nat→Rat) (N:Nat):gI (sS a N).1=true∧gI (sS a N).2=true∧∃ z nn cs,(sS a N).1=i64 z∧(sS a N).2= .sl nn cs:=⟨rfl,rfl,_,_,_,rfl,rfl⟩
def cfQ (ix1 ix2:Nat→Option Nat) (k m o1 o2 n n1 n2 l j:Nat):Rat:=if l=0 then(if n1=1 then(wG ix2 k n2 m o2 n n2).getD j 0 else 0)else(vP (sY ix1 ix2 m o1 o2 l) k m n l).getD j 0
section
variable {n1 o1 c1 n2 o2 c2:Nat}{v1 v2:List Int}{b1 b2:Bool}{ix1 ix2:Nat→Option Nat}{m n k:Nat}
theorem bEh (h2:SeD n2 v2 o2 c2 b2 ix2) (hZ:ZtD m n) (hm2:m % o2=0) (k1:2≤k) (k2:k≤40) {l j:Nat}(hl:l≤20) (hj:j<n):lq (cfQ ix1 ix2 k m o1 o2 n n1 n2 l j)≤410:=by
 obtain⟨m1,m2,_,_,_,_,_,hzs⟩:=hZ
 have f1:=h2.n1
 have f2:=h2.n2
 unfold cfQ
 split
 ·split
  ·have:=zJ (aKn (ix:=ix2) (o:=o2) (by omega) k2 f1 f2 hzs (fun A i hA hi=>(iL h2 (show A<60 by omega) hi hm2 m1 (by omega)).2.2) n2 (Nat.le_refl _) j hj) (aKm (by omega) f1) (aC5 k2 f2)
   omega
  ·decide+kernel
 ·have:=aRf (te:=sY ix1 ix2 m o1 o2 l) (k:=k) (n:=n) k2 hzs (fun D e h=>aKj m1 h) (D:=l) (by omega) hj
  omega
theorem bJr {P T:Nat}{both:Bool}(h1:SeD n1 v1 o1 c1 b1 ix1) (h2:SeD n2 v2 o2 c2 b2 ix2) (hZ:ZtD m n) (hm1:m % o1=0) (hm2:m % o2=0) (k1:2≤k) (k2:k≤40) (hP:P≤16) (T1:1≤T) (T2:T≤1000) (hpar:(b1==b2)=decide (k % 2=0))
  (hb:both=(decide (k=2) && decide (n1=1) && decide (n2=1))) (hk:¬(both=true∧T=1)) (hc1:c1=n1) (hc2:c2=n2)
  (gord:PureGood Tryz.prog 92 [.agg [i64 n1,.sl v1.length (ec v1)],.agg [i64 n2,.sl v2.length (ec v2)]] (i64 m)) (gphi:PureGood Tryz.prog 94 [i64 m] (i64 n))
  (w:Nat→Nat→Rat) (hw:∀ j,w j=if both then dfT (fun l=>cfQ ix1 ix2 k m o1 o2 n n1 n2 l j) T else sX (fun l=>cfQ ix1 ix2 k m o1 o2 n n1 n2 l j) T)
  (hsm:both=true→∀ j,j<n→∀ l,l<P→lq (cfQ ix1 ix2 k m o1 o2 n n1 n2 l j)≤100):
  PureGood Tryz.prog 27 [i64 k,.agg [i64 n1,.sl v1.length (ec v1),i64 n2,.sl v2.length (ec v2),i64 T],i64 P] (.tup [.sl n (sC (fun j=>sS (w j) P) n),i64 0]):=by
 have hZ':=hZ
 obtain⟨m1,m2,nn1,nn2,_⟩:=hZ'
 have gf:=aFw (T:=T) h1 h2
 rw[if_neg (by omega)]at gf
 have htr:∀ tr,tr=(decide ((n1:Int)=1) && decide ((n2:Int)=1))→both=(decide (k=2) && tr):=fun tr h=>by
  rw[hb,h,Bool.and_assoc]
  congr 2
  ·exact decide_eq_decide.2 (by omega)
  ·exact decide_eq_decide.2 (by omega)
 obtain⟨tr,ht⟩:∃ tr,tr=(decide ((n1:Int)=1) && decide ((n2:Int)=1)):=⟨_,rfl⟩
 have hbt:=htr tr ht
 refine aKy (y1:= .sl 0 []) (y2:= .sl 0 []) (tr:=tr) (R:=fun j=>sS (fun l=>cfQ ix1 ix2 k m o1 o2 n n1 n2 l j) P) (S:=fun j=>sS (w j) P) (cf:=fun l j=>cfQ ix1 ix2 k m o1 o2 n n1 n2 l j) ⟨_,_,rfl⟩ ⟨_,_,rfl⟩ k1 k2 nn1 nn2 (by omega) m1 (by omega) T1 T2 ht hpar ?_ gf gord (pG h1 m1 (by omega)) (pG h2 m1 (by omega)) gphi ?_ ?_ (fun j=>aOq _ _) (fun j=>aOq _ _) ?_ ?_
 ·rintro⟨e1,e2,e3⟩
  exact hk ⟨by rw[hbt,e2,decide_eq_true e1];rfl,e3⟩
 ·by_cases e:n1=1
  ·subst e
   exact⟨_,pH ix2 k n2 m o2 n n2,fun j hj=>by unfold cfQ;rw[if_pos rfl,if_pos rfl],aOc h2 hZ hm2 k1 k2 T⟩
  ·exact⟨List.replicate n 0,by simp,fun j hj=>by unfold cfQ;rw[if_pos rfl,if_neg e];simp[List.getD,hj],aKo e nn1 nn2 T⟩
 ·intro l l1 l2
  exact⟨_,sB _ k m n l,fun j hj=>by unfold cfQ;rw[if_neg (by omega)],aKk h1 h2 hZ hm1 hm2 k1 k2 l1 (by omega) T⟩
 ·intro j hj
  have g:=lT 0 (fun l=>cfQ ix1 ix2 k m o1 o2 n n1 n2 l j) P (by omega) (by omega) (fun i hi=>Nat.le_trans (bEh h2 hZ hm2 k1 k2 (by omega) hj) (by omega))
  rw[aCc]at g
  exact g
 ·intro j hj
  have hbd:∀ i,i<P→lq (cfQ ix1 ix2 k m o1 o2 n n1 n2 i j)≤410:=fun i hi=>bEh h2 hZ hm2 k1 k2 (by omega) hj
  cases hbc:both with
  |true=>
   have hk2:k=2∧tr=true:=by
     rw[hbc]at hbt
     have:=hbt.symm
     rw[Bool.and_eq_true,decide_eq_true_eq]at this
     exact this
   have g:=aGn (fun l=>cfQ ix1 ix2 k m o1 o2 n n1 n2 l j) P T (by omega) T1 T2 (hsm hbc j hj)
   have hwj:=hw j
   rw[hbc,if_pos rfl]at hwj
   rw[← hwj,aCc,aCc]at g
   rw[hk2.2]
   have e2:((k:Nat):Int)=2:=by omega
   rw[e2]
   exact g
  |false=>
   have g:=aFr (fun l=>cfQ ix1 ix2 k m o1 o2 n n1 n2 l j) k P T tr (by omega) T1 T2 hbd k2 (fun h=>by
     rw[hbc]at hbt
     rw[h.2,decide_eq_true h.1]at hbt
     cases hbt)
   have hwj:=hw j
   rw[hbc,if_neg (by simp)]at hwj
   rw[← hwj,aCc,aCc]at g
   exact g
theorem bWv {f0:Nat→Rat}{R:List Rat}{x:Rat}{j:Nat}(hf:∀ j,f0 j=R.getD j 0*x):(o0I f0 R.length j).getD 0=R.getD j 0*x:=by
 unfold o0I
 split
 ·exact hf j
 ·rename_i h
  have:R.getD j 0=0:=by simp[List.getD,Nat.le_of_not_lt h]
  rw[this,Rat.zero_mul]
  rfl
theorem bEi {o0:Nat→Option Rat}{te:Nat→Nat→Option Nat}{z:Nat→List Int}{p:Nat→Int}{P j l:Nat}(hl:l<P):cE o0 te z p (max P 1) 0 0 j l=if l=0 then o0 j else ocD (te l) z p j l:=by
 unfold cE
 split
 ·rfl
 ·rw[if_pos (by omega)]
theorem bJs {ix:Nat→Option Nat}{f:Nat}(hm:m∈qS) (hzl:∀ e,e<m→(zI m e).length≤n) (hix:∀ A j,A<f→ix A=some j→j<m):(oQ (rz (dF m)) (bQ (vL ix k f m f))).length≤n:=by
 obtain⟨c1,c2,c3,c4⟩:=wE hm
 obtain⟨m1,m2⟩:=bDf hm
 have hz:∀ A,A≤f→∀ j,n≤j→(eU (rz (dF m)) (m+1-(dF m).length) (vL ix k f m A)).getD j 0=0:=by
  intro A
  induction A with
  |zero=>
   intro _ j _
   have e:List.replicate m (0:Rat)=uL 0 (List.replicate m 0):=by simp[uL]
   rw[aNu,e,uN,oF,Rat.zero_mul]
  |succ A ih=>
   intro hA j hj
   cases hi:ix A with
   |none=>rw[aNv hi];exact ih (by omega) j hj
   |some i=>
    have hil:=hix A i (by omega) hi
    have h0:(zI m i).getD j 0=0:=by
      have:=hzl i hil
      simp[List.getD,show(zI m i).length≤j by omega]
    rw[aOo hi,aFo _ _ _ _ (by rw[iK,uM,pJ]),uN,fO (by rw[jW,iK,uM,jW,pJ]),oF,aOp hm hil,ih (by omega) j hj,h0,Rat.intCast_zero,Rat.mul_zero,Rat.zero_add]
 rw[vO (by rw[bX];omega),iK,bX]
 obtain⟨q,h1,h2,h3,h4⟩:=jX (eU (rz (dF m)) (m+1-(dF m).length) (vL ix k f m f))
 rw[h2,List.length_take]
 rcases Nat.lt_or_ge n q with h |h
 ·exact absurd (hz f (Nat.le_refl _) (q-1) (by omega)) (h4 (by omega))
 ·omega
end
end
section
open Go Go.Lg Go.Num
noncomputable def pS (n a b:Nat):Bool:=(((bP (od n)).drop a).take b).all (bZ n)
def pQs (n M:Nat):Nat→Nat→Prop
 |0,_=>True
 |k+1,j=>pS n (j*M) M=true∧pQs n M k (j+1)
theorem aUr {n M:Nat}:∀ {k j:Nat},pQs n M k j→∀ i,i<k→pS n ((j+i)*M) M=true
 |0,_,_,i,hi=>by omega
 |k+1,j,h,0,_=>h.1
 |k+1,j,h,i+1,hi=>by
  have:=aUr h.2 i (by omega)
  rwa [show j+1+i=j+(i+1)by omega]at this
theorem jK (n M k:Nat) (h1:(bP (od n)).length≤k*M) (h:pQs n M k 0):(bP (od n)).all (bZ n)=true:=aWl M k h1 (fun j hj=>by
 have:=aUr h j hj
 rwa [Nat.zero_add]at this)
end
end Go.Proofs.YtaidcaemdkncgaaGreatDoor
