/- Contracts of functions of the program, and what proves them (texts: Lg24 AL EncE NumE AD AE G0 Gg G1 G1xa G1xb G1xc G1c NumJ G2 G3 F2 G4 G5 NumF Q12 Q13 NumG NumX). -/
import Derived.KernelRfl
import Derived.Test.YtaidcaemdkncgaaGreatDoorZAC
import Derived.Test.YtaidcaemdkncgaaGreatDoorZAD
import Derived.Test.YtaidcaemdkncgaaGreatDoorZAH
import Derived.Test.YtaidcaemdkncgaaGreatDoorZAL
import Derived.Test.YtaidcaemdkncgaaGreatDoorZAM
import Derived.Test.YtaidcaemdkncgaaGreatDoorZAN
set_option linter.all false
set_option maxRecDepth 100000
set_option maxHeartbeats 8000000
namespace Go.Lg
section
open Go
section
variable {P:Program}[Laid P] {base i:Nat}{mu:Bool}{ok:Nat→Nat→Bool}{ops:Array Oper}{K:LS→Prop}
theorem aNb:∀ (l l':List Oper) (i:Nat) {s:LS}{j:Nat}{s':LS},wQ P base ok ops i l (some s)=(j,[],some s')→lrun P mu base ok ops j l' s' K→lrun P mu base ok ops i (l++l') s K
 |[],l',i,s,j,s',h,hk=>by simp only[wQ,Prod.mk.injEq,Option.some.injEq]at h;obtain⟨rfl,_,rfl⟩:=h;exact hk
 |o::rest,l',i,s,j,s',h,hk=>by
  unfold wQ at h
  split at h
  · simp at h
  · cases hs:sN P (base+i) (ok i) ops o s with
    |none=>
     rw[hs]at h
     exfalso
     cases rest <;>simp[wQ]at h
    |some s1=>
     rw[hs]at h
     exact .inl (aBu hs (aNb rest l' (i+1) h hk))
theorem aS3 (k:Nat) {l:List Oper}{s:LS}{j:Nat}{s':LS}(hrun:wQ P base ok ops i (l.take k) (some s)=(j,[],some s')) (hnext:lrun P mu base ok ops j (l.drop k) s' K):lrun P mu base ok ops i l s K:=by
 have:=aNb (mu:=mu) (K:=K) (l.take k) (l.drop k) i hrun hnext
 rwa [List.take_append_drop]at this
theorem aNc {t dd b nn e z by_ m:Nat}{zl cells news:List LV}{n nb:Nat}{F:Nat→LV}{H:Nat→Option Blk}{d x:Operand}{ty:TypeId}{p:String}{a:Array Edge}{rest:List Oper}
  (hdn:dd<n) (he:aY P t=some e) (hz:aL P e=some (z+1)) (hby:bH P e=some by_) (hzl:bS P e=some zl) (hd:opnd ⟨n,F,H,nb⟩ d= .own b 0 nn (z+1)) (hb:H b=some ⟨e,cells,false⟩) (hnk:nn*(z+1)≤cells.length)
  (hsrc:aCd ⟨n,F,H,nb⟩ (fun _=>true) (z+1) (opnd ⟨n,F,H,nb⟩ x)=some (m,news)) (hm0:m≠0) (hbb:(nn+m)*by_≤140737488355328) (hml:nn+m≤maxLen)
  (hB:lrun P true base ok ops (i+1) rest ⟨n,dA F dd (.own b 0 (nn+m) (z+1)),dA H b (some ⟨e,cells.take (nn*(z+1))++news,false⟩),nb⟩ K)
  (hA:lrun P true base ok ops (i+1) rest ⟨n,dA F dd (.own (base+i) 0 (nn+m) (z+1)),dA H (base+i) (some ⟨e,cells.take (nn*(z+1))++news,false⟩),nb⟩ K):
  lrun P true base ok ops i (⟨some dd,.call {callee:= .builtin .append,args:= #[d,x],argTypes:= #[t,t]},ty,p,a,none⟩::rest) ⟨n,F,H,nb⟩ K:=
 .inr (.inr ⟨rfl,t,d,x,dd,b,nn,e,z,by_,zl,⟨e,cells,false⟩,m,news,rfl,rfl,hdn,rfl,he,hz,hby,hzl,hd,hb,rfl,rfl,hnk,hsrc,hm0,hbb,hml,hB,hA⟩)
end
theorem aHm {St:Nat→Prop}{hp:Array Obj}{μ:Nat→Option (Nat×Nat)}{x:LV}:∀ {cs:List LV}{vs:List Value},Reps St hp μ (cs++[x]) vs→∃ us u,vs=us++[u]∧Reps St hp μ cs us∧Rep St hp μ x u
 |[],vs,h=>by
  obtain⟨u,us,rfl,hu,hs⟩:=Reps.head h
  obtain rfl:us=[]:=List.eq_nil_of_length_eq_zero hs.1.symm
  exact⟨[],u,rfl,Reps.nil,hu⟩
 |c::cs,vs,h=>by
  obtain⟨u,us,rfl,hu,hs⟩:=Reps.head (cs:=cs++[x]) h
  obtain⟨us',u',rfl,h1,h2⟩:=aHm hs
  exact⟨u::us',u',rfl,Reps.cons hu h1,h2⟩
theorem bA5 {St:Nat→Prop}{hp:Array Obj}{μ μ':Nat→Option (Nat×Nat)}{r:LV}{v:Value}(h:r= .tup []) (hr:Rep St hp μ r v):Rep St hp μ' r v:=by
 subst h
 cases hr with
 |tup hl _=>exact .tup hl (fun j c u hc _=>by simp at hc)
theorem bA6 {P:Program}[Laid P] {f:FuncId}{pre:List LV}{ts te n n' k0:Nat}{cells cells':List LV}{r:LV}
  (hg:mI P f (pre++[.ptr 0 0]) (cP [(0,⟨ts,[.own 1 0 n 1],false⟩),(1,⟨te,cells,false⟩)]) 2 r (cP [(0,⟨ts,[.own 2 0 n' 1],false⟩),(2,⟨te,cells',false⟩)]) k0)
  (hpre:∀ c∈pre,aB c=true) (hr:r= .tup []) (hpl:∀ c∈cells,aB c=true) (hpl':∀ c∈cells',aB c=true)
  {h:Nat→Option Blk}{c b nb:Nat}(hc:h c=some ⟨ts,[.own b 0 n 1],false⟩) (hb:h b=some ⟨te,cells,false⟩) (hne:c≠b):
  mI P f (pre++[.ptr c 0]) h nb r (dA (dA (dA h b none) c (some ⟨ts,[.own nb 0 n' 1],false⟩)) nb (some ⟨te,cells',false⟩)) (nb+1):=by
 obtain⟨hen,hgood⟩:=hg
 refine⟨hen,fun w0 M St0 μ St w vs hL h0 hnb hvs=> ?_⟩
 obtain⟨g1,R1,cs1,hμ1,hg1,hsz1,hle1,hr1,ho1,_,hns1⟩:=h0.blk c _ hc
 obtain⟨g2,R2,cs2,hμ2,hg2,hsz2,hle2,hr2,ho2,_,hns2⟩:=h0.blk b _ hb
 have hns1:=hns1 rfl
 have hns2:=hns2 rfl
 have hlt1:=(h0.lt c g1 R1 hμ1).1
 have hlt2:=(h0.lt b g2 R2 hμ2).1
 have h12:g1≠g2:=fun e=>hne (h0.inj c b _ _ g1 R1 R2 hc hb hμ1 (by rw[e];exact hμ2))
 have hcn:c<nb:=Nat.lt_of_not_le fun hh=>by rw[hnb c hh]at hμ1;cases hμ1
 have hbn:b<nb:=Nat.lt_of_not_le fun hh=>by rw[hnb b hh]at hμ2;cases hμ2
 obtain⟨us,u,rfl,hus,hu⟩:=aHm hvs
 have hu':Rep St w.heap (fun x=>if x=0 then some (g1,R1)else if x=1 then some (g2,R2)else none) (.ptr 0 0) u:=by
  cases hu with
  |ptr hh=>rw[hμ1]at hh;cases hh;exact .ptr rfl
 have hsm:Inv w (fun g=>g=g1∨g=g2) St ⟨0,fun _=> .dead,cP [(0,⟨ts,[.own 1 0 n 1],false⟩),(1,⟨te,cells,false⟩)],0⟩ (fun x=>if x=0 then some (g1,R1)else if x=1 then some (g2,R2)else none) St #[] w:=by
  refine⟨fun _=> .dead _,rfl,?_,?_,?_,fun g hg=>⟨(h0.st_lt g hg).1,.inl hg⟩,fun _ h=>h,rfl,rfl,rfl,Nat.le_refl _,fun _ _ _=>rfl⟩
  ·intro x k hx
   match x with
   |0=>
    simp[cP]at hx
    subst hx
    refine⟨g1,R1,cs1,rfl,hg1,hsz1,hle1,?_,ho1,by simp,fun _=>hns1⟩
    obtain⟨u1,us1,he,hu1,hs1⟩:=Reps.head hr1
    rw[List.length_singleton]at he⊢
    rw[he]
    obtain rfl:us1=[]:=List.eq_nil_of_length_eq_zero hs1.1.symm
    refine Reps.cons ?_ Reps.nil
    cases hu1 with
    |own hh hn hcp hR=>rw[hμ2]at hh;cases hh;exact .own rfl hn hcp hR
   |1=>
    simp[cP]at hx
    subst hx
    exact⟨g2,R2,cs2,rfl,hg2,hsz2,hle2,fA hpl hr2,ho2,by simp,fun _=>hns2⟩
   |x+2=>simp[cP]at hx
  ·intro x y k k' g R R' hx hy hm hm'
   match x,y with
   |0,0=>rfl
   |1,1=>rfl
   |0,1=>simp at hm hm';exact absurd (hm.1.trans hm'.1.symm) h12
   |1,0=>simp at hm hm';exact absurd (hm'.1.trans hm.1.symm) h12
   |x+2,_=>simp[cP]at hx
   |_,y+2=>simp[cP]at hy
  ·intro x g R hm
   match x with
   |0=>simp at hm;obtain⟨rfl,rfl⟩:=hm;exact⟨hlt1,.inl (.inl rfl)⟩
   |1=>simp at hm;obtain⟨rfl,rfl⟩:=hm;exact⟨hlt2,.inl (.inr rfl)⟩
   |x+2=>simp at hm
 have hLs:fJ P w (fun g=>g=g1∨g=g2) St:=by
  have hl:=h0.laid hL
  refine fJ.of hl fun g hg=>⟨?_,(h0.st_lt _ hg).1⟩
  rintro(e |e)
  ·exact hns1 (e ▸ hg)
  ·exact hns2 (e ▸ hg)
 refine(hgood w _ St _ St w (us++[u]) hLs hsm (fun x hx=>by
  match x,hx with
  |x+2,_=>simp) ((fA hpre hus).append (Reps.cons hu' Reps.nil))).mono ?_
 rintro e w' ⟨v,μ',St',rfl,hI,hv,hm1,hm2,hS1,hS2⟩
 obtain⟨ga,Ra,csa,hma,hga,hsa,hla,hra,hoa,_,hna⟩:=hI.blk 0 ⟨ts,[.own 2 0 n' 1],false⟩ (by simp[cP])
 obtain⟨g3,R3,cs3,hm3,hg3,hs3,hl3,hr3,ho3,_,hn3⟩:=hI.blk 2 ⟨te,cells',false⟩ (by simp[cP])
 have hn3:=hn3 rfl
 have hna:=hna rfl
 have e0:=hm1 0 (by omega)
 simp only[if_true]at e0
 rw[hma]at e0
 obtain⟨rfl,rfl⟩:ga=g1∧Ra=R1:=by cases e0;exact⟨rfl,rfl⟩
 have h13:ga≠g3:=fun e=>by
  have:=hI.inj 0 2 ⟨ts,[.own 2 0 n' 1],false⟩ ⟨te,cells',false⟩ ga Ra R3 (by simp[cP]) (by simp[cP]) hma (by rw[hm3,e])
  omega
 have g3w:=(hI.lt 2 g3 R3 hm3)
 have hex:∀ x r,μ x=some r→dA μ nb (μ' 2) x=some r:=fun x r hx=>by
  rw[bW _ _ _ _ (fun e=>by subst e;rw[hnb _ (Nat.le_refl _)]at hx;cases hx)];exact hx
 have hold:∀ x k g R,x≠c→x≠b→h x=some k→μ x=some (g,R)→g≠ga∧g≠g2:=fun x k g R h1 h2 hx hm=>⟨fun e=>h1 (h0.inj x c _ _ g R Ra hx hc hm (by rw[e];exact hμ1)),fun e=>h2 (h0.inj x b _ _ g R R2 hx hb hm (by rw[e];exact hμ2))⟩
 have look:∀ x k,dA (dA (dA h b none) c (some ⟨ts,[.own nb 0 n' 1],false⟩)) nb (some ⟨te,cells',false⟩) x=some k→x=nb∧k=⟨te,cells',false⟩∨x≠nb∧x=c∧k=⟨ts,[.own nb 0 n' 1],false⟩∨x≠nb∧x≠c∧x≠b∧h x=some k:=by
  intro x k hx
  by_cases h1:x=nb
  ·subst h1
   rw[cG]at hx
   cases hx
   exact .inl ⟨rfl,rfl⟩
  ·rw[bW _ _ _ _ h1]at hx
   by_cases h2:x=c
   ·subst h2
    rw[cG]at hx
    cases hx
    exact .inr (.inl ⟨h1,rfl,rfl⟩)
   ·rw[bW _ _ _ _ h2]at hx
    by_cases h3:x=b
    ·subst h3
     rw[cG]at hx
     cases hx
    ·rw[bW _ _ _ _ h3]at hx
     exact .inr (.inr ⟨h1,h2,h3,hx⟩)
 have g3old:∀ g,g<w.heap.size→g≠ga→g≠g2→g≠g3:=fun g hl h1 h2 e=>by
  subst e
  rcases g3w.2 with(hh |hh) |hh |hh
  ·exact h1 hh
  ·exact h2 hh
  ·omega
  ·exact hn3 hh
 have Mback:∀ g,g=ga∨g=g2→M g∨w0.heap.size≤g:=fun g hg=>by
  rcases hg with rfl |rfl
  ·rcases(h0.lt c _ _ hμ1).2 with hh |hh |hh
   ·exact .inl hh
   ·exact .inr hh
   ·exact absurd hh hns1
  ·rcases(h0.lt b _ _ hμ2).2 with hh |hh |hh
   ·exact .inl hh
   ·exact .inr hh
   ·exact absurd hh hns2
 refine⟨v,dA μ nb (μ' 2),St',rfl,?_,bA5 hr hv,fun x hx=>bW _ _ _ _ (by omega),fun x hx=>by rw[bW _ _ _ _ (by omega)];exact hnb x (by omega),hS1,hS2⟩
 refine⟨fun _=> .dead _,rfl,?_,?_,?_,?_,fun g hg=>hS1 g (h0.st0 g hg),hI.os.trans h0.os,hI.tape.trans h0.tape,hI.output.trans h0.output,Nat.le_trans h0.size hI.size,?_⟩
 ·intro x k hx
  rcases look x k hx with⟨rfl,rfl⟩ |⟨h1,rfl,rfl⟩ |⟨h1,h2,h3,hx'⟩
  ·exact⟨g3,R3,cs3,by rw[cG,hm3],hg3,hs3,hl3,fA hpl' hr3,ho3,by simp,fun _=>hn3⟩
  ·refine⟨ga,Ra,csa,by rw[bW _ _ _ _ h1];exact hμ1,hga,hsa,hla,?_,hoa,by simp,fun _=>hna⟩
   obtain⟨u1,us1,he,hu1,hs1⟩:=Reps.head hra
   rw[List.length_singleton]at he⊢
   rw[he]
   obtain rfl:us1=[]:=List.eq_nil_of_length_eq_zero hs1.1.symm
   refine Reps.cons ?_ Reps.nil
   cases hu1 with
   |own hh hn hcp hR=>exact .own (by rw[cG];exact hh) hn hcp hR
  ·obtain⟨g,R,cs,hm,hg,hs,hl,hrr,ho,hf1,hf2⟩:=h0.blk x k hx'
   obtain⟨hx1,hx2⟩:=hold x k g R h2 h3 hx' hm
   have hlt:=(h0.lt x g R hm).1
   refine⟨g,R,cs,hex _ _ hm,by rw[hI.kept g hlt (by rintro(e |e);exact hx1 e;exact hx2 e)];exact hg,hs,hl,hrr.mono hS1 hS2 hex,ho,fun hh=>hS1 g (hf1 hh),fun hh hst=> ?_⟩
   rcases(hI.st_lt g hst).2 with h4 |(h4 |h4) |h4
   ·exact hf2 hh h4
   ·exact hx1 h4
   ·exact hx2 h4
   ·omega
 ·have key:∀ x k g R,x≠nb→dA (dA (dA h b none) c (some ⟨ts,[.own nb 0 n' 1],false⟩)) nb (some ⟨te,cells',false⟩) x=some k→μ x=some (g,R)→g≠g3∧(x=c∨x≠c∧x≠b∧h x=some k):=by
   intro x k g R hxn hx hm
   rcases look x k hx with⟨h1,_⟩ |⟨_,h2,_⟩ |⟨_,h2,h3,hx'⟩
   ·exact absurd h1 hxn
   ·subst h2
    rw[hμ1]at hm
    cases hm
    exact⟨h13,.inl rfl⟩
   ·obtain⟨a1,a2⟩:=hold x k g R h2 h3 hx' hm
    exact⟨g3old g (h0.lt x g R hm).1 a1 a2,.inr ⟨h2,h3,hx'⟩⟩
  intro x y k k' g R R' hx hy hm hm'
  by_cases hxn:x=nb <;>by_cases hyn:y=nb
  ·rw[hxn,hyn]
  ·subst hxn
   rw[cG,hm3]at hm
   rw[bW _ _ _ _ hyn]at hm'
   cases hm
   exact absurd rfl (key y k' _ _ hyn hy hm').1
  ·subst hyn
   rw[cG,hm3]at hm'
   rw[bW _ _ _ _ hxn]at hm
   cases hm'
   exact absurd rfl (key x k _ _ hxn hx hm).1
  ·rw[bW _ _ _ _ hxn]at hm
   rw[bW _ _ _ _ hyn]at hm'
   obtain⟨kx,hkx⟩:∃ kx,h x=some kx:=by
    rcases(key x k g R hxn hx hm).2 with rfl |⟨_,_,hh⟩
    ·exact⟨_,hc⟩
    ·exact⟨_,hh⟩
   obtain⟨ky,hky⟩:∃ ky,h y=some ky:=by
    rcases(key y k' g R' hyn hy hm').2 with rfl |⟨_,_,hh⟩
    ·exact⟨_,hc⟩
    ·exact⟨_,hh⟩
   exact h0.inj x y kx ky g R R' hkx hky hm hm'
 ·intro x g R hm
  by_cases hxn:x=nb
  ·subst hxn
   rw[cG,hm3]at hm
   cases hm
   refine⟨g3w.1,?_⟩
   rcases g3w.2 with hh |hh |hh
   ·exact(Mback _ hh).imp id .inl
   ·exact .inr (.inl (Nat.le_trans h0.size hh))
   ·exact .inr (.inr hh)
  ·rw[bW _ _ _ _ hxn]at hm
   exact⟨Nat.lt_of_lt_of_le (h0.lt x g R hm).1 hI.size,(h0.lt x g R hm).2.imp id (Or.imp id (hS1 g))⟩
 ·intro g hg
  refine⟨(hI.st_lt g hg).1,?_⟩
  rcases(hI.st_lt g hg).2 with hh |hh |hh
  ·exact(h0.st_lt g hh).2
  ·exact .inr (Mback g hh)
  ·exact .inr (.inr (Nat.le_trans h0.size hh))
 ·intro g hlt hM
  rw[hI.kept g (Nat.lt_of_lt_of_le hlt h0.size) (fun hh=> ?_)]
  ·exact h0.kept g hlt hM
  ·rcases Mback g hh with h1 |h1
   ·exact hM h1
   ·omega
end
section
open Go
noncomputable def bHy (P:Program) [Laid P] (orc:FuncId→List LV→Option LV) (horc:Callf) (mode:FuncId→Nat) (bad:List Nat) (d:Nat):Callf:=
 Nat.rec (motive:=fun _=>Callf) (fun _ _ _ _=>none) (fun _ ih f args hp nb=>match horc f args hp nb with
  |some x=>some x
  |none=>match fnB P bad f with
   |some b=>aSo P orc mode ih args hp nb b
   |none=>none) d
section
variable {P:Program}[Laid P] {orc:FuncId→List LV→Option LV}{horc:Callf}{mode:FuncId→Nat}{bad:List Nat}
attribute [local irreducible] evC
theorem aEw (hmix:P.follows .mixedOrders=true) (ho:fR P orc) (hh:rI P horc) (hB:aEg P bad):∀ d,rI P (bHy P orc horc mode bad d)
 |0=>fun f args hp nb r hp' nb' h=>by
  have h:(none:Option (LV×List (Nat×Blk)×Nat))=some (r,hp',nb'):=h
  cases h
 |d+1=>fun f args hp nb r hp' nb' h=>by
  have ih:=aEw hmix ho hh hB d
  have h:(match horc f args hp nb with
    |some x=>some x
    |none=>match fnB P bad f with
     |some b=>aSo P orc mode (bHy P orc horc mode bad d) args hp nb b
     |none=>none)=some (r,hp',nb'):=h
  split at h
  · rename_i x hx
    cases h
    exact hh _ _ _ _ _ _ _ hx
  split at h
  · rename_i b hb0
    unfold fnB at hb0
    split at hb0
    · rename_i fn hf
      split at hb0
      · rename_i c hb
        cases hbad:bad.elem f with
        |true=>rw[hbad,cond_true]at hb0;cases hb0
        |false=>
         rw[hbad,cond_false]at hb0
         cases hb0
         obtain⟨hname,hd⟩:=hB f fn c hf hbad hb
         unfold aSo at h
         simp only at h
         cases hlen0:Nat.ble args.length fn.ntmps with
         |false=>rw[hlen0,cond_false]at h;cases h
         |true=>
          rw[hlen0,cond_true]at h
          have hlen:args.length≤fn.ntmps:=Nat.le_of_ble_eq_true hlen0
          have fin:∀ (e:Exit) (t:ES),evC P orc mode (bHy P orc horc mode bad d) c ⟨fn.ntmps,aMm 0 args .nil,hp,nb⟩=some (e,t)→(e= .ret∨e= .normal)→bHi P nb fn.results.toList t=some (r,hp',nb')→nb≤nb'∧mI P f args (yD hp) nb r (yD hp') nb':=by
            intro e t he hret hr
            unfold bHi at hr
            split at hr
            · rename_i r' hres
              cases hle:Nat.ble nb t.nb with
              |false=>rw[hle,cond_false]at hr;cases hr
              |true=>
               rw[hle,cond_true]at hr
               cases hr
               refine⟨Nat.le_of_ble_eq_true hle,lJ hmix hf hb hname rfl rfl hlen ?_⟩
               have key:=aVu (na:=nb) ho ih c hd ⟨fn.ntmps,aMm 0 args .nil,hp,nb⟩ t e (aLr P fn.results.toList r (yD t.hp) t.nb) he (by rcases hret with rfl |rfl <;>exact⟨hres,rfl,Nat.le_refl _⟩)
               have e1:ES.ls ⟨fn.ntmps,aMm 0 args .nil,hp,nb⟩=⟨fn.ntmps,fun i=>args.getD i .dead,yD hp,nb⟩:=by
                 simp only[ES.ls]
                 congr 1
                 funext i
                 rw[aSg]
                 simp
               rw[e1]at key
               exact key
            · cases hr
          unfold cDm at h
          split at h
          · rename_i t he
            exact fin _ t he (.inl rfl) h
          · rename_i t he
            exact fin _ t he (.inr rfl) h
          · cases h
      · cases hb0
    · cases hb0
  · cases h
noncomputable def bHz (P:Program) [Laid P] (orc:FuncId→List LV→Option LV) (horc:Callf) (mode:FuncId→Nat) (bad:List Nat) (d:Nat) (f:FuncId) (args:List LV):Option LV:=
 match bHy P orc horc mode bad d f args [] 0 with
 |some (r,hp,_)=>pvF hp r
 |none=>none
theorem aEx (hmix:P.follows .mixedOrders=true) (ho:fR P orc) (hh:rI P horc) (hB:aEg P bad) {d:Nat}{f:FuncId}{args:List LV}{r:LV}(h:bHz P orc horc mode bad d f args=some r):PureGood P f args r:=by
 unfold bHz at h
 split at h
 ·rename_i r0 hp nb hcf
  rw[bAl]at h
  obtain⟨p,hpv,rfl⟩:=Option.map_eq_some_iff.1 h
  exact aHb (aEw hmix ho hh hB d _ _ _ _ _ _ _ hcf).2 hpv
 ·cases h
end
end
end Go.Lg
namespace Go.Proofs.YtaidcaemdkncgaaGreatDoor
open Go Go.Lg Go.Num
def eT (z:Int):Bool:=Nat.ble (z.natAbs+1) (4294967296^100)
theorem kS {z:Int}(h:eT z=true):len z≤100:=bT (k:=100) (Nat.le_of_ble_eq_true h)
theorem pC {z:Int}(h:eT z=true):LV.agg (wrI z)=aO z:=by
 rw[aW,aJk (Nat.le_of_ble_eq_true h)]
def aCz (args:List LV):Option LV:=
 match args with
 |[.agg [a,b],.agg [c,d]]=>match rdI a b,rdI c d with
  |some x,some y=>iI (x*y) fun r=>bif eT x && eT y && eT r then some (.agg (wrI r))else none
  |_,_=>none
 |_=>none
theorem aQm {args:List LV}{r:LV}(h:aCz args=some r):PureGood Tryz.prog 141 args r:=by
 unfold aCz at h
 split at h
 ·split at h
  ·rename_i a b c d x y h1 h2
   rw[cV]at h
   cases hb:(eT x && eT y && eT (x*y))with
   |true=>
    rw[hb]at h
    simp only[Bool.and_eq_true]at hb
    cases h
    have hx:=kS hb.1.1
    have hy:=kS hb.1.2
    obtain⟨rfl,rfl⟩:=jT h1
    obtain⟨rfl,rfl⟩:=jT h2
    rw[pC hb.2]
    have:=fV x y (by omega) (by omega)
    rwa [aW x,aW y]at this
   |false=>rw[hb]at h;cases h
  ·cases h
 ·cases h
def aJm (args:List LV):Option LV:=
 match args with
 |[.agg [a,b],.agg [c,d]]=>match rdI a b,rdI c d with
  |some x,some y=>iI (x / y) fun r=>bif eT x && eT y && eT r && !(y==0) && (x % y==0)then some (.tup [.agg (wrI r),.lit (.int .i64 0)])else none
  |_,_=>none
 |_=>none
theorem aWc {args:List LV}{r:LV}(h:aJm args=some r):PureGood Tryz.prog 229 args r:=by
 unfold aJm at h
 split at h
 ·split at h
  ·rename_i a b c d x y h1 h2
   rw[cV]at h
   cases hb:(eT x && eT y && eT (x / y) && !(y==0) && (x % y==0))with
   |true=>
    rw[hb]at h
    simp only[Bool.and_eq_true,Bool.not_eq_true',beq_eq_false_iff_ne,ne_eq,beq_iff_eq]at hb
    cases h
    have hx:=kS hb.1.1.1.1
    have hy:=kS hb.1.1.1.2
    obtain⟨rfl,rfl⟩:=jT h1
    obtain⟨rfl,rfl⟩:=jT h2
    rw[pC hb.1.1.2]
    have:=kH x y hb.1.2 hb.2 (by omega) (by omega)
    rwa [aW x,aW y]at this
   |false=>rw[hb]at h;cases h
  ·cases h
 ·cases h
def aJn (args:List LV):Option LV:=
 match args with
 |[.agg l,.agg m]=>match rdQ l,rdQ m with
  |some x,some y=>fQ (x / y) fun r=>bif dL x && dL y && dL r && !(y.num==0)then some (.tup [wrQ r,.lit (.int .i64 0)])else none
  |_,_=>none
 |_=>none
theorem aWd {args:List LV}{r:LV}(h:aJn args=some r):PureGood Tryz.prog 85 args r:=by
 unfold aJn at h
 split at h
 ·split at h
  ·rename_i l m x y h1 h2
   rw[aM8]at h
   cases hb:(dL x && dL y && dL (x / y) && !(y.num==0))with
   |true=>
    rw[hb]at h
    simp only[Bool.and_eq_true,Bool.not_eq_true',beq_eq_false_iff_ne,ne_eq]at hb
    cases h
    have hx:=eG hb.1.1.1
    have hy:=eG hb.1.1.2
    rw[aAv hb.1.2,tY h1,tY h2]
    exact tP x y (fun e=>hb.2 (by rw[e];rfl)) (by omega) (by omega)
   |false=>rw[hb]at h;cases h
  ·cases h
 ·cases h
def bU9 (f:FuncId) (args:List LV):Option LV:=bif Nat.beq f 85 then aJn args else bif Nat.beq f 141 then aCz args else bif Nat.beq f 229 then aJm args else orc f args
theorem aS4:fR Tryz.prog bU9:=by
 intro f args r h
 exact aU (f0:=85) (g:=aJn) (fun _ _ h=>aWd h) (aU (f0:=141) (g:=aCz) (fun _ _ h=>aQm h) (aU (f0:=229) (g:=aJm) (fun _ _ h=>aWc h) bU8)) f args r h
def bN0:Callf:=fun _ _ _ _=>none
theorem bA7:rI Tryz.prog bN0:=fun _ _ _ _ _ _ _ h=>nomatch h
noncomputable def evl (f:Nat) (args:List LV):Option LV:=bHz Tryz.prog bU9 bN0 (fun _=>0) [33,18,290] 600 f args
theorem yT {f:Nat}{args:List LV}{r:LV}(h:evl f args=some r):PureGood Tryz.prog f args r:=aEx bC aS4 bA7 aHl h
end Go.Proofs.YtaidcaemdkncgaaGreatDoor
namespace Go.Lg
open Go
def ec (l:List Int):List LV:=l.map fun(z:Int)=>LV.lit (.int .i64 z)
theorem aQn (l:List Int):(ec l).length=l.length:=by simp[ec]
theorem cDx {l:List Int}{i:Nat}(h:i<l.length):(ec l)[i]? =some (.lit (.int .i64 (l.getD i 0))):=by simp[ec,h]
theorem cDy {l:List Int}{i:Nat}(h:i<l.length):(ec (l.drop i)).head? =some (.lit (.int .i64 (l.getD i 0))):=by simp[ec,h]
theorem bVa {l:List Int}(h:0<l.length):(ec l).head? =some (.lit (.int .i64 (l.getD 0 0))):=by
 cases l with
 |nil=>simp at h
 |cons d l=>rfl
theorem bH0 (l:List Int) (k:Nat):(ec l).take k=ec (l.take k):=by simp[ec]
theorem bH1 (l:List Int) (k:Nat):(ec l).drop k=ec (l.drop k):=by simp[ec]
theorem bVb (l:List Int) (k:Nat) (z:Int):(ec l).set k (.lit (.int .i64 z))=ec (l.set k z):=by simp[ec]
theorem vB (l:List Int):∀ c∈ec l,aB c=true:=by simp[ec,aB]
theorem bA8 (l:List Int):(∀ c∈ec l,aB c=true)=True:=eq_true (vB l)
theorem bH2 (l:List Int):∀ c∈ec l,gI c=true:=by simp[ec,gI]
theorem bH3 (a:List Int) (z:Int):ec a++[.lit (.int .i64 z)]=ec (a++[z]):=by simp[ec]
theorem lP (n:Nat):List.replicate n (LV.lit (.int .i64 0))=ec (List.replicate n 0):=by simp[ec]
theorem bVc {h:Nat→Option Blk}{ok:Nat→Bool}{k:Nat}(l:List Int):fG h ok (k+1) (ec l)=some (ec l,[]):=lK (bH2 l)
theorem bVd {nb:Nat}{ρ:Nat→Nat}(l:List Int):renLs nb ρ (ec l)=some (ec l):=cJ (vB l)
def smE:=nd aQn (nd @cDx (nd @cDy (nd @bVa (nd bH0 (nd bH1 (nd bVb (nd bA8 (nd @bVc (nd @bVd bH3)))))))))
end Go.Lg
namespace Go.Num
def divN (n:Nat):List Nat:=(List.range' 1 n).filter fun d=>Nat.beq (n % d) 0
def bH4 (n:Nat):List Int:=(divN n).map fun(d:Nat)=>(d:Int)
theorem aNd {n k:Nat}(h:k<(divN n).length):∃ d:Nat,(bH4 n).getD k 0=(d:Int)∧1≤d∧d≤n∧n % d=0∧(divN n).getD k 0=d:=by
 refine⟨(divN n)[k],by simp[bH4,h],?_⟩
 have hm:(divN n)[k]∈divN n:=List.getElem_mem h
 generalize hd:(divN n)[k]=d at*
 simp only[divN,List.mem_filter,List.mem_range'_1]at hm
 refine⟨by omega,by omega,Nat.eq_of_beq_eq_true hm.2,by simp[h,hd]⟩
def aAw (f:Nat→Int):Nat→Int
 |0=>0
 |k+1=>aAw f k+f k
theorem rS {f:Nat→Int}{B:Int}{n:Nat}(h:∀ k,k<n→ -B≤f k∧f k≤B):∀ k,k≤n→ -(B*k)≤aAw f k∧aAw f k≤B*k
 |0,_=>by simp[aAw]
 |k+1,hk=>by
  have h1:=rS h k (by omega)
  have h2:=h k (by omega)
  have e:B*((k+1:Nat):Int)=B*k+B:=by rw[Int.natCast_add,Int.mul_add];simp
  rw[aAw,e]
  omega
def exS (xs:List Int) (k:Nat):Int:=xs.getD k 0
def exL (n:Nat) (xs:List Int) (k:Nat):Int:=(bH4 n).getD k 0*xs.getD k 0
def exH (n:Nat) (xs:List Int) (k:Nat):Int:=(n:Int) / (bH4 n).getD k 0*xs.getD k 0
structure EtaOk (n:Nat) (xs:List Int):Prop where
 n1:1≤n
 n2:n≤600
 len:xs.length=(divN n).length
 small:∀ x∈xs,-200≤x∧x≤200
theorem EtaOk.get {n:Nat}{xs:List Int}(h:EtaOk n xs) (k:Nat): -200≤xs.getD k 0∧xs.getD k 0≤200:=by
 by_cases hk:k<xs.length
 ·have:xs.getD k 0=xs[k]:=by simp[hk]
  rw[this]
  exact h.small _ (List.getElem_mem hk)
 ·simp[List.getD,Nat.le_of_not_lt hk]
theorem aJo {a b A B:Int}(h1:0≤a∧a≤A) (h2: -B≤b∧b≤B): -(A*B)≤a*b∧a*b≤A*B:=by
 have e:(a*b).natAbs≤(A*B).natAbs:=by
  rw[Int.natAbs_mul,Int.natAbs_mul]
  exact Nat.mul_le_mul (by omega) (by omega)
 have:0≤A*B:=Int.mul_nonneg (by omega) (by omega)
 omega
theorem EtaOk.low {n:Nat}{xs:List Int}(h:EtaOk n xs) {k:Nat}(hk:k<xs.length): -120000≤exL n xs k∧exL n xs k≤120000:=by
 obtain⟨d,e1,e2,e3,_⟩:=aNd (n:=n) (k:=k) (h.len ▸ hk)
 have:=h.n2
 exact aJo (A:=600) (B:=200) (by rw[e1];omega) (h.get k)
theorem EtaOk.high {n:Nat}{xs:List Int}(h:EtaOk n xs) {k:Nat}(hk:k<xs.length): -120000≤exH n xs k∧exH n xs k≤120000:=by
 obtain⟨d,e1,e2,e3,_⟩:=aNd (n:=n) (k:=k) (h.len ▸ hk)
 have:=h.n2
 have h3:(n:Int) / (d:Int)=((n / d:Nat):Int):=rfl
 have h4:n / d≤n:=Nat.div_le_self _ _
 generalize n / d=q at*
 exact aJo (A:=600) (B:=200) (by rw[e1,h3];omega) (h.get k)
theorem aEy:∀ n,n≤600→(divN n).length≤24:=by
 have h:((List.range 601).all fun n=>Nat.ble (divN n).length 24)=true:=by decide+kernel
 intro n hn
 exact Nat.le_of_ble_eq_true (List.all_eq_true.1 h n (List.mem_range.2 (by omega)))
theorem EtaOk.len_le {n:Nat}{xs:List Int}(h:EtaOk n xs):xs.length≤24:=by rw[h.len];exact aEy n h.n2
theorem EtaOk.s0 {n:Nat}{xs:List Int}(h:EtaOk n xs) {k:Nat}(hk:k≤xs.length): -4800≤aAw (exS xs) k∧aAw (exS xs) k≤4800:=by
 have h1:=rS (f:=exS xs) (B:=200) (n:=xs.length) (fun k _=>h.get k) k hk
 have h2:=h.len_le
 omega
theorem EtaOk.s1 {n:Nat}{xs:List Int}(h:EtaOk n xs) {k:Nat}(hk:k≤xs.length): -2880000≤aAw (exL n xs) k∧aAw (exL n xs) k≤2880000:=by
 have h1:=rS (f:=exL n xs) (B:=120000) (n:=xs.length) (fun k hk=>h.low hk) k hk
 have h2:=h.len_le
 omega
theorem EtaOk.s2 {n:Nat}{xs:List Int}(h:EtaOk n xs) {k:Nat}(hk:k≤xs.length): -2880000≤aAw (exH n xs) k∧aAw (exH n xs) k≤2880000:=by
 have h1:=rS (f:=exH n xs) (B:=120000) (n:=xs.length) (fun k hk=>h.high hk) k hk
 have h2:=h.len_le
 omega
end Go.Num
namespace Go.Proofs.YtaidcaemdkncgaaGreatDoor
section
open Go Go.Lg Go.Num
attribute [local irreducible] lrun lwp exThen exBlk keep ec
def pP (l:List Int) (p:Int):Nat→List Int
 |0=>l
 |j+1=>pP l p j++l.map (· *p^(j+1))
theorem pD (l:List Int) (p:Int):∀ j,(pP l p j).length=l.length*(j+1)
 |0=>by simp[pP]
 |j+1=>by rw[pP,List.length_append,pD l p j,List.length_map,Nat.mul_add l.length (j+1)];omega
theorem aNe (l:List Int) (p:Int) {i:Nat}(h:i<l.length):∀ j,(pP l p j).getD i 0=l.getD i 0
 |0=>rfl
 |j+1=>by
  have:=pD l p j
  have h2:l.length*1≤l.length*(j+1):=Nat.mul_le_mul_left _ (by omega)
  rw[← aNe l p h j,pP]
  simp only[List.getD,List.getElem?_append_left (show i<(pP l p j).length by omega)]
theorem bN1 {P:Program}[Laid P] {na:Nat}{ops:Array Oper}{draw:Bool}{Φ:Exit→LS→Prop}{s:LS}(h:lwp P na (.region 7 ops draw) Φ s):lwp P na (.region 7 ops draw) Φ s:=h
theorem bA9 {p e j:Nat}(hp:1≤p) (h:j≤e) (he:p^e≤1000):1≤p^j∧p^j≤1000:=⟨Nat.pow_pos hp,Nat.le_trans (Nat.pow_le_pow_right hp h) he⟩
def sW (l:List Int) (p:Int) (j i:Nat):List Int:=pP l p j++(l.map (· *p^(j+1))).take i
theorem aB4 (l:List Int) (p:Int) (j i:Nat) (h:i≤l.length):(sW l p j i).length=(pP l p j).length+i:=by
 rw[sW,List.length_append,List.length_take,List.length_map,Nat.min_eq_left h]
theorem aWe (l:List Int) (p:Int) (j:Nat):sW l p j 0=pP l p j:=by simp[sW]
theorem aWf (l:List Int) (p:Int) (j:Nat):sW l p j l.length=pP l p (j+1):=by
 rw[sW,pP,List.take_of_length_le (by simp)]
theorem aWg (l:List Int) (p:Int) (j i:Nat) (h:i<l.length):sW l p j (i+1)=sW l p j i++[l.getD i 0*p^(j+1)]:=by
 rw[sW,sW,List.append_assoc,List.take_add_one,List.getElem?_map,List.getElem?_eq_getElem h]
 simp[h]
theorem bBa (l:List Int) (p:Int) (j i:Nat) {m:Nat}(h:m<l.length):(sW l p j i).getD m 0=l.getD m 0:=by
 rw[← aNe l p h j,sW]
 have:=pD l p j
 have h2:l.length*1≤l.length*(j+1):=Nat.mul_le_mul_left _ (by omega)
 simp only[List.getD,List.getElem?_append_left (show m<(pP l p j).length by omega)]
theorem aQo (l:List Int) (p e:Nat) (hp:1≤p∧p≤1000) (he2:e≤1000) (he:p^e≤1000) (hl:l.length≤1000) (hle:l.length*(e+1)≤100000) (hb:∀ i,i<l.length→0≤l.getD i 0∧l.getD i 0≤1000):
  mI Tryz.prog 251 ([i64 p,i64 e]++[.ptr 0 0]) (cP [(0,⟨23,[.own 1 0 l.length 1],false⟩),(1,⟨3,ec l,false⟩)]) 2 (.tup []) (cP [(0,⟨23,[.own 2 0 (pP l p e).length 1],false⟩),(2,⟨3,ec (pP l p e),false⟩)]) 100:=by
 refine lJ bC Tryz.func251 rfl (by decide) (nt:=34) rfl (rs:=[]) rfl (aZ rfl) ?_
 have hpos:∀ j,j≤e→1≤p^j∧p^j≤1000:=fun j hj=>bA9 hp.1 hj he
 refine xM ?_
 refine aI (α:={j:Nat // j≤e}) (fun j=>st 34 (lk [(0,i64 p),(1,i64 ((e:Int)-(j.1:Int))),(2,.ptr 0 0),(5,i64 l.length),(6,i64 ((p:Int)^(j.1+1)))]) (cP [(0,⟨23,[.own 2 0 (pP l p j.1).length 1],false⟩),(2,⟨3,ec (pP l p j.1),false⟩)]) 3) (fun j=>e-j.1) ⟨0,by omega⟩ ?_ ?_
 ·show Lg.Sub 2 _ _
  refine Sub.heap (na:=2) (fun b=>([0,1,1]:List Nat).getD b 0) ?_ ?_ ?_ (by decide)
  ·simp only[aG,dg,renL,renLs,simprocAttr,bl,i64,smE]
   try(simp only[LV.lit.injEq,Value.int.injEq,true_and,and_true,Int.pow_succ,Int.pow_zero,Int.one_mul];omega)
   try(simp;done)
   try(rw[wrap_i64 (by omega)];simp only[LV.lit.injEq,Value.int.injEq,true_and,and_true];omega)
  ·simp only[List.forall_mem_cons,List.not_mem_nil,false_imp_iff,implies_true,and_true]
   refine⟨⟨by decide,_,by simp(disch:=first|omega|exact kD rfl|exact kX rfl) only[smY,simprocAttr,bl,i64,smE];exact rfl,?_⟩,⟨by decide,_,by simp(disch:=first|omega|exact kD rfl|exact kX rfl) only[smY,simprocAttr,bl,i64,smE];exact rfl,?_⟩⟩
   ·simp only[aG,dg,renL,renLs,simprocAttr,bl,i64,smE];try(first |rfl |(simp only[List.length_append,List.length_singleton,List.length_cons,List.length_nil];try rfl))
   ·simp only[aG,dg,renL,renLs,simprocAttr,bl,i64,smE];try rfl
  ·intro p hp q hq
   simp only[List.mem_cons,List.not_mem_nil,or_false]at hp hq
   rcases hp with rfl |rfl <;>rcases hq with rfl |rfl <;>simp
 ·rintro⟨j,hj⟩
  simp only[st]
  by_cases h1:j<e
  ·obtain⟨hN1,hN2⟩:l.length≤(pP l p j).length∧(pP l p j).length+l.length≤100000:=by
    have hL:=pD l p j
    have hL2:l.length*(j+2)≤l.length*(e+1):=Nat.mul_le_mul_left _ (by omega)
    have hL3:l.length*(j+2)=l.length*(j+1)+l.length:=by rw[Nat.mul_add l.length j 2,Nat.mul_add l.length j 1];omega
    have hL4:l.length*1≤l.length*(j+1):=Nat.mul_le_mul_left _ (by omega)
    omega
   obtain⟨hQ1,hQ2,hQ3⟩:(1≤(p:Int)^(j+1)∧(p:Int)^(j+1)≤1000)∧(-1000000≤(p:Int)^(j+1)*(p:Int)∧(p:Int)^(j+1)*(p:Int)≤1000000)∧(p:Int)^(j+1)*(p:Int)=(p:Int)^(j+1+1):=by
    have hP:=hpos (j+1) (by omega)
    have ePc:(p:Int)^(j+1)=((p^(j+1):Nat):Int):=(Int.natCast_pow p (j+1)).symm
    have h1:1≤(p:Int)^(j+1)∧(p:Int)^(j+1)≤1000:=by rw[ePc];generalize p^(j+1)=q at*;omega
    generalize hq:(p:Int)^(j+1)=Q at*
    refine⟨h1,aJo (A:=1000) (B:=1000) (by omega) (by omega),?_⟩
    rw[← hq];exact(Int.pow_succ ..).symm
   have hs0:=fun i (h:i<l.length)=>aWg l p j i h
   have hz0:=aWe l p j
   have hl0:=aWf l p j
   generalize hQQ:(p:Int)^(j+1)=Q at*
   clear hpos hQQ
   refine xM ?_
   refine aI (α:={x:Nat×Option (List Int) // x.1≤l.length∧∀ X,x.2=some X→l.length≤X.length∧∀ m,m<l.length→X.getD m 0=l.getD m 0})
    (fun x=>match x.1.2 with
     |none=>st 34 (lk [(0,i64 p),(1,i64 ((e:Int)-(j:Int))),(2,.ptr 0 0),(5,i64 l.length),(6,i64 Q),(21,.own 2 0 l.length 1),(22,i64 l.length),(23,i64 x.1.1)]) (cP [(0,⟨23,[.own 2 0 (sW l p j x.1.1).length 1],false⟩),(2,⟨3,ec (sW l p j x.1.1),false⟩)]) 3
     |some X=>st 34 (lk [(0,i64 p),(1,i64 ((e:Int)-(j:Int))),(2,.ptr 0 0),(5,i64 l.length),(6,i64 Q),(21,.own 2 0 l.length 1),(22,i64 l.length),(23,i64 x.1.1)]) (cP [(0,⟨23,[.own 3 0 (sW l p j x.1.1).length 1],false⟩),(2,⟨3,ec X,false⟩),(3,⟨3,ec (sW l p j x.1.1),false⟩)]) 4) (fun x=>l.length-x.1.1) ⟨(0,none),by simp,by simp⟩ ?_ ?_
   ·simp only[hz0,st]
    refine Sub.heap (na:=2) (fun b=>([0,1,2]:List Nat).getD b 0) ?_ ?_ ?_ (by decide)
    ·simp only[aG,dg,renL,renLs,simprocAttr,bl,i64,smE]
     try(simp only[LV.lit.injEq,Value.int.injEq,true_and,and_true,Int.pow_succ,Int.pow_zero,Int.one_mul];omega)
     try(simp;done)
     try(rw[wrap_i64 (by omega)];simp only[LV.lit.injEq,Value.int.injEq,true_and,and_true];omega)
    ·simp only[List.forall_mem_cons,List.not_mem_nil,false_imp_iff,implies_true,and_true]
     refine⟨⟨by decide,_,by simp(disch:=first|omega|exact kD rfl|exact kX rfl) only[smY,simprocAttr,bl,i64,smE];exact rfl,?_⟩,⟨by decide,_,by simp(disch:=first|omega|exact kD rfl|exact kX rfl) only[smY,simprocAttr,bl,i64,smE];exact rfl,?_⟩⟩
     ·simp only[aG,dg,renL,renLs,simprocAttr,bl,i64,smE];try(first |rfl |(simp only[List.length_append,List.length_singleton,List.length_cons,List.length_nil];try rfl))
     ·simp only[aG,dg,renL,renLs,simprocAttr,bl,i64,smE];try rfl
    ·intro p hp q hq
     simp only[List.mem_cons,List.not_mem_nil,or_false]at hp hq
     rcases hp with rfl |rfl <;>rcases hq with rfl |rfl <;>simp
   ·rintro⟨⟨i,fl⟩,hi,hX⟩
    simp only at hi hX
    have hM:=aB4 l p j i hi
    by_cases h2:i<l.length
    ·have hx:=hb i h2
     have hxP:=aJo (a:=l.getD i 0) (b:=Q) (A:=1000) (B:=1000) hx (by omega)
     have hs:=hs0 i h2
     have hgM:∀ m,m<l.length→(sW l p j i).getD m 0=l.getD m 0:=fun m hm=>bBa l p j i hm
     have hg:=hgM i h2
     have hM2:=aB4 l p j (i+1) (by omega)
     generalize sW l p j i=M at*
     clear hs0 hz0 hl0 he hle
     rcases fl with _ |X
     ·simp only[st]
      (repeat((fail_if_success (refine bN1 ?_));first|apply zO (by decide+kernel)|apply zP (by decide+kernel)|(apply zS;(case h=>constructor<;>decide))|((first|apply cD rfl|apply aR);(case hs=>(simp(disch:=first|omega|exact kD rfl|exact kX rfl) only[smY,simprocAttr,bl,i64,smE,hg];exact rfl));first|refine cB ?_|refine cC ?_|show lrun _ _ _ _ _ _ _ _ _)))
      apply zO (by decide+kernel)
      refine aS3 5 (by simp(disch:=first|omega|exact kD rfl|exact kX rfl) only[smY,simprocAttr,bl,i64,smE,hg];exact rfl) ?_
      simp only[List.drop_succ_cons,List.drop_zero]
      refine aNc (b:=2) (nn:=M.length) (cells:=ec M) (news:=[i64 (l.getD i 0*Q)]) (m:=1) (by decide) aY3 (z:=0) bPq bPr bPs (by simp(disch:=first|omega|exact kD rfl|exact kX rfl) only[smY,simprocAttr,bl,i64,smE,hg];try exact rfl) (by simp(disch:=first|omega|exact kD rfl|exact kX rfl) only[smY,simprocAttr,bl,i64,smE,hg];try exact rfl) (by rw[aQn];omega) (by simp(disch:=first|omega|exact kD rfl|exact kX rfl) only[smY,simprocAttr,bl,i64,smE,hg];try exact rfl) (by decide) (by rw[hM];omega) (by rw[aAc,hM];omega) ?_ ?_
      ·refine zA9 ?_
       refine⟨⟨(i+1,none),by simp only;omega,by simp⟩,?_,by simp only;omega⟩
       simp only[hs,st]
       refine Sub.heap (na:=2) (fun b=>([0,1,2]:List Nat).getD b 0) ?_ ?_ ?_ (by decide)
       ·simp only[aG,dg,renL,renLs,simprocAttr,bl,i64,smE,hg]
        try(simp only[LV.lit.injEq,Value.int.injEq,true_and,and_true,Int.pow_succ,Int.pow_zero,Int.one_mul];omega)
        try(simp;done)
        try(rw[wrap_i64 (by omega)];simp only[LV.lit.injEq,Value.int.injEq,true_and,and_true];omega)
       ·simp only[List.forall_mem_cons,List.not_mem_nil,false_imp_iff,implies_true,and_true]
        refine⟨⟨by decide,_,by simp(disch:=first|omega|exact kD rfl|exact kX rfl) only[smY,simprocAttr,bl,i64,smE,hg];exact rfl,?_⟩,⟨by decide,_,by simp(disch:=first|omega|exact kD rfl|exact kX rfl) only[smY,simprocAttr,bl,i64,smE,hg];exact rfl,?_⟩⟩
        ·simp only[aG,dg,renL,renLs,simprocAttr,bl,i64,smE,hg];try(first |rfl |(simp only[List.length_append,List.length_singleton,List.length_cons,List.length_nil];try rfl))
        ·simp only[aG,dg,renL,renLs,simprocAttr,bl,i64,smE,hg];try rfl
       ·intro p hp q hq
        simp only[List.mem_cons,List.not_mem_nil,or_false]at hp hq
        rcases hp with rfl |rfl <;>rcases hq with rfl |rfl <;>simp
      ·refine zA9 ?_
       refine⟨⟨(i+1,some M),by simp only;omega,fun Y hY=>by cases hY;exact⟨by omega,hgM⟩⟩,?_,by simp only;omega⟩
       simp only[hs,st]
       refine Sub.heap (na:=2) (fun b=>([0,1,2,12]:List Nat).getD b 0) ?_ ?_ ?_ (by decide)
       ·simp only[aG,dg,renL,renLs,simprocAttr,bl,i64,smE,hg]
        try(simp only[LV.lit.injEq,Value.int.injEq,true_and,and_true,Int.pow_succ,Int.pow_zero,Int.one_mul];omega)
        try(simp;done)
        try(rw[wrap_i64 (by omega)];simp only[LV.lit.injEq,Value.int.injEq,true_and,and_true];omega)
       ·simp only[List.forall_mem_cons,List.not_mem_nil,false_imp_iff,implies_true,and_true]
        refine⟨⟨by decide,_,by simp(disch:=first|omega|exact kD rfl|exact kX rfl) only[smY,simprocAttr,bl,i64,smE,hg];exact rfl,?_⟩,⟨by decide,_,by simp(disch:=first|omega|exact kD rfl|exact kX rfl) only[smY,simprocAttr,bl,i64,smE,hg];exact rfl,?_⟩,⟨by decide,_,by simp(disch:=first|omega|exact kD rfl|exact kX rfl) only[smY,simprocAttr,bl,i64,smE,hg];exact rfl,?_⟩⟩
        ·simp only[aG,dg,renL,renLs,simprocAttr,bl,i64,smE,hg];try(first |rfl |(simp only[List.length_append,List.length_singleton,List.length_cons,List.length_nil];try rfl))
        ·simp only[aG,dg,renL,renLs,simprocAttr,bl,i64,smE,hg];try rfl
        ·simp only[aG,dg,renL,renLs,simprocAttr,bl,i64,smE,hg];try rfl
       ·intro p hp q hq
        simp only[List.mem_cons,List.not_mem_nil,or_false]at hp hq
        rcases hp with rfl |rfl |rfl <;>rcases hq with rfl |rfl |rfl <;>simp
     ·obtain⟨hX1,hX2⟩:=hX X rfl
      have hg:=hX2 i h2
      simp only[st]
      (repeat((fail_if_success (refine bN1 ?_));first|apply zO (by decide+kernel)|apply zP (by decide+kernel)|(apply zS;(case h=>constructor<;>decide))|((first|apply cD rfl|apply aR);(case hs=>(simp(disch:=first|omega|exact kD rfl|exact kX rfl) only[smY,simprocAttr,bl,i64,smE,hg];exact rfl));first|refine cB ?_|refine cC ?_|show lrun _ _ _ _ _ _ _ _ _)))
      apply zO (by decide+kernel)
      refine aS3 5 (by simp(disch:=first|omega|exact kD rfl|exact kX rfl) only[smY,simprocAttr,bl,i64,smE,hg];exact rfl) ?_
      simp only[List.drop_succ_cons,List.drop_zero]
      refine aNc (b:=3) (nn:=M.length) (cells:=ec M) (news:=[i64 (l.getD i 0*Q)]) (m:=1) (by decide) aY3 (z:=0) bPq bPr bPs (by simp(disch:=first|omega|exact kD rfl|exact kX rfl) only[smY,simprocAttr,bl,i64,smE,hg];try exact rfl) (by simp(disch:=first|omega|exact kD rfl|exact kX rfl) only[smY,simprocAttr,bl,i64,smE,hg];try exact rfl) (by rw[aQn];omega) (by simp(disch:=first|omega|exact kD rfl|exact kX rfl) only[smY,simprocAttr,bl,i64,smE,hg];try exact rfl) (by decide) (by rw[hM];omega) (by rw[aAc,hM];omega) ?_ ?_
      ·refine zA9 ?_
       refine⟨⟨(i+1,some X),by simp only;omega,hX⟩,?_,by simp only;omega⟩
       simp only[hs,st]
       refine Sub.heap (na:=2) (fun b=>([0,1,2,3]:List Nat).getD b 0) ?_ ?_ ?_ (by decide)
       ·simp only[aG,dg,renL,renLs,simprocAttr,bl,i64,smE,hg]
        try(simp only[LV.lit.injEq,Value.int.injEq,true_and,and_true,Int.pow_succ,Int.pow_zero,Int.one_mul];omega)
        try(simp;done)
        try(rw[wrap_i64 (by omega)];simp only[LV.lit.injEq,Value.int.injEq,true_and,and_true];omega)
       ·simp only[List.forall_mem_cons,List.not_mem_nil,false_imp_iff,implies_true,and_true]
        refine⟨⟨by decide,_,by simp(disch:=first|omega|exact kD rfl|exact kX rfl) only[smY,simprocAttr,bl,i64,smE,hg];exact rfl,?_⟩,⟨by decide,_,by simp(disch:=first|omega|exact kD rfl|exact kX rfl) only[smY,simprocAttr,bl,i64,smE,hg];exact rfl,?_⟩,⟨by decide,_,by simp(disch:=first|omega|exact kD rfl|exact kX rfl) only[smY,simprocAttr,bl,i64,smE,hg];exact rfl,?_⟩⟩
        ·simp only[aG,dg,renL,renLs,simprocAttr,bl,i64,smE,hg];try(first |rfl |(simp only[List.length_append,List.length_singleton,List.length_cons,List.length_nil];try rfl))
        ·simp only[aG,dg,renL,renLs,simprocAttr,bl,i64,smE,hg];try rfl
        ·simp only[aG,dg,renL,renLs,simprocAttr,bl,i64,smE,hg];try rfl
       ·intro p hp q hq
        simp only[List.mem_cons,List.not_mem_nil,or_false]at hp hq
        rcases hp with rfl |rfl |rfl <;>rcases hq with rfl |rfl |rfl <;>simp
      ·refine zA9 ?_
       refine⟨⟨(i+1,some X),by simp only;omega,hX⟩,?_,by simp only;omega⟩
       simp only[hs,st]
       refine Sub.heap (na:=2) (fun b=>([0,1,2,13]:List Nat).getD b 0) ?_ ?_ ?_ (by decide)
       ·simp only[aG,dg,renL,renLs,simprocAttr,bl,i64,smE,hg]
        try(simp only[LV.lit.injEq,Value.int.injEq,true_and,and_true,Int.pow_succ,Int.pow_zero,Int.one_mul];omega)
        try(simp;done)
        try(rw[wrap_i64 (by omega)];simp only[LV.lit.injEq,Value.int.injEq,true_and,and_true];omega)
       ·simp only[List.forall_mem_cons,List.not_mem_nil,false_imp_iff,implies_true,and_true]
        refine⟨⟨by decide,_,by simp(disch:=first|omega|exact kD rfl|exact kX rfl) only[smY,simprocAttr,bl,i64,smE,hg];exact rfl,?_⟩,⟨by decide,_,by simp(disch:=first|omega|exact kD rfl|exact kX rfl) only[smY,simprocAttr,bl,i64,smE,hg];exact rfl,?_⟩,⟨by decide,_,by simp(disch:=first|omega|exact kD rfl|exact kX rfl) only[smY,simprocAttr,bl,i64,smE,hg];exact rfl,?_⟩⟩
        ·simp only[aG,dg,renL,renLs,simprocAttr,bl,i64,smE,hg];try(first |rfl |(simp only[List.length_append,List.length_singleton,List.length_cons,List.length_nil];try rfl))
        ·simp only[aG,dg,renL,renLs,simprocAttr,bl,i64,smE,hg];try rfl
        ·simp only[aG,dg,renL,renLs,simprocAttr,bl,i64,smE,hg];try rfl
       ·intro p hp q hq
        simp only[List.mem_cons,List.not_mem_nil,or_false]at hp hq
        rcases hp with rfl |rfl |rfl <;>rcases hq with rfl |rfl |rfl <;>simp
    ·obtain rfl:i=l.length:=by omega
     rcases fl with _ |X
     ·simp only[st]
      rw[hl0]
      refine xM ?_
      refine⟨⟨j+1,by omega⟩,?_,by simp only;omega⟩
      simp only[hQ3,st]
      refine Sub.heap (na:=2) (fun b=>([0,1,2]:List Nat).getD b 0) ?_ ?_ ?_ (by decide)
      ·simp only[aG,dg,renL,renLs,simprocAttr,bl,i64,smE]
       try(simp only[LV.lit.injEq,Value.int.injEq,true_and,and_true,Int.pow_succ,Int.pow_zero,Int.one_mul];omega)
       try(simp;done)
       try(rw[wrap_i64 (by omega)];simp only[LV.lit.injEq,Value.int.injEq,true_and,and_true];omega)
      ·simp only[List.forall_mem_cons,List.not_mem_nil,false_imp_iff,implies_true,and_true]
       refine⟨⟨by decide,_,by simp(disch:=first|omega|exact kD rfl|exact kX rfl) only[smY,simprocAttr,bl,i64,smE];exact rfl,?_⟩,⟨by decide,_,by simp(disch:=first|omega|exact kD rfl|exact kX rfl) only[smY,simprocAttr,bl,i64,smE];exact rfl,?_⟩⟩
       ·simp only[aG,dg,renL,renLs,simprocAttr,bl,i64,smE];try(first |rfl |(simp only[List.length_append,List.length_singleton,List.length_cons,List.length_nil];try rfl))
       ·simp only[aG,dg,renL,renLs,simprocAttr,bl,i64,smE];try rfl
      ·intro p hp q hq
       simp only[List.mem_cons,List.not_mem_nil,or_false]at hp hq
       rcases hp with rfl |rfl <;>rcases hq with rfl |rfl <;>simp
     ·simp only[st]
      rw[hl0]
      refine xM ?_
      refine⟨⟨j+1,by omega⟩,?_,by simp only;omega⟩
      simp only[hQ3,st]
      refine Sub.heap (na:=2) (fun b=>([0,1,3]:List Nat).getD b 0) ?_ ?_ ?_ (by decide)
      ·simp only[aG,dg,renL,renLs,simprocAttr,bl,i64,smE]
       try(simp only[LV.lit.injEq,Value.int.injEq,true_and,and_true,Int.pow_succ,Int.pow_zero,Int.one_mul];omega)
       try(simp;done)
       try(rw[wrap_i64 (by omega)];simp only[LV.lit.injEq,Value.int.injEq,true_and,and_true];omega)
      ·simp only[List.forall_mem_cons,List.not_mem_nil,false_imp_iff,implies_true,and_true]
       refine⟨⟨by decide,_,by simp(disch:=first|omega|exact kD rfl|exact kX rfl) only[smY,simprocAttr,bl,i64,smE];exact rfl,?_⟩,⟨by decide,_,by simp(disch:=first|omega|exact kD rfl|exact kX rfl) only[smY,simprocAttr,bl,i64,smE];exact rfl,?_⟩⟩
       ·simp only[aG,dg,renL,renLs,simprocAttr,bl,i64,smE];try(first |rfl |(simp only[List.length_append,List.length_singleton,List.length_cons,List.length_nil];try rfl))
       ·simp only[aG,dg,renL,renLs,simprocAttr,bl,i64,smE];try rfl
      ·intro p hp q hq
       simp only[List.mem_cons,List.not_mem_nil,or_false]at hp hq
       rcases hp with rfl |rfl <;>rcases hq with rfl |rfl <;>simp
  ·obtain rfl:j=e:=by omega
   refine xM ?_
   exact⟨by simp only[iC];try rfl,rfl,Nat.le_of_ble_eq_true rfl⟩
end
section
open Go Go.Lg Go.Num
def aNf:List LV→Option (List Nat)
 |[]=>some []
 | .lit (.int .i64 (.ofNat d))::cs=>match aNf cs with
   |some ds=>bif Nat.ble d 1000 then some (d::ds)else none
   |none=>none
 |_=>none
def nI (l:List Nat):List Int:=l.map fun(d:Nat)=>(d:Int)
theorem vC:∀ {cs:List LV}{l:List Nat},aNf cs=some l→cs=ec (nI l)∧∀ i,i<l.length→0≤(nI l).getD i 0∧(nI l).getD i 0≤1000
 |[],l,h=>by cases h;exact⟨rfl,by simp⟩
 |c::cs,l,h=>by
  unfold aNf at h
  split at h
  · simp_all
  · rename_i d cs' he
    simp only[List.cons.injEq]at he
    obtain⟨rfl,rfl⟩:=he
    split at h
    · rename_i ds hds
      cases hb:Nat.ble d 1000 with
      |true=>
       rw[hb,cond_true]at h
       cases h
       obtain⟨e1,e2⟩:=vC hds
       rw[e1]
       refine⟨rfl,fun i hi=> ?_⟩
       have:=Nat.le_of_ble_eq_true hb
       cases i with
       |zero=>simp[nI];omega
       |succ i=>simpa[nI]using e2 i (by simpa using hi)
      |false=>rw[hb,cond_false]at h;cases h
    · cases h
  · cases h
def aQp (l:List Nat) (p:Nat):Nat→List Nat
 |0=>l
 |j+1=>aQp l p j++l.map (· *p^(j+1))
theorem aS5 (l:List Nat) (p:Nat):∀ j,pP (nI l) (p:Int) j=nI (aQp l p j)
 |0=>rfl
 |j+1=>by
  rw[pP,aQp,aS5 l p j]
  simp[nI,Function.comp_def]
def aHn:List Nat→List LV
 |[]=>[]
 |d::l=> .lit (.int .i64 (.ofNat d))::aHn l
theorem yU:∀ l:List Nat,aHn l=ec (nI l)
 |[]=>rfl
 |d::l=>by rw[aHn,yU l];rfl
noncomputable def aQq (args:List LV) (hp:List (Nat×Blk)) (nb:Nat):Option (LV×List (Nat×Blk)×Nat):=
 match args with
 |[.lit (.int .i64 (.ofNat p)),.lit (.int .i64 (.ofNat e)),.ptr c o]=>match yD hp c with
  |some ⟨ts,[.own b o' n sz],false⟩=>match yD hp b with
   |some ⟨te,cells,false⟩=>match aNf cells with
    |some l=>bif Nat.beq o 0 && Nat.beq o' 0 && Nat.beq sz 1 && Nat.beq ts 23 && Nat.beq te 3 && Nat.beq n l.length && !(Nat.beq c b) && Nat.ble 1 p && Nat.ble p 1000 && Nat.ble e 1000 && Nat.ble (p^e) 1000 && Nat.ble l.length 1000 && Nat.ble (l.length*(e+1)) 100000 then
        fLs (aHn (aQp l p e)) fun cs=>eB (aQp l p e).length fun n'=>eB nb fun nb=>some (.tup [],(nb,⟨3,cs,false⟩)::(c,⟨23,[.own nb 0 n' 1],false⟩)::aMl hp b,nb+1)else none
    |none=>none
   |_=>none
  |_=>none
 |_=>none
theorem aWh {args:List LV}{hp hp':List (Nat×Blk)}{nb nb':Nat}{r:LV}(h:aQq args hp nb=some (r,hp',nb')):nb≤nb'∧mI Tryz.prog 251 args (yD hp) nb r (yD hp') nb':=by
 unfold aQq at h
 split at h
 ·rename_i p e c o
  split at h
  ·rename_i ts b o' n sz hc
   split at h
   ·rename_i te cells hb
    split at h
    ·rename_i l hl
     generalize hcond:(Nat.beq o 0 && Nat.beq o' 0 && Nat.beq sz 1 && Nat.beq ts 23 && Nat.beq te 3 && Nat.beq n l.length && !(Nat.beq c b) && Nat.ble 1 p && Nat.ble p 1000 && Nat.ble e 1000 && Nat.ble (p^e) 1000 && Nat.ble l.length 1000 && Nat.ble (l.length*(e+1)) 100000)=q at h
     cases q with
     |false=>rw[cond_false]at h;cases h
     |true=>
      rw[cond_true,aI8,cR,cR]at h
      cases h
      simp only[Bool.and_eq_true,Bool.not_eq_true',Nat.beq_eq,Nat.ble_eq]at hcond
      obtain⟨⟨⟨⟨⟨⟨⟨⟨⟨⟨⟨⟨rfl,rfl⟩,rfl⟩,rfl⟩,rfl⟩,rfl⟩,hne⟩,c1⟩,c2⟩,c3⟩,c4⟩,c5⟩,c6⟩:=hcond
      obtain⟨rfl,e2⟩:=vC hl
      have hcb:c≠b:=fun e=>by subst e;simp at hne
      have ll:(nI l).length=l.length:=by simp[nI]
      have hg:=aQo (nI l) p e ⟨c1,c2⟩ c3 c4 (by rw[ll];exact c5) (by rw[ll];exact c6) (fun i hi=>e2 i (by rw[← ll];exact hi))
      rw[aS5,ll]at hg
      have hf:=bA6 (h:=yD hp) (c:=c) (b:=b) (nb:=nb) hg (by simp[aB,i64]) rfl (vB _) (vB _) hc hb hcb
      refine⟨Nat.le_succ _,?_⟩
      rw[iU,iU,yE,yU]
      have e3:(nI (aQp l p e)).length=(aQp l p e).length:=by simp[nI]
      rw[e3]at hf
      exact hf
    ·cases h
   ·cases h
  ·cases h
 ·cases h
noncomputable def horc:Callf:=fun f args hp nb=>bif Nat.beq f 251 then aQq args hp nb else none
theorem bH5:rI Tryz.prog horc:=by
 intro f args hp nb r hp' nb' h
 unfold horc at h
 cases hb:Nat.beq f 251 with
 |true=>
  rw[hb,cond_true]at h
  rw[Nat.eq_of_beq_eq_true hb]
  exact aWh h
 |false=>rw[hb,cond_false]at h;cases h
end
section
open Go Go.Lg Go.Num
def aS6 (g:Rat→Rat) (args:List LV):Option LV:=
 match args with
 |[.agg l]=>match rdQ l with
  |some x=>fQ (g x) fun r=>bif dL x && dL r then some (wrQ r)else none
  |_=>none
 |_=>none
theorem bBb {fid:FuncId}{g:Rat→Rat}(hg:∀ p,lq p≤34359738368→PureGood Tryz.prog fid [bF p] (bF (g p))) {args:List LV}{r:LV}(h:aS6 g args=some r):PureGood Tryz.prog fid args r:=by
 unfold aS6 at h
 split at h
 ·split at h
  ·rename_i l x h1
   rw[aM8]at h
   cases hb:(dL x && dL (g x))with
   |true=>
    rw[hb]at h
    simp only[Bool.and_eq_true]at hb
    cases h
    have hx:=eG hb.1
    rw[aAv hb.2,tY h1]
    exact hg x (by omega)
   |false=>rw[hb]at h;cases h
  ·cases h
 ·cases h
def aJp (args:List LV):Option LV:=
 match args with
 |[.agg l]=>match rdQ l with
  |some x=>iI x.num.sign fun r=>bif dL x then some (.lit (.int .i64 r))else none
  |_=>none
 |_=>none
theorem aWi {fid:FuncId}(hg:∀ p:Rat,lq p≤34359738368→PureGood Tryz.prog fid [bF p] (i64 p.num.sign)) {args:List LV}{r:LV}(h:aJp args=some r):PureGood Tryz.prog fid args r:=by
 unfold aJp at h
 split at h
 ·split at h
  ·rename_i l x h1
   rw[cV]at h
   cases hb:dL x with
   |true=>
    rw[hb]at h
    cases h
    have hx:=eG hb
    rw[tY h1]
    exact hg x (by omega)
   |false=>rw[hb]at h;cases h
  ·cases h
 ·cases h
def aS7 (args:List LV):Option LV:=
 match args with
 |[.agg [a,b]]=>match rdI a b with
  |some z=>bif eT z then some (.agg (wrI z++wrI 1))else none
  |_=>none
 |_=>none
theorem aQr {z:Int}(h:eT z=true):LV.agg (wrI z++wrI 1)=bF z:=by
 have e:=pC h
 have e1:=pC (z:=1) (by decide+kernel)
 rw[aW]at e e1
 injection e with e
 injection e1 with e1
 rw[e,e1,aH]
 rfl
theorem bBc {args:List LV}{r:LV}(h:aS7 args=some r):PureGood Tryz.prog 87 args r:=by
 unfold aS7 at h
 split at h
 ·split at h
  ·rename_i a b z h1
   cases hb:eT z with
   |true=>
    rw[hb]at h
    cases h
    obtain⟨rfl,rfl⟩:=jT h1
    have hx:=kS hb
    rw[aQr hb]
    have:=nQ z (by omega)
    rwa [aW]at this
   |false=>rw[hb]at h;cases h
  ·cases h
 ·cases h
def aAx (args:List LV):Option LV:=
 match args with
 |[.lit (.int .i64 z)]=>bif Nat.ble z.natAbs 1000000 then some (.agg (wrI z++wrI 1))else none
 |_=>none
theorem aB5 {z:Int}(h:z.natAbs≤1000000):eT z=true:=by
 unfold eT
 rw[Nat.ble_eq]
 have:(1000001:Nat)≤4294967296^100:=by decide+kernel
 omega
theorem aHo {fid:FuncId}(hg:∀ n:Int,-9223372036854775808≤n∧n≤9223372036854775807→PureGood Tryz.prog fid [i64 n] (bF n)) {args:List LV}{r:LV}(h:aAx args=some r):PureGood Tryz.prog fid args r:=by
 unfold aAx at h
 split at h
 ·rename_i z
  cases hb:Nat.ble z.natAbs 1000000 with
  |true=>
   rw[hb]at h
   cases h
   have hz:=Nat.le_of_ble_eq_true hb
   rw[aQr (aB5 hz)]
   exact hg z (by omega)
  |false=>rw[hb]at h;cases h
 ·cases h
def aJq (args:List LV):Option LV:=
 match args with
 |[.lit (.int .i64 z)]=>bif Nat.ble z.natAbs 1000000 then some (.agg (wrI z))else none
 |_=>none
theorem aWj {fid:FuncId}(hg:∀ n:Int,-9223372036854775808≤n∧n≤9223372036854775807→PureGood Tryz.prog fid [i64 n] (aO n)) {args:List LV}{r:LV}(h:aJq args=some r):PureGood Tryz.prog fid args r:=by
 unfold aJq at h
 split at h
 ·rename_i z
  cases hb:Nat.ble z.natAbs 1000000 with
  |true=>
   rw[hb]at h
   cases h
   have hz:=Nat.le_of_ble_eq_true hb
   rw[pC (aB5 hz)]
   exact hg z (by omega)
  |false=>rw[hb]at h;cases h
 ·cases h
def bN2 (f:FuncId) (args:List LV):Option LV:=bif Nat.beq f 138 then aS6 (fun q=>q) args else bif Nat.beq f 21 then aJp args else bif Nat.beq f 87 then aS7 args else bif Nat.beq f 73 then aAx args else bif Nat.beq f 123 then aJq args else bif Nat.beq f 50 then aAx args else bU9 f args
theorem bBd:fR Tryz.prog bN2:=by
 intro f args r h
 exact aU (f0:=138) (g:=aS6 (fun q=>q)) (fun _ _ h=>bBb (g:=fun q=>q) (fun q hq=>gV q (by omega)) h)
  (aU (f0:=21) (g:=aJp) (fun _ _ h=>aWi (fun q hq=>kM q (by omega)) h)
  (aU (f0:=87) (g:=aS7) (fun _ _ h=>bBc h)
  (aU (f0:=73) (g:=aAx) (fun _ _ h=>aHo (fun n hn=>gW n hn) h)
  (aU (f0:=123) (g:=aJq) (fun _ _ h=>aWj (fun n hn=>jP n hn) h)
  (aU (f0:=50) (g:=aAx) (fun _ _ h=>aHo (fun n hn=>fD n hn) h) aS4))))) f args r h
def cKn (f:FuncId):Nat:=bif Nat.beq f 219 ||Nat.beq f 126 then 2 else 0
noncomputable def evo (o:FuncId→List LV→Option LV) (f:Nat) (args:List LV):Option LV:=bHz Tryz.prog o horc cKn [33,18,290] 600 f args
theorem dE {o:FuncId→List LV→Option LV}(ho:fR Tryz.prog o) {f:Nat}{args:List LV}{r:LV}(h:evo o f args=some r):PureGood Tryz.prog f args r:=aEx bC ho bH5 aHl h
end
section
open Go Go.Lg Go.Num
attribute [local irreducible] lrun lwp exThen exBlk keep goodPost
theorem qH (a b:Int) (ha: -9223372036854775807≤a∧a≤9223372036854775807) (hb: -9223372036854775807≤b∧b≤9223372036854775807):PureGood Tryz.prog 134 [i64 a,i64 b] (i64 (Int.gcd a b)):=by
 generalize hgg:Int.gcd a b=g
 have hgb:(g:Int)≤9223372036854775807:=by
  rw[← hgg]
  by_cases h0:a=0
  ·subst h0
   rw[Int.gcd_zero_left]
   omega
  ·have:Int.gcd a b≤a.natAbs:=Nat.le_of_dvd (by omega) (Nat.gcd_dvd_left _ _)
   omega
 simp only[i64]
 refine aA bC Tryz.func134 rfl (by decide) (nt:=15) rfl (rs:=[.tmp 4]) rfl (aZ rfl) ?_
 refine zA4 ?_
 refine aI (α:={p:Int×Int // Int.gcd p.1 p.2=g∧(-9223372036854775807≤p.1∧p.1≤9223372036854775807)∧(-9223372036854775807≤p.2∧p.2≤9223372036854775807)}) (fun p=>st 15 (lk [(0,i64 p.1.1),(1,i64 p.1.2)]) (cP []) 0) (fun p=>p.1.2.natAbs) ⟨(a,b),hgg,ha,hb⟩ ?_ ?_
 ·exact zP1
 ·rintro⟨⟨x,y⟩,hg,hx,hy⟩
  simp only at hg hx hy
  simp only[st]
  by_cases hy0:y=0
  ·subst hy0
   rw[Int.gcd_zero_right]at hg
   have hmx:(if(0:Int)>(if 0-x>x then 0-x else x)then 0 else(if 0-x>x then 0-x else x))=(g:Int):=by split <;>split <;>omega
   refine aAf hmx ?_
   exact aPh hmx
  ·have hmod:(x.tmod y).natAbs=x.natAbs % y.natAbs:=Int.natAbs_tmod x y
   have hlt:x.natAbs % y.natAbs<y.natAbs:=Nat.mod_lt _ (by omega)
   have hgn:Int.gcd y (x.tmod y)=g:=by
    rw[← hg]
    unfold Int.gcd
    rw[hmod,Nat.gcd_comm x.natAbs,Nat.gcd_rec y.natAbs x.natAbs,Nat.gcd_comm]
   refine zA4 ?_
   refine⟨⟨(y,x.tmod y),hgn,hy,by simp only;omega⟩,?_,by simp only;omega⟩
   exact zP1
theorem nY (a b:Int) (ha: -9223372036854775807≤a∧a≤9223372036854775807) (hb: -9223372036854775807≤b∧b≤9223372036854775807):PureGood Tryz.prog 147 [i64 a,i64 b] (i64 (Int.gcd a b)):=by
 generalize hgg:Int.gcd a b=g
 have hgb:(g:Int)≤9223372036854775807:=by
  rw[← hgg]
  by_cases h0:a=0
  ·subst h0
   rw[Int.gcd_zero_left]
   omega
  ·have:Int.gcd a b≤a.natAbs:=Nat.le_of_dvd (by omega) (Nat.gcd_dvd_left _ _)
   omega
 simp only[i64]
 refine aA bC Tryz.func147 rfl (by decide) (nt:=15) rfl (rs:=[.tmp 4]) rfl (aZ rfl) ?_
 refine zA4 ?_
 refine aI (α:={p:Int×Int // Int.gcd p.1 p.2=g∧(-9223372036854775807≤p.1∧p.1≤9223372036854775807)∧(-9223372036854775807≤p.2∧p.2≤9223372036854775807)}) (fun p=>st 15 (lk [(0,i64 p.1.1),(1,i64 p.1.2)]) (cP []) 0) (fun p=>p.1.2.natAbs) ⟨(a,b),hgg,ha,hb⟩ ?_ ?_
 ·exact zP1
 ·rintro⟨⟨x,y⟩,hg,hx,hy⟩
  simp only at hg hx hy
  simp only[st]
  by_cases hy0:y=0
  ·subst hy0
   rw[Int.gcd_zero_right]at hg
   have hmx:(if 0-x>x then 0-x else x)=(g:Int):=by split <;>omega
   refine aAf hmx ?_
   exact aPh hmx
  ·have hmod:(x.tmod y).natAbs=x.natAbs % y.natAbs:=Int.natAbs_tmod x y
   have hlt:x.natAbs % y.natAbs<y.natAbs:=Nat.mod_lt _ (by omega)
   have hgn:Int.gcd y (x.tmod y)=g:=by
    rw[← hg]
    unfold Int.gcd
    rw[hmod,Nat.gcd_comm x.natAbs,Nat.gcd_rec y.natAbs x.natAbs,Nat.gcd_comm]
   refine zA4 ?_
   refine⟨⟨(y,x.tmod y),hgn,hy,by simp only;omega⟩,?_,by simp only;omega⟩
   exact zP1
def phN (n:Nat):Nat→Nat
 |0=>0
 |u+1=>phN n u+(if Nat.gcd (u+1) n=1 then 1 else 0)
theorem bBe (n:Nat):∀ u,phN n u≤u
 |0=>Nat.le_refl _
 |u+1=>by
  have:=bBe n u
  rw[phN]
  split <;>omega
theorem aQs (n:Nat) (hn:n≤1000000):PureGood Tryz.prog 63 [i64 n] (i64 (phN n n)):=by
 simp only[i64]
 refine aA bC Tryz.func63 rfl (by decide) (nt:=17) rfl (rs:=[.tmp 2]) rfl (aZ rfl) ?_
 refine zA4 ?_
 refine aI (α:={u:Nat // u≤n}) (fun u=>st 17 (lk [(0,i64 n),(3,i64 (phN n u.1)),(4,i64 ((u.1+1:Nat):Int))]) (cP []) 0) (fun u=>n-u.1) ⟨0,by omega⟩ ?_ ?_
 ·(refine Sub.plain ?_;simp only[aG,dg,renL,renLs,simprocAttr,bl,i64])
  exact⟨trivial,rfl⟩
 ·rintro⟨u,hu⟩
  simp only[st]
  have hle:=bBe n u
  by_cases hlt:u<n
  ·have g:=nY ((u+1:Nat):Int) n (by omega) (by omega)
   have hgn:Int.gcd ((u+1:Nat):Int) (n:Int)=Nat.gcd (u+1) n:=rfl
   rw[hgn]at g
   have e:phN n (u+1)=_:=phN.eq_2 n u
   simp only[i64]at g
   by_cases h1:Nat.gcd (u+1) n=1
   ·rw[if_pos h1]at e
    rw[h1]at g
    refine zA4 ?_
    refine⟨⟨u+1,by omega⟩,?_,by simp only;omega⟩
    (refine Sub.plain ?_;simp only[aG,dg,renL,renLs,simprocAttr,bl,i64])
    rw[e]
    exact⟨trivial,by simp⟩
   ·rw[if_neg h1]at e
    have h1':¬((Nat.gcd (u+1) n:Nat):Int)=1:=by omega
    generalize Nat.gcd (u+1) n=gg at*
    refine zA4 ?_
    refine⟨⟨u+1,by omega⟩,?_,by simp only;omega⟩
    (refine Sub.plain ?_;simp only[aG,dg,renL,renLs,simprocAttr,bl,i64])
    rw[e]
    exact⟨trivial,by simp⟩
  ·obtain rfl:u=n:=by omega
   refine zA4 ?_
   exact zQ7
def aAy (args:List LV):Option LV:=match args with
 |[.lit (.int .i64 a),.lit (.int .i64 b)]=>bif Nat.ble a.natAbs 9223372036854775807 && Nat.ble b.natAbs 9223372036854775807 then eB (Nat.gcd a.natAbs b.natAbs) fun g=>some (.lit (.int .i64 (.ofNat g)))else none
 |_=>none
theorem aHp {fid:FuncId}(hg:∀ a b:Int,(-9223372036854775807≤a∧a≤9223372036854775807)→(-9223372036854775807≤b∧b≤9223372036854775807)→PureGood Tryz.prog fid [i64 a,i64 b] (i64 (Int.gcd a b))) {args:List LV}{r:LV}(h:aAy args=some r):PureGood Tryz.prog fid args r:=by
 unfold aAy at h
 split at h
 ·rename_i a b
  cases hb:(Nat.ble a.natAbs 9223372036854775807 && Nat.ble b.natAbs 9223372036854775807)with
  |true=>
   rw[hb,cond_true,cR]at h
   cases h
   rw[Bool.and_eq_true,Nat.ble_eq,Nat.ble_eq]at hb
   exact hg a b (by omega) (by omega)
  |false=>rw[hb]at h;cases h
 ·cases h
def phK (n:Nat):Nat:=Nat.rec (motive:=fun _=>Nat→Nat) (fun a=>a) (fun u ih a=>ih (eB (bif Nat.beq (Nat.gcd (Nat.succ u) n) 1 then Nat.succ a else a) id)) n 0
theorem bBf (n:Nat):phK n=phN n n:=by
 have key:∀ (u a:Nat),Nat.rec (motive:=fun _=>Nat→Nat) (fun a=>a) (fun u ih a=>ih (eB (bif Nat.beq (Nat.gcd (Nat.succ u) n) 1 then Nat.succ a else a) id)) u a=phN n u+a:=by
  intro u
  induction u with
  |zero=>intro a;show a=_;simp[phN]
  |succ u ih=>
   intro a
   show Nat.rec (motive:=fun _=>Nat→Nat) (fun a=>a) (fun u ih a=>ih (eB (bif Nat.beq (Nat.gcd (Nat.succ u) n) 1 then Nat.succ a else a) id)) u (eB (bif Nat.beq (Nat.gcd (Nat.succ u) n) 1 then Nat.succ a else a) id)=_
   rw[ih,cR,phN]
   by_cases h:Nat.gcd (u+1) n=1
   · rw[if_pos h,show Nat.beq (Nat.gcd (Nat.succ u) n) 1=true from by rw[Nat.beq_eq];exact h]
     simp only[cond_true,id]
     omega
   · rw[if_neg h,show Nat.beq (Nat.gcd (Nat.succ u) n) 1=false from Bool.eq_false_iff.2 (fun e=>h (Nat.eq_of_beq_eq_true e))]
     simp only[cond_false,id]
     omega
 exact key n 0
def aJr (args:List LV):Option LV:=match args with
 |[.lit (.int .i64 (.ofNat n))]=>bif Nat.ble n 1000000 then eB (phK n) fun k=>some (.lit (.int .i64 (.ofNat k)))else none
 |_=>none
theorem aWk {args:List LV}{r:LV}(h:aJr args=some r):PureGood Tryz.prog 63 args r:=by
 unfold aJr at h
 split at h
 ·rename_i n
  cases hb:Nat.ble n 1000000 with
  |true=>
   rw[hb,cond_true,cR]at h
   cases h
   rw[Nat.ble_eq]at hb
   rw[bBf]
   exact aQs n hb
  |false=>rw[hb]at h;cases h
 ·cases h
def bH6 (f:FuncId) (args:List LV):Option LV:=bif Nat.beq f 134 then aAy args else bif Nat.beq f 147 then aAy args else bif Nat.beq f 63 then aJr args else bN2 f args
theorem aJs:fR Tryz.prog bH6:=by
 intro f args r h
 exact aU (f0:=134) (g:=aAy) (fun _ _ h=>aHp qH h) (aU (f0:=147) (g:=aAy) (fun _ _ h=>aHp nY h) (aU (f0:=63) (g:=aJr) (fun _ _ h=>aWk h) bBd)) f args r h
end
section
open Go Go.Lg Go.Num
def eqI:List LV→List Nat→Bool
 |[],[]=>true
 | .lit (.int .i64 (.ofNat d))::cs,e::es=>Nat.beq d e && eqI cs es
 |_,_=>false
theorem bBg:∀ {cs:List LV}{l:List Nat},eqI cs l=true→cs=ec (l.map fun(d:Nat)=>(d:Int))
 |[],[],_=>rfl
 |[],_::_,h=>by cases h
 |c::cs,[],h=>by unfold eqI at h;split at h <;>simp_all
 |c::cs,e::es,h=>by
  unfold eqI at h
  split at h
  · simp_all
  · rename_i h1 h2
    rw[Bool.and_eq_true]at h
    simp only[List.cons.injEq]at h1 h2
    obtain⟨rfl,rfl⟩:=h1
    obtain⟨rfl,rfl⟩:=h2
    obtain rfl:=Nat.eq_of_beq_eq_true h.1
    rw[bBg h.2]
    rfl
  · cases h
def ptT:List (List Nat):=[[],[],[],[2,2,3],[3,2,4],[2,4,5],[2,2,3],[3,6,7],[7,2,8,5,2,8],[2,6,9],[2,4,5],[2,10,11],[3,2,4,2,2,3],[2,12,13],[3,6,7],[2,2,3,2,4,5],[15,2,16,5,4,16],[3,16,17],[2,6,9],[2,18,19],[3,2,4,2,4,5],[2,2,3,3,6,7],[2,10,11],[5,22,23],[7,2,8,5,2,8,2,2,3],[2,20,25],[2,12,13],[2,18,27],[3,2,4,3,6,7],[2,28,29],[2,2,3,2,4,5],[3,30,31],[31,2,32,5,8,32],[2,2,3,2,10,11],[3,16,17],[2,4,5,3,6,7],[3,2,4,2,6,9],[2,36,37],[2,18,19],[2,2,3,2,12,13],[7,2,8,5,2,8,2,4,5],[6,40,41],[2,2,3,3,6,7],[3,42,43],[3,2,4,2,10,11],[2,6,9,2,4,5],[5,22,23],[5,46,47],[15,2,16,5,4,16,2,2,3],[3,42,49],[2,20,25],[2,2,3,3,16,17],[3,2,4,2,12,13],[2,52,53],[2,18,27],[2,4,5,2,10,11],[7,2,8,5,2,8,3,6,7],[2,2,3,2,18,19],[2,28,29],[2,58,59],[3,2,4,2,2,3,2,4,5]]
def gnT:List (List Nat):=[[],[],[],[2],[3],[2],[5],[3],[7,5],[2],[7],[2],[7,5],[2],[3],[11,7],[15,5],[3],[11],[2],[11,17],[8,10],[13],[5],[7,13,17],[2],[15],[2],[15,17],[2],[11,7],[3],[31,5],[23,13],[3],[22,31],[19,29],[2],[21],[14,28],[31,21,17],[6],[29,31],[3],[23,13],[11,37],[5],[5],[31,37,17],[3],[27],[35,37],[27,41],[2],[29],[12,46],[15,29,17],[20,40],[31],[2],[31,41,37]]
def orT:List (List Nat):=[[],[],[],[2],[2],[4],[2],[6],[2,2],[6],[4],[10],[2,2],[12],[6],[2,4],[2,4],[16],[6],[18],[2,4],[2,6],[10],[22],[2,2,2],[20],[12],[18],[2,6],[28],[2,4],[30],[2,8],[2,10],[16],[4,6],[2,6],[36],[18],[2,12],[2,2,4],[40],[2,6],[42],[2,10],[6,4],[22],[46],[2,4,2],[42],[20],[2,16],[2,12],[52],[18],[4,10],[2,2,6],[2,18],[28],[58],[2,2,4]]
def pt (m:Nat):List Nat:=ptT.getD m []
def gn (m:Nat):List Nat:=gnT.getD m []
def od (m:Nat):List Nat:=orT.getD m []
def nlv (k:Nat) (l:List Nat):LV:= .sl k (aHn l)
theorem nZ (k:Nat) (l:List Nat):nlv k l= .sl k (ec (nI l)):=by rw[nlv,yU]
def isN (k:Nat) (l:List Nat) (v:LV):Bool:=match v with
 | .sl k' cs=>Nat.beq k k' && eqI cs l
 |_=>false
theorem aJt {k:Nat}{l:List Nat}{v:LV}(h:isN k l v=true):v=nlv k l:=by
 unfold isN at h
 split at h
 ·rw[Bool.and_eq_true]at h
  have e1:=Nat.eq_of_beq_eq_true h.1
  have e2:=bBg h.2
  rw[e2,e1,nZ]
  rfl
 ·cases h
noncomputable def bBh (m:Nat):Bool:=match evo bH6 133 [.lit (.int .i64 (.ofNat m))]with
 |some v=>isN (od m).length (pt m) v
 |none=>false
noncomputable def bBi (m:Nat):Bool:=match evo bH6 145 [.lit (.int .i64 (.ofNat m))]with
 |some (.tup [v,w])=>isN (od m).length (gn m) v && isN (od m).length (od m) w
 |_=>false
noncomputable def cF (m:Nat):Bool:=bBh m && bBi m
end
section
open Go Go.Lg Go.Num
theorem cKp:cF 1=true:=by kernel_rfl
theorem cKq:cF 2=true:=by kernel_rfl
theorem cKr:cF 3=true:=by kernel_rfl
theorem cKs:cF 4=true:=by kernel_rfl
theorem cKt:cF 5=true:=by kernel_rfl
theorem cKu:cF 6=true:=by kernel_rfl
theorem cKv:cF 7=true:=by kernel_rfl
theorem cKw:cF 8=true:=by kernel_rfl
theorem cKx:cF 9=true:=by kernel_rfl
theorem cD1:cF 10=true:=by kernel_rfl
theorem cD2:cF 11=true:=by kernel_rfl
theorem cD3:cF 12=true:=by kernel_rfl
theorem cD4:cF 13=true:=by kernel_rfl
theorem cD5:cF 14=true:=by kernel_rfl
theorem cD6:cF 15=true:=by kernel_rfl
theorem cD7:cF 16=true:=by kernel_rfl
theorem cD8:cF 17=true:=by kernel_rfl
theorem cD9:cF 18=true:=by kernel_rfl
theorem cEa:cF 19=true:=by kernel_rfl
theorem cEb:cF 20=true:=by kernel_rfl
end
section
open Go Go.Lg Go.Num
theorem cEc:cF 21=true:=by kernel_rfl
theorem cEd:cF 22=true:=by kernel_rfl
theorem cEe:cF 23=true:=by kernel_rfl
theorem cEf:cF 24=true:=by kernel_rfl
theorem cEg:cF 25=true:=by kernel_rfl
theorem cEh:cF 26=true:=by kernel_rfl
theorem cEi:cF 27=true:=by kernel_rfl
theorem cEj:cF 28=true:=by kernel_rfl
theorem cEk:cF 29=true:=by kernel_rfl
theorem cEl:cF 30=true:=by kernel_rfl
theorem cEm:cF 31=true:=by kernel_rfl
theorem cEn:cF 32=true:=by kernel_rfl
theorem cEo:cF 33=true:=by kernel_rfl
theorem cEp:cF 34=true:=by kernel_rfl
theorem cEq:cF 35=true:=by kernel_rfl
theorem cEr:cF 36=true:=by kernel_rfl
theorem cEs:cF 37=true:=by kernel_rfl
theorem cEt:cF 38=true:=by kernel_rfl
theorem cEu:cF 39=true:=by kernel_rfl
theorem cEv:cF 40=true:=by kernel_rfl
end
section
open Go Go.Lg Go.Num
theorem cEw:cF 41=true:=by kernel_rfl
theorem cEx:cF 42=true:=by kernel_rfl
theorem cEy:cF 43=true:=by kernel_rfl
theorem cEz:cF 44=true:=by kernel_rfl
theorem cE0:cF 45=true:=by kernel_rfl
theorem cE1:cF 46=true:=by kernel_rfl
theorem cE2:cF 47=true:=by kernel_rfl
theorem cE3:cF 48=true:=by kernel_rfl
theorem cE4:cF 49=true:=by kernel_rfl
theorem cE5:cF 50=true:=by kernel_rfl
theorem cE6:cF 51=true:=by kernel_rfl
theorem cE7:cF 52=true:=by kernel_rfl
theorem cE8:cF 53=true:=by kernel_rfl
theorem cE9:cF 54=true:=by kernel_rfl
theorem cFa:cF 55=true:=by kernel_rfl
theorem cFb:cF 56=true:=by kernel_rfl
theorem cFc:cF 57=true:=by kernel_rfl
theorem cFd:cF 58=true:=by kernel_rfl
theorem cFe:cF 59=true:=by kernel_rfl
theorem cFf:cF 60=true:=by kernel_rfl
end
section
open Go Go.Lg Go.Num
theorem bVe:∀ m∈[1,2,3,4,5,6,7,8,9,10,11,12,13,14,15,16,17,18,19,20,21,22,23,24,25,26,27,28,29,30,31,32,33,34,35,36,37,38,39,40,41,42,43,44,45,46,47,48,49,50,51,52,53,54,55,56,57,58,59,60],cF m=true:=by
 simp only[List.forall_mem_cons]
 exact⟨cKp,cKq,cKr,cKs,cKt,cKu,cKv,cKw,cKx,cD1,cD2,cD3,cD4,cD5,cD6,cD7,cD8,cD9,cEa,cEb,cEc,cEd,cEe,cEf,cEg,cEh,cEi,cEj,cEk,cEl,cEm,cEn,cEo,cEp,cEq,cEr,cEs,cEt,cEu,cEv,cEw,cEx,cEy,cEz,cE0,cE1,cE2,cE3,cE4,cE5,cE6,cE7,cE8,cE9,cFa,cFb,cFc,cFd,cFe,cFf,by simp⟩
theorem bBj {m:Nat}(h1:1≤m) (h2:m≤60):bBh m=true∧bBi m=true:=by
 have h:=bVe m (by
  have:m∈List.range' 1 60:=by rw[List.mem_range'_1];omega
  exact this)
 exact(Bool.and_eq_true _ _ ▸ h)
theorem xH {m:Nat}(h1:1≤m) (h2:m≤60):PureGood Tryz.prog 133 [i64 m] (nlv (od m).length (pt m)):=by
 have h:=(bBj h1 h2).1
 unfold bBh at h
 split at h
 ·rename_i v e
  rw[← aJt h]
  exact dE aJs e
 ·cases h
theorem aAz {m:Nat}(h1:1≤m) (h2:m≤60):PureGood Tryz.prog 145 [i64 m] (.tup [nlv (od m).length (gn m),nlv (od m).length (od m)]):=by
 have h:=(bBj h1 h2).2
 unfold bBi at h
 split at h
 ·rename_i v w e
  rw[Bool.and_eq_true]at h
  rw[← aJt h.1,← aJt h.2]
  exact dE aJs e
 ·cases h
def aS8 (args:List LV):Option LV:=match args with
 |[.lit (.int .i64 (.ofNat m))]=>bif Nat.ble 1 m && Nat.ble m 60 then some (nlv (od m).length (pt m))else none
 |_=>none
def aS9 (args:List LV):Option LV:=match args with
 |[.lit (.int .i64 (.ofNat m))]=>bif Nat.ble 1 m && Nat.ble m 60 then some (.tup [nlv (od m).length (gn m),nlv (od m).length (od m)])else none
 |_=>none
theorem bBk {args:List LV}{r:LV}(h:aS8 args=some r):PureGood Tryz.prog 133 args r:=by
 unfold aS8 at h
 split at h
 ·rename_i m
  cases hb:(Nat.ble 1 m && Nat.ble m 60)with
  |true=>
   rw[hb]at h
   cases h
   rw[Bool.and_eq_true,Nat.ble_eq,Nat.ble_eq]at hb
   exact xH hb.1 hb.2
  |false=>rw[hb]at h;cases h
 ·cases h
theorem bBl {args:List LV}{r:LV}(h:aS9 args=some r):PureGood Tryz.prog 145 args r:=by
 unfold aS9 at h
 split at h
 ·rename_i m
  cases hb:(Nat.ble 1 m && Nat.ble m 60)with
  |true=>
   rw[hb]at h
   cases h
   rw[Bool.and_eq_true,Nat.ble_eq,Nat.ble_eq]at hb
   exact aAz hb.1 hb.2
  |false=>rw[hb]at h;cases h
 ·cases h
def cFg (f:FuncId) (args:List LV):Option LV:=bif Nat.beq f 133 then aS8 args else bif Nat.beq f 145 then aS9 args else bH6 f args
theorem aTa:fR Tryz.prog cFg:=by
 intro f args r h
 exact aU (f0:=133) (g:=aS8) (fun _ _ h=>bBk h) (aU (f0:=145) (g:=aS9) (fun _ _ h=>bBl h) aJs) f args r h
end
end Go.Proofs.YtaidcaemdkncgaaGreatDoor
namespace Go.Num
def bP:List Nat→List (List Nat)
 |[]=>[[]]
 |o::os=>(List.range o).flatMap fun k=>(bP os).map (k:: ·)
theorem aHq:∀ (os l:List Nat),l.length=os.length→(∀ i,i<l.length→l.getD i 0<os.getD i 0)→l∈bP os
 |[],[],_,_=>by simp[bP]
 |[],_::_,h,_=>by simp at h
 |_::_,[],h,_=>by simp at h
 |o::os,k::l,h,hi=>by
  have h0:=hi 0 (by simp)
  have hr:=aHq os l (by simpa using h) (fun i hl=>by
    have:=hi (i+1) (by simpa using hl)
    simpa using this)
  simp only[bP,List.mem_flatMap,List.mem_range,List.mem_map]
  exact⟨k,by simpa using h0,l,hr,rfl⟩
def cKy (os:List Nat) (l:List Int):Prop:=∀ i,i<l.length→0≤l.getD i 0∧l.getD i 0<(os.getD i 0:Int)
theorem bBm {os:List Nat}{l:List Int}(hl:l.length=os.length) (h:cKy os l):∃ v∈bP os,l=v.map fun(d:Nat)=>(d:Int):=by
 have e:l=(l.map Int.toNat).map fun(d:Nat)=>(d:Int):=by
  rw[List.map_map]
  apply List.ext_getElem
  ·simp
  ·intro i h1 h2
   have:=h i h1
   simp only[List.getD,List.getElem?_eq_getElem h1,Option.getD_some]at this
   simp only[List.getElem_map,Function.comp_apply]
   omega
 refine⟨l.map Int.toNat,aHq _ _ (by simp[hl]) (fun i hi=> ?_),e⟩
 have hi':i<l.length:=by simpa using hi
 have:=h i hi'
 simp only[List.getD,List.getElem?_eq_getElem hi',Option.getD_some]at this
 simp only[List.getD,List.getElem?_map,List.getElem?_eq_getElem hi',Option.map_some,Option.getD_some]at this⊢
 omega
theorem aWl {α:Type}{l:List α}{f:α→Bool}(M k:Nat) (hk:l.length≤k*M) (h:∀ j,j<k→(((l.drop (j*M)).take M).all f)=true):l.all f=true:=by
 rw[List.all_eq_true]
 intro x hx
 obtain⟨i,hi,rfl⟩:=List.getElem_of_mem hx
 have hM:0<M:=by
  rcases Nat.eq_zero_or_pos M with h0 |h0
  ·subst h0;omega
  ·exact h0
 have hd:=Nat.div_add_mod i M
 have hml:=Nat.mod_lt i hM
 have hj:i / M<k:=(Nat.div_lt_iff_lt_mul hM).2 (by omega)
 have e:=Nat.mul_comm M (i / M)
 refine List.all_eq_true.1 (h (i / M) hj) _ (List.mem_iff_getElem?.2 ⟨i % M,?_⟩)
 rw[List.getElem?_take,if_pos hml,List.getElem?_drop,show i / M*M+i % M=i by omega,List.getElem?_eq_getElem hi]
end Go.Num
namespace Go.Proofs.YtaidcaemdkncgaaGreatDoor
section
open Go Go.Lg Go.Num
def jU (m:Int) (l:List Int):Int:=if 1≤m∧m≤60 then(if l.length=(od m.toNat).length then(if∀ i,i<l.length→0≤l.getD i 0∧l.getD i 0<((od m.toNat).getD i 0:Int)then 0 else 3)else 4)else 2
def tbB (m:Nat):Bool:=Nat.beq (pt m).length (3*(od m).length) && Nat.beq (gn m).length (od m).length && Nat.ble (od m).length 3 && (pt m).all (fun a=>Nat.ble a 60) && (gn m).all (fun a=>Nat.ble a 60) && (od m).all (fun a=>Nat.ble 1 a && Nat.ble a 60) && (List.range (od m).length).all (fun i=>Nat.beq ((pt m).getD (3*i+1) 0) ((od m).getD i 0) && Nat.ble 2 ((pt m).getD (3*i+2) 0)) && (Nat.ble m 2 ||Nat.ble 1 (od m).length) && (Nat.ble 3 m ||Nat.beq (od m).length 0)
theorem bVf:(List.range 61).all tbB=true:=by decide+kernel
theorem tb {m:Nat}(h:m≤60):(pt m).length=3*(od m).length∧(gn m).length=(od m).length∧(od m).length≤3∧(∀ a∈pt m,a≤60)∧(∀ a∈gn m,a≤60)∧(∀ a∈od m,1≤a∧a≤60)∧(∀ i,i<(od m).length→(pt m).getD (3*i+1) 0=(od m).getD i 0∧2≤(pt m).getD (3*i+2) 0)∧(m≤2∨1≤(od m).length)∧(3≤m∨(od m).length=0):=by
 have h:=List.all_eq_true.1 bVf m (List.mem_range.2 (by omega))
 unfold tbB at h
 simp only[Bool.and_eq_true,Nat.beq_eq,Nat.ble_eq,List.all_eq_true,Bool.or_eq_true,List.mem_range]at h
 obtain⟨⟨⟨⟨⟨⟨⟨⟨a1,a2⟩,a3⟩,a4⟩,a5⟩,a6⟩,a7⟩,a8⟩,a9⟩:=h
 exact⟨a1,a2,a3,a4,a5,a6,a7,a8,a9⟩
theorem aC0 {l:List Nat}{B i:Nat}(h:∀ a∈l,a≤B):l.getD i 0≤B:=by
 by_cases hi:i<l.length
 ·have:l.getD i 0=l[i]:=by simp[hi]
  rw[this]
  exact h _ (List.getElem_mem hi)
 ·have:l.getD i 0=0:=by simp[hi]
  omega
theorem aA0 {m i:Nat}(h:m≤60) (hi:i<(od m).length):1≤(od m).getD i 0∧(od m).getD i 0≤60:=by
 have:(od m).getD i 0=(od m)[i]:=by simp[hi]
 rw[this]
 exact(tb h).2.2.2.2.2.1 _ (List.getElem_mem hi)
theorem dW (l:List Nat):(nI l).length=l.length:=by simp[nI]
theorem rU (l:List Nat) (i:Nat):(nI l).getD i 0=(l.getD i 0:Int):=by
 simp only[nI,List.getD,List.getElem?_map]
 cases l[i]? <;>rfl
theorem bN3 (l:List Nat) (i:Nat) (h:3*i+2<l.length):ec (((nI l).drop (i*3)).take 3)=[.lit (.int .i64 (l.getD (3*i) 0:Int)),.lit (.int .i64 (l.getD (3*i+1) 0:Int)),.lit (.int .i64 (l.getD (3*i+2) 0:Int))]:=by
 apply List.ext_getElem
 ·simp[ec,nI];omega
 ·intro j h1 h2
  have hj:j<3:=by simpa using h2
  match j,hj with
  |0,_=>simp[ec,nI,show i*3<l.length by omega,Nat.mul_comm]
  |1,_=>simp[ec,nI,show i*3+1<l.length by omega,show 3*i=i*3 by omega]
  |2,_=>simp[ec,nI,show i*3+2<l.length by omega,show 3*i=i*3 by omega]
attribute [local irreducible] lrun lwp exThen exBlk keep goodPost ec pt gn od
theorem aNg (m:Int) (hm: -9223372036854775808≤m∧m≤9223372036854775807):PureGood Tryz.prog 165 [i64 m] (bl (decide (1≤m∧m≤60))):=by
 by_cases h1:1≤m
 ·by_cases h2:m≤60
  ·rw[qA ⟨h1,h2⟩]
   simp only[i64,bl]
   refine aA bC Tryz.func165 rfl (by decide) (nt:=9) rfl (rs:=[.tmp 2]) rfl (aZ rfl) ?_
   refine xM ?_
   exact zQ3
  ·rw[nJ (fun e=>h2 e.2)]
   simp only[i64,bl]
   refine aA bC Tryz.func165 rfl (by decide) (nt:=9) rfl (rs:=[.tmp 2]) rfl (aZ rfl) ?_
   refine xM ?_
   exact zQ3
 ·rw[nJ (fun e=>h1 e.1)]
  simp only[i64,bl]
  refine aA bC Tryz.func165 rfl (by decide) (nt:=9) rfl (rs:=[.tmp 2]) rfl (aZ rfl) ?_
  refine xM ?_
  exact zQ3
theorem aJu (m:Int) (hm: -9223372036854775808≤m∧m≤9223372036854775807):PureGood Tryz.prog 144 [i64 m] (i64 (if 1≤m∧m≤60 then 0 else 2)):=by
 by_cases h1:1≤m
 ·by_cases h2:m≤60
  ·rw[if_pos ⟨h1,h2⟩]
   simp only[i64,bl]
   refine aA bC Tryz.func144 rfl (by decide) (nt:=9) rfl (rs:=[.tmp 2]) rfl (aZ rfl) ?_
   refine xM ?_
   exact zQ3
  ·rw[if_neg (fun e=>h2 e.2)]
   simp only[i64,bl]
   refine aA bC Tryz.func144 rfl (by decide) (nt:=9) rfl (rs:=[.tmp 2]) rfl (aZ rfl) ?_
   refine xM ?_
   exact zQ3
 ·rw[if_neg (fun e=>h1 e.1)]
  simp only[i64,bl]
  refine aA bC Tryz.func144 rfl (by decide) (nt:=9) rfl (rs:=[.tmp 2]) rfl (aZ rfl) ?_
  refine xM ?_
  exact zQ3
theorem uA (m:Int) (l:List Int) (hm: -9223372036854775808≤m∧m≤9223372036854775807) (hl:l.length≤1000000):PureGood Tryz.prog 76 [.agg [i64 m,.sl l.length (ec l)]] (i64 (jU m l)):=by
 have gw:=aNg m hm
 unfold jU
 by_cases h1:1≤m∧m≤60
 ·rw[if_pos h1]
  rw[qA h1]at gw
  obtain⟨n,rfl⟩:∃ n:Nat,m=n:=⟨m.toNat,by omega⟩
  rw[Int.toNat_natCast]
  have gp:=xH (m:=n) (by omega) (by omega)
  obtain⟨t1,t2,t3,t4,t5,t6,t7,t8,t9⟩:=tb (m:=n) (by omega)
  by_cases h2:l.length=(od n).length
  ·rw[if_pos h2]
   rw[nZ]at gp
   rw[← h2]at gp
   simp only[i64,bl]at*
   refine aA bC Tryz.func76 rfl (by decide) (nt:=43) rfl (rs:=[.tmp 2]) rfl (aZ rfl) ?_
   refine xM ?_
   refine aI (α:={i:Nat // i≤l.length∧∀ j,j<i→0≤l.getD j 0∧l.getD j 0<((od n).getD j 0:Int)}) (fun i=>st 43 (lk [(1,.ptr 0 0),(2,i64 0),(19,.sl l.length (ec (nI (pt n)))),(20,i64 l.length),(21,i64 i.1)]) (cP [(0,⟨25,[i64 n,.sl l.length (ec l)],false⟩)]) 1) (fun i=>l.length-i.1) ⟨0,by simp⟩ ?_ ?_
   ·exact zO2 0
   ·rintro⟨i,hi,hj⟩
    simp only[st]
    by_cases hlt:i<l.length
    ·have hX:=bN3 (pt n) i (by omega)
     have hY:=(t7 i (by omega)).1
     rw[hY]at hX
     have hp:=dW (pt n)
     generalize (pt n).getD (3*i) 0=ra at*
     generalize (pt n).getD (3*i+2) 0=rc at*
     by_cases c1:l.getD i 0<0
     ·rw[if_neg (fun h=>by have:=h i hlt;omega)]
      refine wR (nd hX (nd hp t1)) ?_
      exact bFx (nd hX (nd hp t1))
     ·by_cases c2:((od n).getD i 0:Int)≤l.getD i 0
      ·rw[if_neg (fun h=>by have:=h i hlt;omega)]
       refine wR (nd hX (nd hp t1)) ?_
       exact bFx (nd hX (nd hp t1))
      ·refine wR (nd hX (nd hp t1)) ?_
       refine⟨⟨i+1,by omega,fun j hji=> ?_⟩,?_,by simp only;omega⟩
       ·rcases Nat.lt_or_ge j i with h5 |h5
        ·exact hj j h5
        ·obtain rfl:j=i:=by omega
         omega
       ·exact zO2 0
    ·obtain rfl:i=l.length:=by omega
     rw[if_pos hj]
     refine xM ?_
     exact zQ3
  ·rw[if_neg h2]
   rw[nZ]at gp
   simp only[i64,bl]at*
   refine aA bC Tryz.func76 rfl (by decide) (nt:=43) rfl (rs:=[.tmp 2]) rfl (aZ rfl) ?_
   refine xM ?_
   exact zQ3
 ·rw[if_neg h1]
  rw[nJ h1]at gw
  simp only[i64,bl]at*
  refine aA bC Tryz.func76 rfl (by decide) (nt:=43) rfl (rs:=[.tmp 2]) rfl (aZ rfl) ?_
  refine xM ?_
  exact zQ3
end
section
open Go Go.Lg Go.Num
attribute [local irreducible] lrun lwp exThen exBlk keep goodPost ec pt gn od
theorem wC (m:Int) (l:List Int) (hm: -9223372036854775808≤m∧m≤9223372036854775807) (hl:l.length≤1000000):PureGood Tryz.prog 61 [.agg [i64 m,.sl l.length (ec l)]] (i64 (jU m l)):=by
 have gw:=aJu m hm
 unfold jU
 by_cases h1:1≤m∧m≤60
 ·rw[if_pos h1]
  rw[if_pos h1]at gw
  obtain⟨n,rfl⟩:∃ n:Nat,m=n:=⟨m.toNat,by omega⟩
  rw[Int.toNat_natCast]
  have gp:=aAz (m:=n) (by omega) (by omega)
  obtain⟨t1,t2,t3,t4,t5,t6,t7,t8,t9⟩:=tb (m:=n) (by omega)
  by_cases h2:l.length=(od n).length
  ·rw[if_pos h2]
   rw[nZ,nZ]at gp
   rw[← h2]at gp
   have hp:=dW (od n)
   simp only[i64,bl]at*
   refine aA bC Tryz.func61 rfl (by decide) (nt:=49) rfl (rs:=[.tmp 2]) rfl (aZ rfl) ?_
   refine xM ?_
   refine aI (α:={i:Nat // i≤l.length∧∀ j,j<i→0≤l.getD j 0∧l.getD j 0<((od n).getD j 0:Int)}) (fun i=>st 49 (lk [(1,.ptr 0 0),(2,i64 0),(5,.sl l.length (ec (nI (od n)))),(6,i64 i.1)]) (cP [(0,⟨25,[i64 n,.sl l.length (ec l)],false⟩)]) 1) (fun i=>l.length-i.1) ⟨0,by simp⟩ ?_ ?_
   ·exact zO2 0
   ·rintro⟨i,hi,hj⟩
    simp only[st]
    by_cases hlt:i<l.length
    ·have hX:=rU (od n) i
     by_cases c1:l.getD i 0<0
     ·rw[if_neg (fun h=>by have:=h i hlt;omega)]
      refine wR (nd hX hp) ?_
      exact bFx (nd hX hp)
     ·by_cases c2:((od n).getD i 0:Int)≤l.getD i 0
      ·rw[if_neg (fun h=>by have:=h i hlt;omega)]
       refine wR (nd hX hp) ?_
       exact bFx (nd hX hp)
      ·refine wR (nd hX hp) ?_
       refine⟨⟨i+1,by omega,fun j hji=> ?_⟩,?_,by simp only;omega⟩
       ·rcases Nat.lt_or_ge j i with h5 |h5
        ·exact hj j h5
        ·obtain rfl:j=i:=by omega
         omega
       ·exact zO2 0
    ·obtain rfl:i=l.length:=by omega
     rw[if_pos hj]
     refine xM ?_
     exact zQ3
  ·rw[if_neg h2]
   rw[nZ,nZ]at gp
   simp only[i64,bl]at*
   refine aA bC Tryz.func61 rfl (by decide) (nt:=49) rfl (rs:=[.tmp 2]) rfl (aZ rfl) ?_
   refine xM ?_
   exact zQ3
 ·rw[if_neg h1]
  rw[if_neg h1]at gw
  simp only[i64,bl]at*
  refine aA bC Tryz.func61 rfl (by decide) (nt:=49) rfl (rs:=[.tmp 2]) rfl (aZ rfl) ?_
  refine xM ?_
  exact zQ3
theorem aWm (m:Int) (l:List Int) (hm: -9223372036854775808≤m∧m≤9223372036854775807) (hl:l.length≤1000000):PureGood Tryz.prog 18 [.agg [i64 m,.sl l.length (ec l)]] (.agg [i64 m,.sl l.length (ec l)]):=by
 simp only[i64,bl]
 refine aA bC Tryz.func18 rfl (by decide) (nt:=10) rfl (rs:=[.cell 2 25]) rfl (aZ rfl) ?_
 refine xM ?_
 ((first|apply dG|apply dI);case hres=>(simp only[iC];simp(disch:=first|omega|exact kD rfl|exact kX rfl) only[smY,simprocAttr,bl,i64,smE];exact rfl))
 simp(disch:=first|omega|exact kD rfl|exact kX rfl) only[smY,simprocAttr,bl,i64,smE]
 rw[List.take_length]
end
end Go.Proofs.YtaidcaemdkncgaaGreatDoor
namespace Go.Num
theorem bVg (a b:Rat):lq (a-b)≤lq a+lq b+lq a+lq b+1:=by
 rw[Rat.sub_eq_add_neg]
 have:=bAx a (-b)
 rw[aP3]at this
 exact this
end Go.Num
namespace Go.Proofs.YtaidcaemdkncgaaGreatDoor
section
open Go Go.Lg Go.Num
attribute [local irreducible] lrun lwp exThen exBlk keep goodPost
attribute [local irreducible] sg mg
theorem aJv {z:Int}(h: -9223372036854775808≤z∧z≤9223372036854775808):lq (z:Rat)≤3:=by
 have h3:len z≤2:=bG (e:=2) (by omega)
 rw[rJ]
 omega
theorem aB6 (q:Rat) (h:lq q≤68719476736):PureGood Tryz.prog 163 [bF q] (i64 q.num.sign):=by
 have h1:=rL q.num (by unfold lq at h;omega)
 have h2:=rL (q.den:Int) (by unfold lq at h;omega)
 rw[Int.sign_eq_one_of_pos (by have:=q.den_nz;omega)]at h2
 have hs: -1≤q.num.sign∧q.num.sign≤1:=by
  rcases Int.sign_trichotomy q.num with e |e |e <;>rw[e] <;>omega
 generalize q.num.sign=s at*
 simp only[aH,aW,i64]at*
 refine aA bC Tryz.func163 rfl (by decide) (nt:=10) rfl (rs:=[.tmp 2]) rfl (aZ rfl) ?_
 refine dM ?_
 refine zR1 ?_
 refine zV2 ?_
 simp only[Int.mul_one]
theorem qI (n d:Int) (hn: -4294967296≤n∧n≤4294967296) (hd:1≤d∧d≤4294967296):PureGood Tryz.prog 53 [i64 n,i64 d] (bF (Rat.divInt n d)):=by
 have hp:=mS (n:=n) (d:=d) (by omega)
 rw[if_neg (by omega)]at hp
 have hg0:Int.gcd n d≠0:=fun e=>by have:=(Int.gcd_eq_zero_iff.1 e).2;omega
 have hgn:((Int.gcd n d:Nat):Int)∣n:=Int.gcd_dvd_left ..
 have hG:Int.gcd n d=Nat.gcd n.natAbs d.natAbs:=rfl
 have hdn:(d.natAbs:Int)=d:=by omega
 rw[aH,hp.1,hp.2,hdn]
 clear hp
 have hq1:=Int.natAbs_ediv_le_natAbs n ((Int.gcd n d:Nat):Int)
 have hq2:=Int.natAbs_ediv_le_natAbs d ((Int.gcd n d:Nat):Int)
 have z1:=kQ (n / ((Int.gcd n d:Nat):Int)) (by omega)
 have z2:=kQ (d / ((Int.gcd n d:Nat):Int)) (by omega)
 have ht:n.tdiv ((Int.gcd n d:Nat):Int)=n / ((Int.gcd n d:Nat):Int):=Int.tdiv_eq_ediv_of_dvd hgn
 rw[hG]at hgn hq1 hq2 z1 z2 ht⊢
 rw[hG]at hg0
 obtain⟨m,hm⟩:∃ m:Nat,d=m:=⟨d.toNat,by omega⟩
 subst hm
 rw[Int.natAbs_natCast]at hq2 z1 z2 ht hg0⊢
 have hmx:(if 0-n>n then 0-n else n)=(n.natAbs:Int):=by split <;>omega
 rw[Int.natAbs_natCast]at hgn hq1 hG
 generalize hgg:Nat.gcd n.natAbs m=g at*
 simp only[aW,i64]at*
 refine aA bC Tryz.func53 rfl (by decide) (nt:=33) rfl (rs:=[.cell 4 47]) rfl (aZ rfl) ?_
 (repeat(first|apply zO (by decide+kernel)|apply zP (by decide+kernel)|((fail_if_success refine aDm ?_);apply zS;(case h=>constructor<;>decide))|((first|apply cD rfl|apply aR);(case hs=>(simp(disch:=first|omega|exact kD rfl|exact kX rfl) only[smY,simprocAttr,bl,i64,smS,hmx];exact rfl));first|refine cB ?_|refine cC ?_|refine zq ?_)))
 apply aR5
 apply qW
 refine aI (α:={p:Nat×Nat // Nat.gcd p.1 p.2=g∧p.1≤4294967296∧p.2≤4294967296}) (fun p=>st 33 (lk [(0,i64 n),(1,i64 m),(4,.ptr 0 0),(5,i64 p.1.1),(6,i64 p.1.2)]) (cP [(0,⟨47,[bl false,.lit (.slice none 0 0),bl false,.lit (.slice none 0 0)],false⟩)]) 1) (fun p=>p.1.2) ⟨(n.natAbs,m),hgg,by simp only;omega,by simp only;omega⟩ ?_ ?_
 ·(refine Sub.heapL [0] rfl (by decide) ?_ (by simp only[fB];decide) ?_ ?_;all_goals(first|(simp only[aB,aG,dg,renL,renLs,simprocAttr,bl,i64,smS];done) |(simp only[aG,dg,renL,renLs,simprocAttr,bl,i64,smS];(repeat' apply And.intro);all_goals rfl) |(simp only[aG,dg,renL,renLs,simprocAttr,bl,i64,smS]) |skip))
 ·rintro⟨⟨x,y⟩,hg,hx,hy⟩
  simp only at hg hx hy
  simp only[st]
  by_cases hy0:y=0
  ·subst hy0
   rw[Nat.gcd_zero_right]at hg
   subst hg
   have hx0:¬(x:Int)=0:=by omega
   (repeat(first|apply zO (by decide+kernel)|apply zP (by decide+kernel)|(apply zS;(case h=>constructor<;>decide))|((first|apply cD rfl|apply aR|apply zT rfl (by decide) rfl);(case hs=>(simp(disch:=first|omega|exact kD rfl|exact kX rfl) only[smY,simprocAttr,bl,i64,smS,ht];exact rfl));first|refine cB ?_|refine cC ?_|refine zq ?_|(case hg=>assumption))))
   ((first|apply dG|apply dI);case hres=>(simp only[iC];simp(disch:=first|omega|exact kD rfl|exact kX rfl) only[smY,simprocAttr,bl,i64,smS,ht];exact rfl))
   simp(disch:=first|omega|exact kD rfl|exact kX rfl) only[smY,simprocAttr,bl,i64,smS,ht]
  ·have hmod:x % y<y:=Nat.mod_lt _ (by omega)
   have hy1:¬(y:Int)=0:=by omega
   refine zA6 ?_
   refine⟨⟨(y,x % y),?_,hy,by simp only;omega⟩,?_,hmod⟩
   ·simp only
    rw[← hg,Nat.gcd_comm x y,Nat.gcd_rec y x,Nat.gcd_comm]
   ·(refine Sub.heapL [0] rfl (by decide) ?_ (by simp only[fB];decide) ?_ ?_;all_goals(first|(simp only[aB,aG,dg,renL,renLs,simprocAttr,bl,i64,smS];done) |(simp only[aG,dg,renL,renLs,simprocAttr,bl,i64,smS];(repeat' apply And.intro);all_goals rfl) |(simp only[aG,dg,renL,renLs,simprocAttr,bl,i64,smS]) |skip))
theorem aHr (q:Rat) (h:lq q≤34359738368):PureGood Tryz.prog 59 [.agg [sg 0,mg 0,sg 0,mg 0],bF q] (bF q):=by
 have h1:=wV 0 (by unfold len;simp[aX])
 have h2:=gV q (by omega)
 have e0:(0:Int).sign=0:=rfl
 rw[e0]at h1
 simp only[aH,aW,i64]at*
 refine aA bC Tryz.func59 rfl (by decide) (nt:=54) rfl (rs:=[.cell 4 47]) rfl (aZ rfl) ?_
 refine dM ?_
 exact mJ
theorem aGe (f:List Rat) (hf:∀ c∈f,lq c≤100000) (hl:f.length≤1000000000):PureGood Tryz.prog 14 [encF f,encF f] (.lit (.bool true)):=by
 rw[bD]
 refine aA bC Tryz.func14 rfl (by decide) (nt:=27) rfl (rs:=[.tmp 4]) rfl (aZ rfl) ?_
 refine dM ?_
 refine aI (α:={k:Nat // k≤f.length}) (fun k=>st 27 (lk [(0,.sl f.length (qc f)),(1,.sl f.length (qc f)),(4,bl false),(5,i64 k.1)]) (cP []) 0) (fun k=>f.length-k.1) ⟨0,by omega⟩ ?_ ?_
 ·exact zP2
 ·rintro⟨k,hk⟩
  simp only[st]
  by_cases h:k<f.length
  ·have hm:lq (f.getD k 0)≤100000:=by
    have:f.getD k 0=f[k]:=by simp[h]
    rw[this]
    exact hf _ (List.getElem_mem _)
   have hs:=aJi (f.getD k 0) (f.getD k 0) (by omega) (by omega)
   rw[qA rfl,bl]at hs
   generalize hc:f.getD k 0=c at*
   rw[aH]at hs
   refine cW hc ?_
   refine⟨⟨k+1,by omega⟩,?_,by simp only;omega⟩
   exact zP2
  ·obtain rfl:k=f.length:=by omega
   refine dM ?_
   exact mJ
end
section
open Go Go.Lg Go.Num
theorem bBn (m:Int) (l:List Int):jU m l=0∨jU m l=2∨jU m l=3∨jU m l=4:=by
 unfold jU
 split
 ·split
  ·split
   ·exact .inl rfl
   ·exact .inr (.inr (.inl rfl))
  ·exact .inr (.inr (.inr rfl))
 ·exact .inr (.inl rfl)
attribute [local irreducible] lrun lwp exThen exBlk keep goodPost ec pt gn od jU
structure ChB (m:Int) (l:List Int):Prop where
 m1: -9223372036854775808≤m∧m≤9223372036854775807
 ln:l.length≤1000000
end
section
open Go Go.Lg Go.Num
theorem aJw:PureGood Tryz.prog 10 [] (.lit (.bool true)):=dE aTa (by kernel_rfl)
def bH8 (args:List LV):Option LV:=match args with
 |[]=>some (.lit (.bool true))
 |_=>none
theorem bH9 {args:List LV}{r:LV}(h:bH8 args=some r):PureGood Tryz.prog 10 args r:=by
 unfold bH8 at h
 split at h
 ·cases h
  exact aJw
 ·cases h
def aTb (args:List LV):Option LV:=match args with
 |[.agg [.lit (.int .i64 (.ofNat m)),.sl k cs]]=>match aNf cs with
  |some l=>bif Nat.ble m 1000 && Nat.beq k l.length && Nat.ble k 1000 then some (.agg [.lit (.int .i64 (.ofNat m)),.sl k cs])else none
  |none=>none
 |_=>none
theorem bBo {args:List LV}{r:LV}(h:aTb args=some r):PureGood Tryz.prog 18 args r:=by
 unfold aTb at h
 split at h
 ·rename_i m k cs
  split at h
  ·rename_i l hl
   cases hb:(Nat.ble m 1000 && Nat.beq k l.length && Nat.ble k 1000)with
   |true=>
    rw[hb]at h
    cases h
    simp only[Bool.and_eq_true,Nat.ble_eq,Nat.beq_eq]at hb
    obtain⟨⟨h1,rfl⟩,h3⟩:=hb
    obtain⟨rfl,_⟩:=vC hl
    have:=aWm (m:Int) (nI l) (by omega) (by rw[dW];omega)
    rw[dW]at this
    exact this
   |false=>rw[hb]at h;cases h
  ·cases h
 ·cases h
def cFh (f:FuncId) (args:List LV):Option LV:=bif Nat.beq f 10 then bH8 args else bif Nat.beq f 18 then aTb args else cFg f args
theorem aTc:fR Tryz.prog cFh:=by
 intro f args r h
 exact aU (f0:=10) (g:=bH8) (fun _ _ h=>bH9 h) (aU (f0:=18) (g:=aTb) (fun _ _ h=>bBo h) aTa) f args r h
def chV (n:Nat) (v:List Nat):LV:= .agg [.lit (.int .i64 (.ofNat n)),.sl v.length (aHn v)]
theorem aA1 (n:Nat) (v:List Nat):chV n v= .agg [i64 n,.sl (nI v).length (ec (nI v))]:=by
 unfold chV
 rw[yU,dW]
 rfl
theorem bIa {m:Int}{l:List Int}(h:jU m l=0):∃ n:Nat,m=n∧1≤n∧n≤60∧∃ v∈bP (od n),l=nI v:=by
 unfold jU at h
 split at h
 ·rename_i h1
  obtain⟨n,rfl⟩:∃ n:Nat,m=n:=⟨m.toNat,by omega⟩
  rw[Int.toNat_natCast]at h
  split at h
  ·rename_i h2
   split at h
   ·rename_i h3
    exact⟨n,rfl,by omega,by omega,bBm h2 h3⟩
   ·cases h
  ·cases h
 ·cases h
attribute [local irreducible] lrun lwp exThen exBlk keep goodPost ec pt gn od jU
end
end Go.Proofs.YtaidcaemdkncgaaGreatDoor
namespace Go.Num
section
def vpF (p:Nat):Nat→Nat→Nat
 |0,_=>0
 |f+1,d=>if d % p=0 then vpF p f (d / p)+1 else 0
def vp (p d:Nat):Nat:=vpF p d d
def cKz (p n:Nat) (xs:List Int) (k:Nat):Int:=(vp p ((divN n).getD k 0):Int)*xs.getD k 0
def bIb:List Nat:=[2,3,5,7,11,13,17,19,23,29,31,37,41,43,47,53,59,61,67,71,73,79,83,89,97,101,103,107,109,113,127,131,137,139,149,151,157,163,167,173,179,181,191,193,197,199,211,223,227,229,233,239,241,251,257,263,269,271,277,281,283,293,307,311,313,317,331,337,347,349,353,359,367,373,379,383,389,397,401,409,419,421,431,433,439,443,449,457,461,463,467,479,487,491,499,503,509,521,523,541,547,557,563,569,571,577,587,593,599]
def cMj (q:Nat):List Nat:=bIb.filter fun p=>Nat.blt p q
def gP (n:Nat) (xs:List Int) (p:Nat):Int:=if aAw (cKz p n xs) xs.length % 2=0 then 1 else(p:Int)
theorem aJx (a:Int) {b:Int}(h:0<b): -b<a.tmod b∧a.tmod b<b:=by
 have h1:=Int.tmod_lt_of_pos a h
 have h2:=Int.lt_tmod_of_pos a h
 omega
end
section
theorem yV (a:Int) {m:Int}(hm:0<m):a % m=if a.tmod m<0 then a.tmod m+m else a.tmod m:=by
 have h1:=Int.mul_tdiv_add_tmod a m
 have h2:=aJx a hm
 have h3:a % m=(a.tmod m) % m:=by
  conv=>lhs;rw[← h1]
  exact Int.mul_add_emod_self_left ..
 rw[h3]
 split
 ·rename_i h
  have:a.tmod m % m=(a.tmod m+m) % m:=(Int.add_emod_right ..).symm
  rw[this]
  exact Int.emod_eq_of_lt (by omega) (by omega)
 ·exact Int.emod_eq_of_lt (by omega) (by omega)
end
end Go.Num
namespace Go.Proofs.YtaidcaemdkncgaaGreatDoor
section
open Go Go.Lg Go.Num
def lgL (root q a:Nat):Nat→Nat→Nat→Nat
 |0,_,k=>k
 |f+1,x,k=>if x=a then k else lgL root q a f (x*root % q) (k+1)
def aA2 (root q a:Nat):Nat→Nat→Bool
 |0,_=>false
 |f+1,x=>bif Nat.beq x a then true else aA2 root q a f (x*root % q)
def lgS (q a:Nat):Nat:=if q % 2=0∧a % 4=3 then q-a else a
def lgA (root q a:Nat):Nat:=if q % 2=0∧root+1=q then a % 4 / 2 else lgL root q (lgS q a) 64 1 0
theorem bBq (root q a:Nat):∀ f x k,lgL root q a f x k≤k+f
 |0,x,k=>Nat.le_refl _
 |f+1,x,k=>by
  rw[lgL]
  split
  · omega
  · have:=bBq root q a f (x*root % q) (k+1)
    omega
attribute [local irreducible] lrun lwp exThen exBlk keep goodPost lgL aA2
theorem aJy {root q a f x k:Nat}(h:aA2 root q a (f+1) x=true):(x=a∧lgL root q a (f+1) x k=k)∨(x≠a∧aA2 root q a f (x*root % q)=true∧lgL root q a (f+1) x k=lgL root q a f (x*root % q) (k+1)):=by
 rw[aA2]at h
 cases hb:Nat.beq x a with
 |true=>
  have:=Nat.eq_of_beq_eq_true hb
  exact .inl ⟨this,by rw[lgL,if_pos this]⟩
 |false=>
  rw[hb,cond_false]at h
  have:x≠a:=fun e=>by rw[e,Nat.beq_refl]at hb;cases hb
  exact .inr ⟨this,h,by rw[lgL,if_neg this]⟩
theorem aA3 {root q a x:Nat}:aA2 root q a 0 x=false:=by rw[aA2]
theorem aEz (root ord q:Nat) (a:Int) (a':Nat) (ha:a % (q:Int)=a') (hq:2≤q∧q≤100) (hr:root≤100) (ho:ord≤100) (hab: -4294967296≤a∧a≤4294967296) (hit:(q % 2=0∧root+1=q)∨aA2 root q (lgS q a') 64 1=true):PureGood Tryz.prog 166 [.agg [i64 root,i64 ord,i64 q],i64 a] (i64 (lgA root q a')):=by
 have b1:=aJx a (b:=q) (by omega)
 have b2:=yV a (m:=q) (by omega)
 have hal:a'<q:=by
  have:=Int.emod_lt_of_pos a (show(0:Int)<(q:Int)by omega)
  omega
 rw[ha]at b2
 generalize hbb:a.tmod (q:Int)=b at*
 have e1:(b+(q:Int)) % (q:Int)=(a':Int):=by
  by_cases h:b<0
  ·rw[if_pos h]at b2
   rw[← b2]
   exact Int.emod_eq_of_lt (by omega) (by omega)
  ·rw[if_neg h]at b2
   rw[Int.add_emod_right,← b2]
   exact Int.emod_eq_of_lt (by omega) (by omega)
 have e2:(b+(q:Int)).tmod (q:Int)=(a':Int):=by rw[Int.tmod_eq_emod_of_nonneg (by omega)];exact e1
 unfold lgA
 by_cases hc1:q % 2=0∧root+1=q
 ·rw[if_pos hc1]
  have hd:((a':Int) % 4) / 2=((a' % 4 / 2:Nat):Int):=by omega
  generalize a' % 4 / 2=d at*
  refine aA bC Tryz.func166 rfl (by decide) (nt:=55) rfl (rs:=[.tmp 4]) rfl (aZ rfl) ?_
  refine aAf (nd e1 (nd e2 (nd hbb hd))) ?_
  exact aPh (nd e1 (nd e2 (nd hbb hd)))
 ·rw[if_neg hc1]
  have hit:=hit.resolve_left hc1
  unfold lgS at*
  by_cases hc2:q % 2=0∧a' % 4=3
  ·rw[if_pos hc2]at hit⊢
   have hs:(q:Int)-(a':Int)=((q-a':Nat):Int):=by omega
   have hcl:q-a'≤100:=by omega
   generalize q-a'=c at*
   refine aA bC Tryz.func166 rfl (by decide) (nt:=55) rfl (rs:=[.tmp 4]) rfl (aZ rfl) ?_
   refine aAf (nd e1 (nd e2 (nd hbb hs))) ?_
   refine aI (α:={s:Nat×Nat×Nat // aA2 root q c s.1 s.2.1=true∧s.2.1≤100∧s.2.2≤100∧lgL root q c s.1 s.2.1 s.2.2=lgL root q c 64 1 0∧s.1+s.2.2≤64}) (fun s=>st 55 (lk [(1,i64 c),(2,.ptr 0 0),(5,i64 q),(6,i64 s.1.2.2),(7,i64 s.1.2.1)]) (cP [(0,⟨190,[i64 root,i64 ord,i64 q],false⟩)]) 1) (fun s=>s.1.1) ⟨(64,1,0),hit,by simp only;omega,by simp only;omega,rfl,by simp only;omega⟩ ?_ ?_
   ·exact zO1 0
   ·rintro⟨⟨f,x,k⟩,h1,h2,h3,h4,h5⟩
    simp only at h1 h2 h3 h4 h5
    simp only[st]
    cases f with
    |zero=>rw[aA3]at h1;cases h1
    |succ f=>
     rcases aJy (k:=k) h1 with⟨e,e2⟩ |⟨e,e1,e2⟩
     · rw[e2]at h4
       rw[← h4]
       subst e
       refine zA4 ?_
       exact zQ7
     · rw[e2]at h4
       have hb:x*root≤100*100:=Nat.mul_le_mul h2 hr
       have hx:(x:Int)*(root:Int)=((x*root:Nat):Int):=by simp
       have hlt:x*root % q<q:=Nat.mod_lt _ (by omega)
       have hmd:((x*root:Nat):Int) % (q:Int)=((x*root % q:Nat):Int):=rfl
       have hne:¬(x:Int)=(c:Int):=by omega
       generalize x*root=y at*
       generalize hz:y % q=z at*
       refine aAf (nd hx hmd) ?_
       refine⟨⟨(f,z,k+1),e1,by simp only;omega,by simp only;omega,h4,by simp only;omega⟩,?_,by simp only;omega⟩
       exact zO1 0
  ·rw[if_neg hc2]at hit⊢
   have hcl:a'≤100:=by omega
   by_cases hq2:q % 2=0
   ·have h43:¬a' % 4=3:=fun e=>hc2 ⟨hq2,e⟩
    have hrt:¬root+1=q:=fun e=>hc1 ⟨hq2,e⟩
    refine aA bC Tryz.func166 rfl (by decide) (nt:=55) rfl (rs:=[.tmp 4]) rfl (aZ rfl) ?_
    refine aAf (nd e1 (nd e2 hbb)) ?_
    refine aI (α:={s:Nat×Nat×Nat // aA2 root q a' s.1 s.2.1=true∧s.2.1≤100∧s.2.2≤100∧lgL root q a' s.1 s.2.1 s.2.2=lgL root q a' 64 1 0∧s.1+s.2.2≤64}) (fun s=>st 55 (lk [(1,i64 a'),(2,.ptr 0 0),(5,i64 q),(6,i64 s.1.2.2),(7,i64 s.1.2.1)]) (cP [(0,⟨190,[i64 root,i64 ord,i64 q],false⟩)]) 1) (fun s=>s.1.1) ⟨(64,1,0),hit,by simp only;omega,by simp only;omega,rfl,by simp only;omega⟩ ?_ ?_
    ·exact zO1 0
    ·rintro⟨⟨f,x,k⟩,h1,h2,h3,h4,h5⟩
     simp only at h1 h2 h3 h4 h5
     simp only[st]
     cases f with
     |zero=>rw[aA3]at h1;cases h1
     |succ f=>
      rcases aJy (k:=k) h1 with⟨e,e2⟩ |⟨e,e1,e2⟩
      · rw[e2]at h4
        rw[← h4]
        subst e
        refine zA4 ?_
        exact zQ7
      · rw[e2]at h4
        have hb:x*root≤100*100:=Nat.mul_le_mul h2 hr
        have hx:(x:Int)*(root:Int)=((x*root:Nat):Int):=by simp
        have hlt:x*root % q<q:=Nat.mod_lt _ (by omega)
        have hmd:((x*root:Nat):Int) % (q:Int)=((x*root % q:Nat):Int):=rfl
        have hne:¬(x:Int)=(a':Int):=by omega
        generalize x*root=y at*
        generalize hz:y % q=z at*
        refine aAf (nd hx hmd) ?_
        refine⟨⟨(f,z,k+1),e1,by simp only;omega,by simp only;omega,h4,by simp only;omega⟩,?_,by simp only;omega⟩
        exact zO1 0
   ·refine aA bC Tryz.func166 rfl (by decide) (nt:=55) rfl (rs:=[.tmp 4]) rfl (aZ rfl) ?_
    refine aAf (nd e1 (nd e2 hbb)) ?_
    refine aI (α:={s:Nat×Nat×Nat // aA2 root q a' s.1 s.2.1=true∧s.2.1≤100∧s.2.2≤100∧lgL root q a' s.1 s.2.1 s.2.2=lgL root q a' 64 1 0∧s.1+s.2.2≤64}) (fun s=>st 55 (lk [(1,i64 a'),(2,.ptr 0 0),(5,i64 q),(6,i64 s.1.2.2),(7,i64 s.1.2.1)]) (cP [(0,⟨190,[i64 root,i64 ord,i64 q],false⟩)]) 1) (fun s=>s.1.1) ⟨(64,1,0),hit,by simp only;omega,by simp only;omega,rfl,by simp only;omega⟩ ?_ ?_
    ·exact zO1 0
    ·rintro⟨⟨f,x,k⟩,h1,h2,h3,h4,h5⟩
     simp only at h1 h2 h3 h4 h5
     simp only[st]
     cases f with
     |zero=>rw[aA3]at h1;cases h1
     |succ f=>
      rcases aJy (k:=k) h1 with⟨e,e2⟩ |⟨e,e1,e2⟩
      · rw[e2]at h4
        rw[← h4]
        subst e
        refine zA4 ?_
        exact zQ7
      · rw[e2]at h4
        have hb:x*root≤100*100:=Nat.mul_le_mul h2 hr
        have hx:(x:Int)*(root:Int)=((x*root:Nat):Int):=by simp
        have hlt:x*root % q<q:=Nat.mod_lt _ (by omega)
        have hmd:((x*root:Nat):Int) % (q:Int)=((x*root % q:Nat):Int):=rfl
        have hne:¬(x:Int)=(a':Int):=by omega
        generalize x*root=y at*
        generalize hz:y % q=z at*
        refine aAf (nd hx hmd) ?_
        refine⟨⟨(f,z,k+1),e1,by simp only;omega,by simp only;omega,h4,by simp only;omega⟩,?_,by simp only;omega⟩
        exact zO1 0
end
section
open Go Go.Lg Go.Num
def pR (n i:Nat):Nat:=(pt n).getD (3*i) 0
def pQ (n i:Nat):Nat:=(pt n).getD (3*i+2) 0
def cFi (root q r:Nat):Bool:=(Nat.beq (q % 2) 0 && Nat.beq (root+1) q) ||aA2 root q (lgS q r) 64 1
def cK0 (n:Nat):Bool:=(List.range (od n).length).all fun i=>Nat.beq (n % pQ n i) 0 && Nat.ble 2 (pQ n i) && (List.range (pQ n i)).all fun r=> !(Nat.beq (Nat.gcd r (pQ n i)) 1) ||cFi (pR n i) (pQ n i) r
theorem bIc:(List.range 61).all cK0=true:=by decide+kernel
theorem bVi {n i:Nat}(h:n≤60) (hi:i<(od n).length):n % pQ n i=0∧2≤pQ n i∧∀ r,r<pQ n i→Nat.gcd r (pQ n i)=1→(pQ n i % 2=0∧pR n i+1=pQ n i)∨aA2 (pR n i) (pQ n i) (lgS (pQ n i) r) 64 1=true:=by
 have h:=List.all_eq_true.1 (List.all_eq_true.1 bIc n (List.mem_range.2 (by omega))) i (List.mem_range.2 hi)
 rw[Bool.and_eq_true,Bool.and_eq_true,Nat.beq_eq,Nat.ble_eq]at h
 refine⟨h.1.1,h.1.2,fun r hr hg=> ?_⟩
 have h2:=List.all_eq_true.1 h.2 r (List.mem_range.2 hr)
 rw[hg,Bool.or_eq_true]at h2
 rcases h2 with h2 |h2
 ·cases h2
 ·unfold cFi at h2
  rw[Bool.or_eq_true,Bool.and_eq_true,Nat.beq_eq,Nat.beq_eq]at h2
  exact h2
def vs (s:Nat×Nat) (o e l:Nat):Nat×Nat:=
 ((s.1*o+e*l*s.2) / Nat.gcd (s.1*o+e*l*s.2) (s.2*o) % (s.2*o / Nat.gcd (s.1*o+e*l*s.2) (s.2*o)),s.2*o / Nat.gcd (s.1*o+e*l*s.2) (s.2*o))
def rsd (a:Int) (q:Nat):Nat:=(a % (q:Int)).toNat
def vf (n:Nat) (v:List Nat) (a:Int):Nat→Nat×Nat
 |0=>(0,1)
 |i+1=>vs (vf n v a i) ((od n).getD i 0) (v.getD i 0) (lgA (pR n i) (pQ n i) (rsd a (pQ n i)))
theorem cFj {s:Nat×Nat}{o e l B:Nat}(h1:s.1<s.2) (h2:s.2≤B) (ho:1≤o∧o≤60):(vs s o e l).1<(vs s o e l).2∧(vs s o e l).2≤B*60:=by
 have hp:0<s.2*o:=Nat.mul_pos (by omega) ho.1
 have hg:0<Nat.gcd (s.1*o+e*l*s.2) (s.2*o):=Nat.gcd_pos_of_pos_right _ hp
 have hle:Nat.gcd (s.1*o+e*l*s.2) (s.2*o)≤s.2*o:=Nat.le_of_dvd hp (Nat.gcd_dvd_right _ _)
 have hd:0<s.2*o / Nat.gcd (s.1*o+e*l*s.2) (s.2*o):=Nat.div_pos hle hg
 have hb:s.2*o≤B*60:=Nat.mul_le_mul h2 ho.2
 have:=Nat.div_le_self (s.2*o) (Nat.gcd (s.1*o+e*l*s.2) (s.2*o))
 exact⟨Nat.mod_lt _ hd,by unfold vs;simp only;omega⟩
theorem bN4 {n:Nat}(hn:n≤60) (v:List Nat) (a:Int):∀ i,i≤(od n).length→(vf n v a i).1<(vf n v a i).2∧(vf n v a i).2≤60^i
 |0,_=>⟨Nat.zero_lt_one,Nat.le_refl _⟩
 |i+1,h=>by
  have ih:=bN4 hn v a i (by omega)
  have:=cFj (e:=v.getD i 0) (l:=lgA (pR n i) (pQ n i) (rsd a (pQ n i))) ih.1 ih.2 (aA0 hn (show i<(od n).length by omega))
  rw[vf,Nat.pow_succ]
  exact this
theorem bVj (r q a:Nat) (ha:a≤100):lgA r q a≤100:=by
 unfold lgA
 split
 ·omega
 ·have:=bBq r q (lgS q a) 64 1 0
  omega
theorem bId {a:Int}{n q:Nat}(hq:n % q=0) (hq2:2≤q) (hg:Int.gcd a n=1):Nat.gcd (rsd a q) q=1:=by
 have h0:0≤a % (q:Int):=Int.emod_nonneg _ (by omega)
 have hr:((rsd a q:Nat):Int)=a % (q:Int):=by unfold rsd;omega
 have d1:((Nat.gcd (rsd a q) q:Nat):Int)∣((rsd a q:Nat):Int):=Int.natCast_dvd_natCast.2 (Nat.gcd_dvd_left _ _)
 have d2:((Nat.gcd (rsd a q) q:Nat):Int)∣(q:Int):=Int.natCast_dvd_natCast.2 (Nat.gcd_dvd_right _ _)
 have d3:((Nat.gcd (rsd a q) q:Nat):Int)∣a:=by
  have h:=Int.dvd_add (Int.dvd_trans d2 (Int.dvd_mul_right (q:Int) (a / (q:Int)))) d1
  rwa [hr,Int.mul_ediv_add_emod]at h
 have d4:Nat.gcd (rsd a q) q∣n:=Nat.dvd_trans (Nat.gcd_dvd_right _ _) (Nat.dvd_of_mod_eq_zero hq)
 have d5:Nat.gcd (rsd a q) q∣Int.gcd a n:=Nat.dvd_gcd (by simpa using Int.natAbs_dvd_natAbs.2 d3) (by simpa using d4)
 rw[hg]at d5
 exact Nat.dvd_one.1 d5
attribute [local irreducible] lrun lwp exThen exBlk keep goodPost ec pt gn od lgA
theorem aWo {m:Int}{l:List Int}(hb:ChB m l) (a:Int) (ha: -4294967296≤a∧a≤4294967296) (hm:1≤m∧m≤60) (hg:Int.gcd a m≠1):PureGood Tryz.prog 77 [.agg [i64 m,.sl l.length (ec l)],i64 a] (.agg [bl true,i64 0,i64 0]):=by
 have gg:=qH a m (by omega) (by omega)
 have h1:¬((Int.gcd a m:Nat):Int)=1:=by omega
 generalize Int.gcd a m=g at*
 simp only[i64,bl]at*
 refine aA bC Tryz.func77 rfl (by decide) (nt:=62) rfl (rs:=[.cell 4 89]) rfl (aZ rfl) ?_
 refine xM ?_
 exact zQ3
theorem aWp {n:Nat}{v:List Nat}(n1:1≤n) (n2:n≤60) (hv:v.length=(od n).length) (hv2:∀ i,v.getD i 0≤60) (a:Int) (ha: -4294967296≤a∧a≤4294967296) (hg:Int.gcd a n=1):PureGood Tryz.prog 77 [.agg [i64 n,.sl (nI v).length (ec (nI v))],i64 a] (.agg [bl false,i64 ((vf n v a (od n).length).1:Nat),i64 ((vf n v a (od n).length).2:Nat)]):=by
 have gg:=qH a n (by omega) (by omega)
 rw[hg]at gg
 have gp:=xH n1 n2
 rw[nZ]at gp
 obtain⟨t1,t2,t3,t4,t5,t6,t7,t8,t9⟩:=tb (m:=n) n2
 have hvl:=dW v
 have hbd:=fun i (hi:i≤(od n).length)=>bN4 n2 v a i hi
 simp only[i64,bl]at gg gp⊢
 rw[hvl,hv]
 generalize hk:(od n).length=k at*
 refine aA bC Tryz.func77 rfl (by decide) (nt:=62) rfl (rs:=[.cell 4 89]) rfl (aZ rfl) ?_
 refine xM ?_
 refine aI (α:={i:Nat // i≤k}) (fun i=>st 62 (lk [(1,i64 a),(2,.ptr 0 0),(4,.ptr 1 0),(5,i64 ((vf n v a i.1).1:Nat)),(6,i64 ((vf n v a i.1).2:Nat)),(18,.sl k (ec (nI (pt n)))),(19,i64 k),(20,i64 i.1)]) (cP [(0,⟨25,[i64 n,.sl k (ec (nI v))],false⟩),(1,⟨89,[bl false,i64 0,i64 0],false⟩)]) 2) (fun i=>k-i.1) ⟨0,by omega⟩ ?_ ?_
 ·exact zL3 [0,1]
 ·rintro⟨i,hi⟩
  simp only[st]
  by_cases hlt:i<k
  ·obtain⟨q1,q2,q3⟩:=bVi (n:=n) (i:=i) n2 (by omega)
   have hX:=bN3 (pt n) i (by omega)
   rw[(t7 i (by omega)).1]at hX
   have hqle:pQ n i≤60:=aC0 t4
   have hrle:pR n i≤60:=aC0 t4
   have ho:=aA0 (m:=n) (i:=i) n2 (by omega)
   have hp:=dW (pt n)
   have hr0:0≤a % (pQ n i:Int):=Int.emod_nonneg _ (by omega)
   have hr1:a % (pQ n i:Int)<(pQ n i:Int):=Int.emod_lt_of_pos _ (by omega)
   have hre:a % (pQ n i:Int)=((rsd a (pQ n i):Nat):Int):=by unfold rsd;omega
   have gl:=aEz (pR n i) ((od n).getD i 0) (pQ n i) a (rsd a (pQ n i)) hre (by omega) (by omega) (by omega) ha (q3 _ (by omega) (bId q1 q2 hg))
   have hlle:=bVj (pR n i) (pQ n i) (rsd a (pQ n i)) (by omega)
   have hvi:=rU v i
   have hve:=hv2 i
   have hb:=hbd i (by omega)
   have hvf:vf n v a (i+1)=vs (vf n v a i) ((od n).getD i 0) (v.getD i 0) (lgA (pR n i) (pQ n i) (rsd a (pQ n i))):=rfl
   have h60:(60:Nat)^i≤3600:=by
    have:i≤2:=by omega
    match i,this with
    |0,_=>decide
    |1,_=>decide
    |2,_=>decide
   unfold pR pQ at*
   generalize lgA ((pt n).getD (3*i) 0) ((pt n).getD (3*i+2) 0) (rsd a ((pt n).getD (3*i+2) 0))=lg at*
   generalize (pt n).getD (3*i) 0=ra at*
   generalize (pt n).getD (3*i+2) 0=rc at*
   generalize (od n).getD i 0=o at*
   generalize v.getD i 0=e at*
   generalize vf n v a i=s at*
   obtain⟨x,y⟩:=s
   simp only at hb hvf⊢
   unfold vs at hvf
   simp only at hvf
   have m1:x*o≤3600*60:=Nat.mul_le_mul (by omega) (by omega)
   have m2:e*lg≤60*100:=Nat.mul_le_mul (by omega) (by omega)
   have m3:e*lg*y≤60*100*3600:=Nat.mul_le_mul m2 (by omega)
   have m4:y*o≤3600*60:=Nat.mul_le_mul (by omega) (by omega)
   have m5:1≤y*o:=Nat.mul_pos (by omega) (by omega)
   have c1:(x:Int)*(o:Int)=((x*o:Nat):Int):=by simp
   have c2:(e:Int)*(lg:Int)=((e*lg:Nat):Int):=by simp
   have c3:((e*lg:Nat):Int)*(y:Int)=((e*lg*y:Nat):Int):=by simp
   have c4:(y:Int)*(o:Int)=((y*o:Nat):Int):=by simp
   have c5:((x*o:Nat):Int)+((e*lg*y:Nat):Int)=((x*o+e*lg*y:Nat):Int):=by simp
   generalize x*o=A at*
   generalize hel:e*lg=B at*
   generalize B*y=C at*
   generalize y*o=Dn at*
   generalize hN:A+C=N at*
   have gg2:=qH (N:Int) (Dn:Int) (by omega) (by omega)
   have hgc:Int.gcd (N:Int) (Dn:Int)=Nat.gcd N Dn:=rfl
   rw[hgc]at gg2
   have hgp:0<Nat.gcd N Dn:=Nat.gcd_pos_of_pos_right _ m5
   have hgle:Nat.gcd N Dn≤Dn:=Nat.le_of_dvd m5 (Nat.gcd_dvd_right _ _)
   generalize Nat.gcd N Dn=g at*
   have d1:(N:Int) / (g:Int)=((N / g:Nat):Int):=rfl
   have d2:(Dn:Int) / (g:Int)=((Dn / g:Nat):Int):=rfl
   have d3:0<Dn / g:=Nat.div_pos hgle hgp
   have d4:N / g≤N:=Nat.div_le_self _ _
   have d5:Dn / g≤Dn:=Nat.div_le_self _ _
   generalize N / g=x2 at*
   generalize Dn / g=y2 at*
   have d6:(x2:Int) % (y2:Int)=((x2 % y2:Nat):Int):=rfl
   generalize x2 % y2=z2 at*
   have hg0:¬(g:Int)=0:=by omega
   have hy0:¬(y2:Int)=0:=by omega
   simp only[i64]at gl gg2
   refine wR (nd hX (nd hp (nd t1 (nd hvi (nd c1 (nd c2 (nd c3 (nd c4 (nd c5 (nd d1 (nd d2 d6))))))))))) ?_
   refine⟨⟨i+1,by omega⟩,?_,by simp only;omega⟩
   rw[hvf]
   exact zL3 [0,1]
  ·obtain rfl:i=k:=by omega
   refine xM ?_
   exact zQ3
end
end Go.Proofs.YtaidcaemdkncgaaGreatDoor
namespace Go.Num
section
def svS (d:Nat→Nat) (x:Nat→Int) (n:Nat) (j:Nat):Int:=if n % d j=0 then x j else 0
def sv (d:Nat→Nat) (x:Nat→Int) (k n:Nat):Int:=aAw (svS d x n) k
def dc (c:List Int) (j:Nat):Int:=((j+1:Nat):Int)*c.getD j 0
def sS (c:List Int) (n:Nat):Int:=sv (fun j=>j+1) (dc c) c.length n
def qs (s:Nat→Int) (a:Nat→Rat) (n:Nat):Nat→Rat
 |0=>0
 |i+1=>qs s a n i+(s (i+1):Rat)*a (n-1-i)
structure ProdOk (c:List Int) (a:Nat→Rat):Prop where
 len:c.length≤999
 cs:∀ x∈c,-4800≤x∧x≤4800
 a0:a 0=1
 step:∀ n,1≤n→n≤c.length→a n= -(qs (sS c) a n n) / ((n:Int):Rat)
 ba:∀ n,n≤c.length→lq (a n)≤1000
 bq:∀ n i,1≤n→n≤c.length→i≤n→lq (qs (sS c) a n i)≤1000
theorem bVk {z:Int}{e:Nat}(h:z.natAbs<4294967296^e):len z≤e:=bT h
end
section
theorem aWq {α:Type}{f g:Nat→α}{N i:Nat}{v:α}(hv:g i=v) (hg:∀ m,m<N→m≠i→g m=f m):
  ((List.range N).map f).set i v=(List.range N).map g:=by
 refine List.ext_getElem (by simp) (fun m h1 h2=> ?_)
 simp only[List.length_map,List.length_range]at h2
 rw[List.getElem_set]
 split
 ·rename_i h;subst h;simp[hv]
 ·rename_i h;simp[hg m h2 (fun e=>h e.symm)]
theorem aQt {α:Type}{f:Nat→α}{N i:Nat}{z:α}(h:i<N):((List.range N).map f).getD i z=f i:=by simp[List.getD,h]
def aP (a:Nat→Rat) (m:Nat):List Rat:=(List.range m).map a
theorem eP (a:Nat→Rat) (m:Nat):(aP a m).length=m:=by simp[aP]
theorem pE (a:Nat→Rat) (m:Nat):aP a (m+1)=aP a m++[a m]:=by simp[aP,List.range_succ]
theorem rV {a:Nat→Rat}{m i:Nat}(h:i<m):(aP a m).getD i 0=a i:=aQt h
end
end Go.Num
