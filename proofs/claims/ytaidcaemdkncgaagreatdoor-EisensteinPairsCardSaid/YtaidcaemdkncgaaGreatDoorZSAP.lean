/- Contracts of functions of the program, and what proves them (texts: Lg24 AL EncE NumE AD AE G0 Gg G1 G1xa G1xb G1xc G1c NumJ G2 G3 F2 G4 G5 NumF). -/
import Derived.KernelRfl
import Derived.Test.YtaidcaemdkncgaaGreatDoorZSAC
import Derived.Test.YtaidcaemdkncgaaGreatDoorZSAD
import Derived.Test.YtaidcaemdkncgaaGreatDoorZSAH
import Derived.Test.YtaidcaemdkncgaaGreatDoorZSAL
import Derived.Test.YtaidcaemdkncgaaGreatDoorZSAM
import Derived.Test.YtaidcaemdkncgaaGreatDoorZSAN
set_option linter.all false
set_option maxRecDepth 100000
set_option maxHeartbeats 8000000
namespace Go.Lg
section
open Go
section
variable {P:Program}[Laid P] {base i:Nat}{mu:Bool}{ok:Nat→Nat→Bool}{ops:Array Oper}{K:LS→Prop}
theorem aO1:∀ (l l':List Oper) (i:Nat) {s:LS}{j:Nat}{s':LS},xR P base ok ops i l (some s)=(j,[],some s')→lrun P mu base ok ops j l' s' K→lrun P mu base ok ops i (l++l') s K
 |[],l',i,s,j,s',h,hk=>by simp only[xR,Prod.mk.injEq,Option.some.injEq]at h;obtain⟨rfl,_,rfl⟩:=h;exact hk
 |o::rest,l',i,s,j,s',h,hk=>by
  unfold xR at h;split at h
  · simp at h
  · cases hs:tM P (base+i) (ok i) ops o s with
    |none=>
     rw[hs]at h
     exfalso
     cases rest <;>simp[xR]at h
    |some s1=>
     rw[hs]at h
     exact .inl (aCv hs (aO1 rest l' (i+1) h hk))
theorem aVh (k:Nat) {l:List Oper}{s:LS}{j:Nat}{s':LS}(hrun:xR P base ok ops i (l.take k) (some s)=(j,[],some s')) (hnext:lrun P mu base ok ops j (l.drop k) s' K):lrun P mu base ok ops i l s K:=by
 have:=aO1 (mu:=mu) (K:=K) (l.take k) (l.drop k) i hrun hnext
 rwa [List.take_append_drop]at this
theorem aO2 {t dd b nn e z by_ m:Nat}{zl cells news:List LV}{n nb:Nat}{F:Nat→LV}{H:Nat→Option Blk}{d x:Operand}{ty:TypeId}{p:String}{a:Array Edge}{rest:List Oper}
  (hdn:dd<n) (he:aZ P t=some e) (hz:aL P e=some (z+1)) (hby:bI P e=some by_) (hzl:bT P e=some zl) (hd:opnd ⟨n,F,H,nb⟩ d= .own b 0 nn (z+1)) (hb:H b=some ⟨e,cells,false⟩) (hnk:nn*(z+1)≤cells.length)
  (hsrc:aDh ⟨n,F,H,nb⟩ (fun _=>true) (z+1) (opnd ⟨n,F,H,nb⟩ x)=some (m,news)) (hm0:m≠0) (hbb:(nn+m)*by_≤140737488355328) (hml:nn+m≤maxLen)
  (hB:lrun P true base ok ops (i+1) rest ⟨n,dE F dd (.own b 0 (nn+m) (z+1)),dE H b (some ⟨e,cells.take (nn*(z+1))++news,false⟩),nb⟩ K)
  (hA:lrun P true base ok ops (i+1) rest ⟨n,dE F dd (.own (base+i) 0 (nn+m) (z+1)),dE H (base+i) (some ⟨e,cells.take (nn*(z+1))++news,false⟩),nb⟩ K):
  lrun P true base ok ops i (⟨some dd,.call {callee:= .builtin .append,args:= #[d,x],argTypes:= #[t,t]},ty,p,a,none⟩::rest) ⟨n,F,H,nb⟩ K:=
 .inr (.inr ⟨rfl,t,d,x,dd,b,nn,e,z,by_,zl,⟨e,cells,false⟩,m,news,rfl,rfl,hdn,rfl,he,hz,hby,hzl,hd,hb,rfl,rfl,hnk,hsrc,hm0,hbb,hml,hB,hA⟩)
end
theorem aJa {St:Nat→Prop}{hp:Array Obj}{μ:Nat→Option (Nat×Nat)}{x:LV}:∀ {cs:List LV}{vs:List Value},Reps St hp μ (cs++[x]) vs→∃ us u,vs=us++[u]∧Reps St hp μ cs us∧Rep St hp μ x u
 |[],vs,h=>by
  obtain⟨u,us,rfl,hu,hs⟩:=Reps.head h;obtain rfl:us=[]:=List.eq_nil_of_length_eq_zero hs.1.symm
  exact⟨[],u,rfl,Reps.nil,hu⟩
 |c::cs,vs,h=>by
  obtain⟨u,us,rfl,hu,hs⟩:=Reps.head (cs:=cs++[x]) h;obtain⟨us',u',rfl,h1,h2⟩:=aJa hs;exact⟨u::us',u',rfl,Reps.cons hu h1,h2⟩
theorem bDq {St:Nat→Prop}{hp:Array Obj}{μ μ':Nat→Option (Nat×Nat)}{r:LV}{v:Value}(h:r= .tup []) (hr:Rep St hp μ r v):Rep St hp μ' r v:=by
 subst h
 cases hr with
 |tup hl _=>exact .tup hl (fun j c u hc _=>by simp at hc)
theorem bDr {P:Program}[Laid P] {f:FuncId}{pre:List LV}{ts te n n' k0:Nat}{cells cells':List LV}{r:LV}
  (hg:mP P f (pre++[.ptr 0 0]) (cG [(0,⟨ts,[.own 1 0 n 1],false⟩),(1,⟨te,cells,false⟩)]) 2 r (cG [(0,⟨ts,[.own 2 0 n' 1],false⟩),(2,⟨te,cells',false⟩)]) k0)
  (hpre:∀ c∈pre,aB c=true) (hr:r= .tup []) (hpl:∀ c∈cells,aB c=true) (hpl':∀ c∈cells',aB c=true)
  {h:Nat→Option Blk}{c b nb:Nat}(hc:h c=some ⟨ts,[.own b 0 n 1],false⟩) (hb:h b=some ⟨te,cells,false⟩) (hne:c≠b):
  mP P f (pre++[.ptr c 0]) h nb r (dE (dE (dE h b none) c (some ⟨ts,[.own nb 0 n' 1],false⟩)) nb (some ⟨te,cells',false⟩)) (nb+1):=by
 obtain⟨hen,hgood⟩:=hg;refine⟨hen,fun w0 M St0 μ St w vs hL h0 hnb hvs=> ?_⟩;obtain⟨g1,R1,cs1,hμ1,hg1,hsz1,hle1,hr1,ho1,_,hns1⟩:=h0.blk c _ hc;obtain⟨g2,R2,cs2,hμ2,hg2,hsz2,hle2,hr2,ho2,_,hns2⟩:=h0.blk b _ hb;have hns1:=hns1 rfl;have hns2:=hns2 rfl;have hlt1:=(h0.lt c g1 R1 hμ1).1;have hlt2:=(h0.lt b g2 R2 hμ2).1;have h12:g1≠g2:=fun e=>hne (h0.inj c b _ _ g1 R1 R2 hc hb hμ1 (by rw[e];exact hμ2))
 have hcn:c<nb:=Nat.lt_of_not_le fun hh=>by rw[hnb c hh]at hμ1;cases hμ1
 have hbn:b<nb:=Nat.lt_of_not_le fun hh=>by rw[hnb b hh]at hμ2;cases hμ2
 obtain⟨us,u,rfl,hus,hu⟩:=aJa hvs
 have hu':Rep St w.heap (fun x=>if x=0 then some (g1,R1)else if x=1 then some (g2,R2)else none) (.ptr 0 0) u:=by
  cases hu with
  |ptr hh=>rw[hμ1]at hh;cases hh;exact .ptr rfl
 have hsm:Inv w (fun g=>g=g1∨g=g2) St ⟨0,fun _=> .dead,cG [(0,⟨ts,[.own 1 0 n 1],false⟩),(1,⟨te,cells,false⟩)],0⟩ (fun x=>if x=0 then some (g1,R1)else if x=1 then some (g2,R2)else none) St #[] w:=by
  refine⟨fun _=> .dead _,rfl,?_,?_,?_,fun g hg=>⟨(h0.st_lt g hg).1,.inl hg⟩,fun _ h=>h,rfl,rfl,rfl,Nat.le_refl _,fun _ _ _=>rfl⟩
  ·intro x k hx
   match x with
   |0=>
    simp[cG]at hx
    subst hx;refine⟨g1,R1,cs1,rfl,hg1,hsz1,hle1,?_,ho1,by simp,fun _=>hns1⟩;obtain⟨u1,us1,he,hu1,hs1⟩:=Reps.head hr1;rw[List.length_singleton]at he⊢
    rw[he];obtain rfl:us1=[]:=List.eq_nil_of_length_eq_zero hs1.1.symm;refine Reps.cons ?_ Reps.nil
    cases hu1 with
    |own hh hn hcp hR=>rw[hμ2]at hh;cases hh;exact .own rfl hn hcp hR
   |1=>
    simp[cG]at hx
    subst hx
    exact⟨g2,R2,cs2,rfl,hg2,hsz2,hle2,fE hpl hr2,ho2,by simp,fun _=>hns2⟩
   |x+2=>simp[cG]at hx
  ·intro x y k k' g R R' hx hy hm hm'
   match x,y with
   |0,0=>rfl
   |1,1=>rfl
   |0,1=>simp at hm hm';exact absurd (hm.1.trans hm'.1.symm) h12
   |1,0=>simp at hm hm';exact absurd (hm'.1.trans hm.1.symm) h12
   |x+2,_=>simp[cG]at hx
   |_,y+2=>simp[cG]at hy
  ·intro x g R hm
   match x with
   |0=>simp at hm;obtain⟨rfl,rfl⟩:=hm;exact⟨hlt1,.inl (.inl rfl)⟩
   |1=>simp at hm;obtain⟨rfl,rfl⟩:=hm;exact⟨hlt2,.inl (.inr rfl)⟩
   |x+2=>simp at hm
 have fY:fO P w (fun g=>g=g1∨g=g2) St:=by
  have hl:=h0.laid hL;refine fO.of hl fun g hg=>⟨?_,(h0.st_lt _ hg).1⟩
  rintro(e |e)
  ·exact hns1 (e ▸ hg)
  ·exact hns2 (e ▸ hg)
 refine(hgood w _ St _ St w (us++[u]) fY hsm (fun x hx=>by
  match x,hx with
  |x+2,_=>simp) ((fE hpre hus).append (Reps.cons hu' Reps.nil))).mono ?_
 rintro e w' ⟨v,μ',St',rfl,hI,hv,hm1,hm2,hS1,hS2⟩;obtain⟨ga,Ra,csa,hma,hga,hsa,hla,hra,hoa,_,hna⟩:=hI.blk 0 ⟨ts,[.own 2 0 n' 1],false⟩ (by simp[cG]);obtain⟨g3,R3,cs3,hm3,hg3,hs3,hl3,hr3,ho3,_,hn3⟩:=hI.blk 2 ⟨te,cells',false⟩ (by simp[cG]);have hn3:=hn3 rfl;have hna:=hna rfl;have e0:=hm1 0 (by omega);simp only[if_true]at e0;rw[hma]at e0
 obtain⟨rfl,rfl⟩:ga=g1∧Ra=R1:=by cases e0;exact⟨rfl,rfl⟩
 have h13:ga≠g3:=fun e=>by
  have:=hI.inj 0 2 ⟨ts,[.own 2 0 n' 1],false⟩ ⟨te,cells',false⟩ ga Ra R3 (by simp[cG]) (by simp[cG]) hma (by rw[hm3,e]);omega
 have g3w:=(hI.lt 2 g3 R3 hm3)
 have hex:∀ x r,μ x=some r→dE μ nb (μ' 2) x=some r:=fun x r hx=>by
  rw[bW _ _ _ _ (fun e=>by subst e;rw[hnb _ (Nat.le_refl _)]at hx;cases hx)];exact hx
 have hold:∀ x k g R,x≠c→x≠b→h x=some k→μ x=some (g,R)→g≠ga∧g≠g2:=fun x k g R h1 h2 hx hm=>⟨fun e=>h1 (h0.inj x c _ _ g R Ra hx hc hm (by rw[e];exact hμ1)),fun e=>h2 (h0.inj x b _ _ g R R2 hx hb hm (by rw[e];exact hμ2))⟩
 have look:∀ x k,dE (dE (dE h b none) c (some ⟨ts,[.own nb 0 n' 1],false⟩)) nb (some ⟨te,cells',false⟩) x=some k→x=nb∧k=⟨te,cells',false⟩∨x≠nb∧x=c∧k=⟨ts,[.own nb 0 n' 1],false⟩∨x≠nb∧x≠c∧x≠b∧h x=some k:=by
  intro x k hx;by_cases h1:x=nb
  ·subst h1;rw[cH]at hx
   cases hx
   exact .inl ⟨rfl,rfl⟩
  ·rw[bW _ _ _ _ h1]at hx
   by_cases h2:x=c
   ·subst h2;rw[cH]at hx
    cases hx
    exact .inr (.inl ⟨h1,rfl,rfl⟩)
   ·rw[bW _ _ _ _ h2]at hx
    by_cases h3:x=b
    ·subst h3;rw[cH]at hx
     cases hx
    ·rw[bW _ _ _ _ h3]at hx
     exact .inr (.inr ⟨h1,h2,h3,hx⟩)
 have g3old:∀ g,g<w.heap.size→g≠ga→g≠g2→g≠g3:=fun g hl h1 h2 e=>by
  subst e;rcases g3w.2 with(hh |hh) |hh |hh
  ·exact h1 hh
  ·exact h2 hh
  ·omega
  ·exact hn3 hh
 have Mback:∀ g,g=ga∨g=g2→M g∨w0.heap.size≤g:=fun g hg=>by
  rcases hg with rfl |rfl
  ·rcases(h0.lt c _ _ hμ1).2 with hh |hh |hh
   ·exact .inl hh
   ·exact .inr hh
   ·exact absurd hh hns1
  ·rcases(h0.lt b _ _ hμ2).2 with hh |hh |hh
   ·exact .inl hh
   ·exact .inr hh
   ·exact absurd hh hns2
 refine⟨v,dE μ nb (μ' 2),St',rfl,?_,bDq hr hv,fun x hx=>bW _ _ _ _ (by omega),fun x hx=>by rw[bW _ _ _ _ (by omega)];exact hnb x (by omega),hS1,hS2⟩;refine⟨fun _=> .dead _,rfl,?_,?_,?_,?_,fun g hg=>hS1 g (h0.st0 g hg),hI.os.trans h0.os,hI.tape.trans h0.tape,hI.output.trans h0.output,Nat.le_trans h0.size hI.size,?_⟩
 ·intro x k hx;rcases look x k hx with⟨rfl,rfl⟩ |⟨h1,rfl,rfl⟩ |⟨h1,h2,h3,hx'⟩
  ·exact⟨g3,R3,cs3,by rw[cH,hm3],hg3,hs3,hl3,fE hpl' hr3,ho3,by simp,fun _=>hn3⟩
  ·refine⟨ga,Ra,csa,by rw[bW _ _ _ _ h1];exact hμ1,hga,hsa,hla,?_,hoa,by simp,fun _=>hna⟩;obtain⟨u1,us1,he,hu1,hs1⟩:=Reps.head hra;rw[List.length_singleton]at he⊢
   rw[he];obtain rfl:us1=[]:=List.eq_nil_of_length_eq_zero hs1.1.symm;refine Reps.cons ?_ Reps.nil
   cases hu1 with
   |own hh hn hcp hR=>exact .own (by rw[cH];exact hh) hn hcp hR
  ·obtain⟨g,R,cs,hm,hg,hs,hl,hrr,ho,hf1,hf2⟩:=h0.blk x k hx';obtain⟨hx1,hx2⟩:=hold x k g R h2 h3 hx' hm;have hlt:=(h0.lt x g R hm).1;refine⟨g,R,cs,hex _ _ hm,by rw[hI.kept g hlt (by rintro(e |e);exact hx1 e;exact hx2 e)];exact hg,hs,hl,hrr.mono hS1 hS2 hex,ho,fun hh=>hS1 g (hf1 hh),fun hh hst=> ?_⟩;rcases(hI.st_lt g hst).2 with h4 |(h4 |h4) |h4
   ·exact hf2 hh h4
   ·exact hx1 h4
   ·exact hx2 h4
   ·omega
 ·have key:∀ x k g R,x≠nb→dE (dE (dE h b none) c (some ⟨ts,[.own nb 0 n' 1],false⟩)) nb (some ⟨te,cells',false⟩) x=some k→μ x=some (g,R)→g≠g3∧(x=c∨x≠c∧x≠b∧h x=some k):=by
   intro x k g R hxn hx hm;rcases look x k hx with⟨h1,_⟩ |⟨_,h2,_⟩ |⟨_,h2,h3,hx'⟩
   ·exact absurd h1 hxn
   ·subst h2;rw[hμ1]at hm
    cases hm
    exact⟨h13,.inl rfl⟩
   ·obtain⟨a1,a2⟩:=hold x k g R h2 h3 hx' hm;exact⟨g3old g (h0.lt x g R hm).1 a1 a2,.inr ⟨h2,h3,hx'⟩⟩
  intro x y k k' g R R' hx hy hm hm';by_cases hxn:x=nb <;>by_cases hyn:y=nb
  ·rw[hxn,hyn]
  ·subst hxn;rw[cH,hm3]at hm
   rw[bW _ _ _ _ hyn]at hm'
   cases hm
   exact absurd rfl (key y k' _ _ hyn hy hm').1
  ·subst hyn;rw[cH,hm3]at hm'
   rw[bW _ _ _ _ hxn]at hm
   cases hm'
   exact absurd rfl (key x k _ _ hxn hx hm).1
  ·rw[bW _ _ _ _ hxn]at hm
   rw[bW _ _ _ _ hyn]at hm'
   obtain⟨kx,hkx⟩:∃ kx,h x=some kx:=by
    rcases(key x k g R hxn hx hm).2 with rfl |⟨_,_,hh⟩
    ·exact⟨_,hc⟩
    ·exact⟨_,hh⟩
   obtain⟨ky,hky⟩:∃ ky,h y=some ky:=by
    rcases(key y k' g R' hyn hy hm').2 with rfl |⟨_,_,hh⟩
    ·exact⟨_,hc⟩
    ·exact⟨_,hh⟩
   exact h0.inj x y kx ky g R R' hkx hky hm hm'
 ·intro x g R hm;by_cases hxn:x=nb
  ·subst hxn;rw[cH,hm3]at hm
   cases hm
   refine⟨g3w.1,?_⟩;rcases g3w.2 with hh |hh |hh
   ·exact(Mback _ hh).imp id .inl
   ·exact .inr (.inl (Nat.le_trans h0.size hh))
   ·exact .inr (.inr hh)
  ·rw[bW _ _ _ _ hxn]at hm
   exact⟨Nat.lt_of_lt_of_le (h0.lt x g R hm).1 hI.size,(h0.lt x g R hm).2.imp id (Or.imp id (hS1 g))⟩
 ·intro g hg;refine⟨(hI.st_lt g hg).1,?_⟩;rcases(hI.st_lt g hg).2 with hh |hh |hh
  ·exact(h0.st_lt g hh).2
  ·exact .inr (Mback g hh)
  ·exact .inr (.inr (Nat.le_trans h0.size hh))
 ·intro g hlt hM;rw[hI.kept g (Nat.lt_of_lt_of_le hlt h0.size) (fun hh=> ?_)]
  ·exact h0.kept g hlt hM
  ·rcases Mback g hh with h1 |h1
   ·exact hM h1
   ·omega
end
section
open Go
noncomputable def aSq (P:Program) [Laid P] (orc:FuncId→List LV→Option LV) (horc:Callf) (mode:FuncId→Nat) (bad:List Nat) (d:Nat):Callf:=
 Nat.rec (motive:=fun _=>Callf) (fun _ _ _ _=>none) (fun _ ih f args hp nb=>match horc f args hp nb with
  |some x=>some x
  |none=>match fnB P bad f with
   |some b=>aU1 P orc mode ih args hp nb b
   |none=>none) d
section
variable {P:Program}[Laid P] {orc:FuncId→List LV→Option LV}{horc:Callf}{mode:FuncId→Nat}{bad:List Nat}
attribute [local irreducible] evC
theorem yJ (hmix:P.follows .mixedOrders=true) (ho:eV P orc) (hh:qK P horc) (hB:zQ P bad):∀ d,qK P (aSq P orc horc mode bad d)
 |0=>fun f args hp nb r hp' nb' h=>by
  have h:(none:Option (LV×List (Nat×Blk)×Nat))=some (r,hp',nb'):=h
  cases h
 |d+1=>fun f args hp nb r hp' nb' h=>by
  have ih:=yJ hmix ho hh hB d
  have h:(match horc f args hp nb with
    |some x=>some x
    |none=>match fnB P bad f with
     |some b=>aU1 P orc mode (aSq P orc horc mode bad d) args hp nb b
     |none=>none)=some (r,hp',nb'):=h
  split at h
  · rename_i x hx
    cases h
    exact hh _ _ _ _ _ _ _ hx
  split at h
  · rename_i b hb0;unfold fnB at hb0;split at hb0
    · rename_i fn hf;split at hb0
      · rename_i c hb
        cases hbad:bad.elem f with
        |true=>rw[hbad,cond_true]at hb0;cases hb0
        |false=>
         rw[hbad,cond_false]at hb0
         cases hb0
         obtain⟨hname,hd⟩:=hB f fn c hf hbad hb;unfold aU1 at h;simp only at h
         cases hlen0:Nat.ble args.length fn.ntmps with
         |false=>rw[hlen0,cond_false]at h;cases h
         |true=>
          rw[hlen0,cond_true]at h
          have hlen:args.length≤fn.ntmps:=Nat.le_of_ble_eq_true hlen0
          have fin:∀ (e:Exit) (t:ES),evC P orc mode (aSq P orc horc mode bad d) c ⟨fn.ntmps,aOc 0 args .nil,hp,nb⟩=some (e,t)→(e= .ret∨e= .normal)→aYi P nb fn.results.toList t=some (r,hp',nb')→nb≤nb'∧mP P f args (yS hp) nb r (yS hp') nb':=by
            intro e t he hret hr;unfold aYi at hr;split at hr
            · rename_i r' hres
              cases hle:Nat.ble nb t.nb with
              |false=>rw[hle,cond_false]at hr;cases hr
              |true=>
               rw[hle,cond_true]at hr
               cases hr
               refine⟨Nat.le_of_ble_eq_true hle,lT hmix hf hb hname rfl rfl hlen ?_⟩;have key:=aI1 (na:=nb) ho ih c hd ⟨fn.ntmps,aOc 0 args .nil,hp,nb⟩ t e (aNi P fn.results.toList r (yS t.hp) t.nb) he (by rcases hret with rfl |rfl <;>exact⟨hres,rfl,Nat.le_refl _⟩)
               have e1:ES.ls ⟨fn.ntmps,aOc 0 args .nil,hp,nb⟩=⟨fn.ntmps,fun i=>args.getD i .dead,yS hp,nb⟩:=by
                 simp only[ES.ls];congr 1
                 funext i
                 rw[aUs];simp
               rw[e1]at key
               exact key
            · cases hr
          unfold bKg at h;split at h
          · rename_i t he;exact fin _ t he (.inl rfl) h
          · rename_i t he;exact fin _ t he (.inr rfl) h
          · cases h
      · cases hb0
    · cases hb0
  · cases h
noncomputable def aSr (P:Program) [Laid P] (orc:FuncId→List LV→Option LV) (horc:Callf) (mode:FuncId→Nat) (bad:List Nat) (d:Nat) (f:FuncId) (args:List LV):Option LV:=
 match aSq P orc horc mode bad d f args [] 0 with
 |some (r,hp,_)=>pvF hp r
 |none=>none
theorem oI (hmix:P.follows .mixedOrders=true) (ho:eV P orc) (hh:qK P horc) (hB:zQ P bad) {d:Nat}{f:FuncId}{args:List LV}{r:LV}(h:aSr P orc horc mode bad d f args=some r):cU P f args r:=by
 unfold aSr at h;split at h
 ·rename_i r0 hp nb hcf;rw[aR3]at h
  obtain⟨p,hpv,rfl⟩:=Option.map_eq_some_iff.1 h;exact aIz (yJ hmix ho hh hB d _ _ _ _ _ _ _ hcf).2 hpv
 ·cases h
end
end
end Go.Lg
namespace Go.Proofs.YtaidcaemdkncgaaGreatDoor
open Go Go.Lg Go.Num
def eW (z:Int):Bool:=Nat.ble (z.natAbs+1) (4294967296^100)
theorem lG {z:Int}(h:eW z=true):len z≤100:=bV (k:=100) (Nat.le_of_ble_eq_true h)
theorem pW {z:Int}(h:eW z=true):LV.agg (wrI z)=aO z:=by
 rw[aY,aLa (Nat.le_of_ble_eq_true h)]
def aD4 (args:List LV):Option LV:=
 match args with
 |[.agg [a,b],.agg [c,d]]=>match rdI a b,rdI c d with
  |some x,some y=>iE (x*y) fun r=>bif eW x && eW y && eW r then some (.agg (wrI r))else none
  |_,_=>none
 |_=>none
theorem aSs {args:List LV}{r:LV}(h:aD4 args=some r):PGd 141 args r:=by
 unfold aD4 at h;split at h
 ·split at h
  ·rename_i a b c d x y h1 h2;rw[cY]at h
   cases hb:(eW x && eW y && eW (x*y))with
   |true=>
    rw[hb]at h
    simp only[Bool.and_eq_true]at hb
    cases h
    have hx:=lG hb.1.1;have hy:=lG hb.1.2;obtain⟨rfl,rfl⟩:=kB h1;obtain⟨rfl,rfl⟩:=kB h2;rw[pW hb.2];have:=gD x y (by omega) (by omega)
    rwa [aY x,aY y]at this
   |false=>rw[hb]at h;cases h
  ·cases h
 ·cases h
def aLc (args:List LV):Option LV:=
 match args with
 |[.agg [a,b],.agg [c,d]]=>match rdI a b,rdI c d with
  |some x,some y=>iE (x / y) fun r=>bif eW x && eW y && eW r && !(y==0) && (x % y==0)then some (.tup [.agg (wrI r),.lit (.int .i64 0)])else none
  |_,_=>none
 |_=>none
theorem aY0 {args:List LV}{r:LV}(h:aLc args=some r):PGd 229 args r:=by
 unfold aLc at h;split at h
 ·split at h
  ·rename_i a b c d x y h1 h2;rw[cY]at h
   cases hb:(eW x && eW y && eW (x / y) && !(y==0) && (x % y==0))with
   |true=>
    rw[hb]at h
    simp only[Bool.and_eq_true,Bool.not_eq_true',beq_eq_false_iff_ne,ne_eq,beq_iff_eq]at hb
    cases h
    have hx:=lG hb.1.1.1.1;have hy:=lG hb.1.1.1.2;obtain⟨rfl,rfl⟩:=kB h1;obtain⟨rfl,rfl⟩:=kB h2;rw[pW hb.1.1.2];have:=kU x y hb.1.2 hb.2 (by omega) (by omega)
    rwa [aY x,aY y]at this
   |false=>rw[hb]at h;cases h
  ·cases h
 ·cases h
def aLd (args:List LV):Option LV:=
 match args with
 |[.agg l,.agg m]=>match rdQ l,rdQ m with
  |some x,some y=>fQ (x / y) fun r=>bif dS x && dS y && dS r && !(y.num==0)then some (.tup [wrQ r,.lit (.int .i64 0)])else none
  |_,_=>none
 |_=>none
theorem aY1 {args:List LV}{r:LV}(h:aLd args=some r):PGd 85 args r:=by
 unfold aLd at h;split at h
 ·split at h
  ·rename_i l m x y h1 h2;rw[aOy]at h
   cases hb:(dS x && dS y && dS (x / y) && !(y.num==0))with
   |true=>
    rw[hb]at h
    simp only[Bool.and_eq_true,Bool.not_eq_true',beq_eq_false_iff_ne,ne_eq]at hb
    cases h
    have hx:=eM hb.1.1.1;have hy:=eM hb.1.1.2;rw[aBw hb.1.2,vA h1,vA h2]
    exact uT x y (fun e=>hb.2 (by rw[e];rfl)) (by omega) (by omega)
   |false=>rw[hb]at h;cases h
  ·cases h
 ·cases h
def bUw (f:FuncId) (args:List LV):Option LV:=bif Nat.beq f 85 then aLd args else bif Nat.beq f 141 then aD4 args else bif Nat.beq f 229 then aLc args else orc f args
theorem aVi:eV Tryz.prog bUw:=by
 intro f args r h;exact aR (f0:=85) (g:=aLd) (fun _ _ h=>aY1 h) (aR (f0:=141) (g:=aD4) (fun _ _ h=>aSs h) (aR (f0:=229) (g:=aLc) (fun _ _ h=>aY0 h) bUv)) f args r h
def bNn:Callf:=fun _ _ _ _=>none
theorem bDs:qK Tryz.prog bNn:=fun _ _ _ _ _ _ _ h=>nomatch h
noncomputable def evl (f:Nat) (args:List LV):Option LV:=aSr Tryz.prog bUw bNn (fun _=>0) [33,18,290] 600 f args
theorem aAc {f:Nat}{args:List LV}{r:LV}(h:evl f args=some r):PGd f args r:=oI aV aVi bDs lF h
end Go.Proofs.YtaidcaemdkncgaaGreatDoor
namespace Go.Lg
open Go
def ec (l:List Int):List LV:=l.map fun(z:Int)=>LV.lit (.int .i64 z)
theorem aSt (l:List Int):(ec l).length=l.length:=by simp[ec]
theorem cD8 {l:List Int}{i:Nat}(h:i<l.length):(ec l)[i]? =some (.lit (.int .i64 (l.getD i 0))):=by simp[ec,h]
theorem cD9 {l:List Int}{i:Nat}(h:i<l.length):(ec (l.drop i)).head? =some (.lit (.int .i64 (l.getD i 0))):=by simp[ec,h]
theorem bUx {l:List Int}(h:0<l.length):(ec l).head? =some (.lit (.int .i64 (l.getD 0 0))):=by
 cases l with
 |nil=>simp at h
 |cons d l=>rfl
theorem bKv (l:List Int) (k:Nat):(ec l).take k=ec (l.take k):=by simp[ec]
theorem bKw (l:List Int) (k:Nat):(ec l).drop k=ec (l.drop k):=by simp[ec]
theorem bUy (l:List Int) (k:Nat) (z:Int):(ec l).set k (.lit (.int .i64 z))=ec (l.set k z):=by simp[ec]
theorem wH (l:List Int):∀ c∈ec l,aB c=true:=by simp[ec,aB]
theorem bDt (l:List Int):(∀ c∈ec l,aB c=true)=True:=eq_true (wH l)
theorem bKx (l:List Int):∀ c∈ec l,fK c=true:=by simp[ec,fK]
theorem bKy (a:List Int) (z:Int):ec a++[.lit (.int .i64 z)]=ec (a++[z]):=by simp[ec]
theorem rD (n:Nat):List.replicate n (LV.lit (.int .i64 0))=ec (List.replicate n 0):=by simp[ec]
theorem bUz {h:Nat→Option Blk}{ok:Nat→Bool}{k:Nat}(l:List Int):fM h ok (k+1) (ec l)=some (ec l,[]):=jC (bKx l)
theorem bU0 {nb:Nat}{ρ:Nat→Nat}(l:List Int):renLs nb ρ (ec l)=some (ec l):=cM (wH l)
def smE:=nd aSt (nd @cD8 (nd @cD9 (nd @bUx (nd bKv (nd bKw (nd bUy (nd bDt (nd @bUz (nd @bU0 bKy)))))))))
end Go.Lg
namespace Go.Num
def divN (n:Nat):List Nat:=(List.range' 1 n).filter fun d=>Nat.beq (n % d) 0
def bKz (n:Nat):List Int:=(divN n).map fun(d:Nat)=>(d:Int)
theorem aO3 {n k:Nat}(h:k<(divN n).length):∃ d:Nat,(bKz n).getD k 0=(d:Int)∧1≤d∧d≤n∧n % d=0∧(divN n).getD k 0=d:=by
 refine⟨(divN n)[k],by simp[bKz,h],?_⟩;have hm:(divN n)[k]∈divN n:=List.getElem_mem h;generalize hd:(divN n)[k]=d at*;simp only[divN,List.mem_filter,List.mem_range'_1]at hm;refine⟨by omega,by omega,Nat.eq_of_beq_eq_true hm.2,by simp[h,hd]⟩
def aHy (f:Nat→Int):Nat→Int
 |0=>0
 |k+1=>aHy f k+f k
theorem yK {f:Nat→Int}{B:Int}{n:Nat}(h:∀ k,k<n→ -B≤f k∧f k≤B):∀ k,k≤n→ -(B*k)≤aHy f k∧aHy f k≤B*k
 |0,_=>by simp[aHy]
 |k+1,hk=>by
  have h1:=yK h k (by omega);have h2:=h k (by omega);have e:B*((k+1:Nat):Int)=B*k+B:=by rw[Int.natCast_add,Int.mul_add];simp
  rw[aHy,e];omega
def exL (n:Nat) (xs:List Int) (k:Nat):Int:=(bKz n).getD k 0*xs.getD k 0
def exH (n:Nat) (xs:List Int) (k:Nat):Int:=(n:Int) / (bKz n).getD k 0*xs.getD k 0
structure EtaOk (n:Nat) (xs:List Int):Prop where
 n1:1≤n
 n2:n≤600
 len:xs.length=(divN n).length
 small:∀ x∈xs,-200≤x∧x≤200
theorem EtaOk.get {n:Nat}{xs:List Int}(h:EtaOk n xs) (k:Nat): -200≤xs.getD k 0∧xs.getD k 0≤200:=by
 by_cases hk:k<xs.length
 ·have:xs.getD k 0=xs[k]:=by simp[hk]
  rw[this];exact h.small _ (List.getElem_mem hk)
 ·simp[List.getD,Nat.le_of_not_lt hk]
theorem aLe {a b A B:Int}(h1:0≤a∧a≤A) (h2: -B≤b∧b≤B): -(A*B)≤a*b∧a*b≤A*B:=by
 have e:(a*b).natAbs≤(A*B).natAbs:=by
  rw[Int.natAbs_mul,Int.natAbs_mul];exact Nat.mul_le_mul (by omega) (by omega)
 have:0≤A*B:=Int.mul_nonneg (by omega) (by omega);omega
theorem EtaOk.low {n:Nat}{xs:List Int}(h:EtaOk n xs) {k:Nat}(hk:k<xs.length): -120000≤exL n xs k∧exL n xs k≤120000:=by
 obtain⟨d,e1,e2,e3,_⟩:=aO3 (n:=n) (k:=k) (h.len ▸ hk);have:=h.n2;exact aLe (A:=600) (B:=200) (by rw[e1];omega) (h.get k)
theorem EtaOk.high {n:Nat}{xs:List Int}(h:EtaOk n xs) {k:Nat}(hk:k<xs.length): -120000≤exH n xs k∧exH n xs k≤120000:=by
 obtain⟨d,e1,e2,e3,_⟩:=aO3 (n:=n) (k:=k) (h.len ▸ hk);have:=h.n2;have h3:(n:Int) / (d:Int)=((n / d:Nat):Int):=rfl;have h4:n / d≤n:=Nat.div_le_self _ _;generalize n / d=q at*;exact aLe (A:=600) (B:=200) (by rw[e1,h3];omega) (h.get k)
theorem aF5:∀ n,n≤600→(divN n).length≤24:=by
 have h:((List.range 601).all fun n=>Nat.ble (divN n).length 24)=true:=by decide+kernel
 intro n hn;exact Nat.le_of_ble_eq_true (List.all_eq_true.1 h n (List.mem_range.2 (by omega)))
theorem EtaOk.len_le {n:Nat}{xs:List Int}(h:EtaOk n xs):xs.length≤24:=by rw[h.len];exact aF5 n h.n2
theorem EtaOk.s1 {n:Nat}{xs:List Int}(h:EtaOk n xs) {k:Nat}(hk:k≤xs.length): -2880000≤aHy (exL n xs) k∧aHy (exL n xs) k≤2880000:=by
 have h1:=yK (f:=exL n xs) (B:=120000) (n:=xs.length) (fun k hk=>h.low hk) k hk;have h2:=h.len_le;omega
theorem EtaOk.s2 {n:Nat}{xs:List Int}(h:EtaOk n xs) {k:Nat}(hk:k≤xs.length): -2880000≤aHy (exH n xs) k∧aHy (exH n xs) k≤2880000:=by
 have h1:=yK (f:=exH n xs) (B:=120000) (n:=xs.length) (fun k hk=>h.high hk) k hk;have h2:=h.len_le;omega
end Go.Num
namespace Go.Proofs.YtaidcaemdkncgaaGreatDoor
section
open Go Go.Lg Go.Num
attribute [local irreducible] lrun lwp exThen exBlk keep ec
def qM (l:List Int) (p:Int):Nat→List Int
 |0=>l
 |j+1=>qM l p j++l.map (· *p^(j+1))
theorem pX (l:List Int) (p:Int):∀ j,(qM l p j).length=l.length*(j+1)
 |0=>by simp[qM]
 |j+1=>by rw[qM,List.length_append,pX l p j,List.length_map,Nat.mul_add l.length (j+1)];omega
theorem aO4 (l:List Int) (p:Int) {i:Nat}(h:i<l.length):∀ j,(qM l p j).getD i 0=l.getD i 0
 |0=>rfl
 |j+1=>by
  have:=pX l p j;have h2:l.length*1≤l.length*(j+1):=Nat.mul_le_mul_left _ (by omega);rw[← aO4 l p h j,qM];simp only[List.getD,List.getElem?_append_left (show i<(qM l p j).length by omega)]
theorem bNo {P:Program}[Laid P] {na:Nat}{ops:Array Oper}{draw:Bool}{Φ:Exit→LS→Prop}{s:LS}(h:lwp P na (.region 7 ops draw) Φ s):lwp P na (.region 7 ops draw) Φ s:=h
theorem bDu {p e j:Nat}(hp:1≤p) (h:j≤e) (he:p^e≤1000):1≤p^j∧p^j≤1000:=⟨Nat.pow_pos hp,Nat.le_trans (Nat.pow_le_pow_right hp h) he⟩
def tY (l:List Int) (p:Int) (j i:Nat):List Int:=qM l p j++(l.map (· *p^(j+1))).take i
theorem aC5 (l:List Int) (p:Int) (j i:Nat) (h:i≤l.length):(tY l p j i).length=(qM l p j).length+i:=by
 rw[tY,List.length_append,List.length_take,List.length_map,Nat.min_eq_left h]
theorem aY2 (l:List Int) (p:Int) (j:Nat):tY l p j 0=qM l p j:=by simp[tY]
theorem aY3 (l:List Int) (p:Int) (j:Nat):tY l p j l.length=qM l p (j+1):=by
 rw[tY,qM,List.take_of_length_le (by simp)]
theorem aY4 (l:List Int) (p:Int) (j i:Nat) (h:i<l.length):tY l p j (i+1)=tY l p j i++[l.getD i 0*p^(j+1)]:=by
 rw[tY,tY,List.append_assoc,List.take_add_one,List.getElem?_map,List.getElem?_eq_getElem h];simp[h]
theorem bDv (l:List Int) (p:Int) (j i:Nat) {m:Nat}(h:m<l.length):(tY l p j i).getD m 0=l.getD m 0:=by
 rw[← aO4 l p h j,tY];have:=pX l p j;have h2:l.length*1≤l.length*(j+1):=Nat.mul_le_mul_left _ (by omega);simp only[List.getD,List.getElem?_append_left (show m<(qM l p j).length by omega)]
theorem aSu (l:List Int) (p e:Nat) (hp:1≤p∧p≤1000) (he2:e≤1000) (he:p^e≤1000) (hl:l.length≤1000) (hle:l.length*(e+1)≤100000) (hb:∀ i,i<l.length→0≤l.getD i 0∧l.getD i 0≤1000):
  mP Tryz.prog 251 ([i64 p,i64 e]++[.ptr 0 0]) (cG [(0,⟨23,[.own 1 0 l.length 1],false⟩),(1,⟨3,ec l,false⟩)]) 2 (.tup []) (cG [(0,⟨23,[.own 2 0 (qM l p e).length 1],false⟩),(2,⟨3,ec (qM l p e),false⟩)]) 100:=by
 refine lT aV Tryz.func251 rfl (by decide) (nt:=34) rfl (rs:=[]) rfl (aW rfl) ?_;have hpos:∀ j,j≤e→1≤p^j∧p^j≤1000:=fun j hj=>bDu hp.1 hj he
 refine sA ?_;refine aG (α:={j:Nat // j≤e}) (fun j=>st 34 (lk [(0,i64 p),(1,i64 ((e:Int)-(j.1:Int))),(2,.ptr 0 0),(5,i64 l.length),(6,i64 ((p:Int)^(j.1+1)))]) (cG [(0,⟨23,[.own 2 0 (qM l p j.1).length 1],false⟩),(2,⟨3,ec (qM l p j.1),false⟩)]) 3) (fun j=>e-j.1) ⟨0,by omega⟩ ?_ ?_
 ·show Lg.Sub 2 _ _;refine Sub.heap (na:=2) (fun b=>([0,1,1]:List Nat).getD b 0) ?_ ?_ ?_ (by decide)
  ·simp only[aI,simprocAttr,bl,i64,smE];try(simp only[LV.lit.injEq,Value.int.injEq,true_and,and_true,Int.pow_succ,Int.pow_zero,Int.one_mul];omega)
   try(simp;done)
   try(rw[wrap_i64 (by omega)];simp only[LV.lit.injEq,Value.int.injEq,true_and,and_true];omega)
  ·simp only[List.forall_mem_cons,List.not_mem_nil,false_imp_iff,implies_true,and_true];refine⟨⟨by decide,_,by simp(disch:=first|omega|exact kD rfl|exact kX rfl) only[smY,simprocAttr,bl,i64,smE];exact rfl,?_⟩,⟨by decide,_,by simp(disch:=first|omega|exact kD rfl|exact kX rfl) only[smY,simprocAttr,bl,i64,smE];exact rfl,?_⟩⟩
   ·simp only[aI,simprocAttr,bl,i64,smE];try(first |rfl |(simp only[List.length_append,List.length_singleton,List.length_cons,List.length_nil];try rfl))
   ·simp only[aI,simprocAttr,bl,i64,smE];try rfl
  ·intro p hp q hq;simp only[List.mem_cons,List.not_mem_nil,or_false]at hp hq;rcases hp with rfl |rfl <;>rcases hq with rfl |rfl <;>simp
 ·rintro⟨j,hj⟩;simp only[st];by_cases h1:j<e
  ·obtain⟨hN1,hN2⟩:l.length≤(qM l p j).length∧(qM l p j).length+l.length≤100000:=by
    have hL:=pX l p j;have hL2:l.length*(j+2)≤l.length*(e+1):=Nat.mul_le_mul_left _ (by omega);have hL3:l.length*(j+2)=l.length*(j+1)+l.length:=by rw[Nat.mul_add l.length j 2,Nat.mul_add l.length j 1];omega
    have hL4:l.length*1≤l.length*(j+1):=Nat.mul_le_mul_left _ (by omega);omega
   obtain⟨hQ1,hQ2,hQ3⟩:(1≤(p:Int)^(j+1)∧(p:Int)^(j+1)≤1000)∧(-1000000≤(p:Int)^(j+1)*(p:Int)∧(p:Int)^(j+1)*(p:Int)≤1000000)∧(p:Int)^(j+1)*(p:Int)=(p:Int)^(j+1+1):=by
    have hP:=hpos (j+1) (by omega);have ePc:(p:Int)^(j+1)=((p^(j+1):Nat):Int):=(Int.natCast_pow p (j+1)).symm;have h1:1≤(p:Int)^(j+1)∧(p:Int)^(j+1)≤1000:=by rw[ePc];generalize p^(j+1)=q at*;omega
    generalize hq:(p:Int)^(j+1)=Q at*;refine⟨h1,aLe (A:=1000) (B:=1000) (by omega) (by omega),?_⟩;rw[← hq];exact(Int.pow_succ ..).symm
   have hs0:=fun i (h:i<l.length)=>aY4 l p j i h
   have hz0:=aY2 l p j;have hl0:=aY3 l p j;generalize hQQ:(p:Int)^(j+1)=Q at*;clear hpos hQQ;refine sA ?_
   refine aG (α:={x:Nat×Option (List Int) // x.1≤l.length∧∀ X,x.2=some X→l.length≤X.length∧∀ m,m<l.length→X.getD m 0=l.getD m 0})
    (fun x=>match x.1.2 with
     |none=>st 34 (lk [(0,i64 p),(1,i64 ((e:Int)-(j:Int))),(2,.ptr 0 0),(5,i64 l.length),(6,i64 Q),(21,.own 2 0 l.length 1),(22,i64 l.length),(23,i64 x.1.1)]) (cG [(0,⟨23,[.own 2 0 (tY l p j x.1.1).length 1],false⟩),(2,⟨3,ec (tY l p j x.1.1),false⟩)]) 3
     |some X=>st 34 (lk [(0,i64 p),(1,i64 ((e:Int)-(j:Int))),(2,.ptr 0 0),(5,i64 l.length),(6,i64 Q),(21,.own 2 0 l.length 1),(22,i64 l.length),(23,i64 x.1.1)]) (cG [(0,⟨23,[.own 3 0 (tY l p j x.1.1).length 1],false⟩),(2,⟨3,ec X,false⟩),(3,⟨3,ec (tY l p j x.1.1),false⟩)]) 4) (fun x=>l.length-x.1.1) ⟨(0,none),by simp,by simp⟩ ?_ ?_
   ·simp only[hz0,st];refine Sub.heap (na:=2) (fun b=>([0,1,2]:List Nat).getD b 0) ?_ ?_ ?_ (by decide)
    ·simp only[aI,simprocAttr,bl,i64,smE];try(simp only[LV.lit.injEq,Value.int.injEq,true_and,and_true,Int.pow_succ,Int.pow_zero,Int.one_mul];omega)
     try(simp;done)
     try(rw[wrap_i64 (by omega)];simp only[LV.lit.injEq,Value.int.injEq,true_and,and_true];omega)
    ·simp only[List.forall_mem_cons,List.not_mem_nil,false_imp_iff,implies_true,and_true];refine⟨⟨by decide,_,by simp(disch:=first|omega|exact kD rfl|exact kX rfl) only[smY,simprocAttr,bl,i64,smE];exact rfl,?_⟩,⟨by decide,_,by simp(disch:=first|omega|exact kD rfl|exact kX rfl) only[smY,simprocAttr,bl,i64,smE];exact rfl,?_⟩⟩
     ·simp only[aI,simprocAttr,bl,i64,smE];try(first |rfl |(simp only[List.length_append,List.length_singleton,List.length_cons,List.length_nil];try rfl))
     ·simp only[aI,simprocAttr,bl,i64,smE];try rfl
    ·intro p hp q hq;simp only[List.mem_cons,List.not_mem_nil,or_false]at hp hq;rcases hp with rfl |rfl <;>rcases hq with rfl |rfl <;>simp
   ·rintro⟨⟨i,fl⟩,hi,hX⟩;simp only at hi hX;have hM:=aC5 l p j i hi;by_cases h2:i<l.length
    ·have hx:=hb i h2;have hxP:=aLe (a:=l.getD i 0) (b:=Q) (A:=1000) (B:=1000) hx (by omega);have hs:=hs0 i h2;have hgM:∀ m,m<l.length→(tY l p j i).getD m 0=l.getD m 0:=fun m hm=>bDv l p j i hm
     have hg:=hgM i h2;have hM2:=aC5 l p j (i+1) (by omega);generalize tY l p j i=M at*;clear hs0 hz0 hl0 he hle;rcases fl with _ |X
     ·simp only[st]
      (repeat((fail_if_success (refine bNo ?_));first|apply zO (by decide+kernel)|apply zP (by decide+kernel)|(apply zS;(case h=>constructor<;>decide))|((first|apply cB rfl|apply aS);(case hs=>(simp(disch:=first|omega|exact kD rfl|exact kX rfl) only[smY,simprocAttr,bl,i64,smE,hg];exact rfl));first|refine bZ ?_|refine cA ?_|show lrun _ _ _ _ _ _ _ _ _)))
      apply zO (by decide+kernel);refine aVh 5 (by simp(disch:=first|omega|exact kD rfl|exact kX rfl) only[smY,simprocAttr,bl,i64,smE,hg];exact rfl) ?_;simp only[List.drop_succ_cons,List.drop_zero];refine aO2 (b:=2) (nn:=M.length) (cells:=ec M) (news:=[i64 (l.getD i 0*Q)]) (m:=1) (by decide) bBr (z:=0) bPf bPg bPh (by simp(disch:=first|omega|exact kD rfl|exact kX rfl) only[smY,simprocAttr,bl,i64,smE,hg];try exact rfl) (by simp(disch:=first|omega|exact kD rfl|exact kX rfl) only[smY,simprocAttr,bl,i64,smE,hg];try exact rfl) (by rw[aSt];omega) (by simp(disch:=first|omega|exact kD rfl|exact kX rfl) only[smY,simprocAttr,bl,i64,smE,hg];try exact rfl) (by decide) (by rw[hM];omega) (by rw[aBd,hM];omega) ?_ ?_
      ·refine bIr ?_;refine⟨⟨(i+1,none),by simp only;omega,by simp⟩,?_,by simp only;omega⟩;simp only[hs,st];refine Sub.heap (na:=2) (fun b=>([0,1,2]:List Nat).getD b 0) ?_ ?_ ?_ (by decide)
       ·simp only[aI,simprocAttr,bl,i64,smE,hg];try(simp only[LV.lit.injEq,Value.int.injEq,true_and,and_true,Int.pow_succ,Int.pow_zero,Int.one_mul];omega)
        try(simp;done)
        try(rw[wrap_i64 (by omega)];simp only[LV.lit.injEq,Value.int.injEq,true_and,and_true];omega)
       ·simp only[List.forall_mem_cons,List.not_mem_nil,false_imp_iff,implies_true,and_true];refine⟨⟨by decide,_,by simp(disch:=first|omega|exact kD rfl|exact kX rfl) only[smY,simprocAttr,bl,i64,smE,hg];exact rfl,?_⟩,⟨by decide,_,by simp(disch:=first|omega|exact kD rfl|exact kX rfl) only[smY,simprocAttr,bl,i64,smE,hg];exact rfl,?_⟩⟩
        ·simp only[aI,simprocAttr,bl,i64,smE,hg];try(first |rfl |(simp only[List.length_append,List.length_singleton,List.length_cons,List.length_nil];try rfl))
        ·simp only[aI,simprocAttr,bl,i64,smE,hg];try rfl
       ·intro p hp q hq;simp only[List.mem_cons,List.not_mem_nil,or_false]at hp hq;rcases hp with rfl |rfl <;>rcases hq with rfl |rfl <;>simp
      ·refine bIr ?_;refine⟨⟨(i+1,some M),by simp only;omega,fun Y hY=>by cases hY;exact⟨by omega,hgM⟩⟩,?_,by simp only;omega⟩;simp only[hs,st];refine Sub.heap (na:=2) (fun b=>([0,1,2,12]:List Nat).getD b 0) ?_ ?_ ?_ (by decide)
       ·simp only[aI,simprocAttr,bl,i64,smE,hg];try(simp only[LV.lit.injEq,Value.int.injEq,true_and,and_true,Int.pow_succ,Int.pow_zero,Int.one_mul];omega)
        try(simp;done)
        try(rw[wrap_i64 (by omega)];simp only[LV.lit.injEq,Value.int.injEq,true_and,and_true];omega)
       ·simp only[List.forall_mem_cons,List.not_mem_nil,false_imp_iff,implies_true,and_true];refine⟨⟨by decide,_,by simp(disch:=first|omega|exact kD rfl|exact kX rfl) only[smY,simprocAttr,bl,i64,smE,hg];exact rfl,?_⟩,⟨by decide,_,by simp(disch:=first|omega|exact kD rfl|exact kX rfl) only[smY,simprocAttr,bl,i64,smE,hg];exact rfl,?_⟩,⟨by decide,_,by simp(disch:=first|omega|exact kD rfl|exact kX rfl) only[smY,simprocAttr,bl,i64,smE,hg];exact rfl,?_⟩⟩
        ·simp only[aI,simprocAttr,bl,i64,smE,hg];try(first |rfl |(simp only[List.length_append,List.length_singleton,List.length_cons,List.length_nil];try rfl))
        ·simp only[aI,simprocAttr,bl,i64,smE,hg];try rfl
        ·simp only[aI,simprocAttr,bl,i64,smE,hg];try rfl
       ·intro p hp q hq;simp only[List.mem_cons,List.not_mem_nil,or_false]at hp hq;rcases hp with rfl |rfl |rfl <;>rcases hq with rfl |rfl |rfl <;>simp
     ·obtain⟨hX1,hX2⟩:=hX X rfl;have hg:=hX2 i h2;simp only[st]
      (repeat((fail_if_success (refine bNo ?_));first|apply zO (by decide+kernel)|apply zP (by decide+kernel)|(apply zS;(case h=>constructor<;>decide))|((first|apply cB rfl|apply aS);(case hs=>(simp(disch:=first|omega|exact kD rfl|exact kX rfl) only[smY,simprocAttr,bl,i64,smE,hg];exact rfl));first|refine bZ ?_|refine cA ?_|show lrun _ _ _ _ _ _ _ _ _)))
      apply zO (by decide+kernel);refine aVh 5 (by simp(disch:=first|omega|exact kD rfl|exact kX rfl) only[smY,simprocAttr,bl,i64,smE,hg];exact rfl) ?_;simp only[List.drop_succ_cons,List.drop_zero];refine aO2 (b:=3) (nn:=M.length) (cells:=ec M) (news:=[i64 (l.getD i 0*Q)]) (m:=1) (by decide) bBr (z:=0) bPf bPg bPh (by simp(disch:=first|omega|exact kD rfl|exact kX rfl) only[smY,simprocAttr,bl,i64,smE,hg];try exact rfl) (by simp(disch:=first|omega|exact kD rfl|exact kX rfl) only[smY,simprocAttr,bl,i64,smE,hg];try exact rfl) (by rw[aSt];omega) (by simp(disch:=first|omega|exact kD rfl|exact kX rfl) only[smY,simprocAttr,bl,i64,smE,hg];try exact rfl) (by decide) (by rw[hM];omega) (by rw[aBd,hM];omega) ?_ ?_
      ·refine bIr ?_;refine⟨⟨(i+1,some X),by simp only;omega,hX⟩,?_,by simp only;omega⟩;simp only[hs,st];refine Sub.heap (na:=2) (fun b=>([0,1,2,3]:List Nat).getD b 0) ?_ ?_ ?_ (by decide)
       ·simp only[aI,simprocAttr,bl,i64,smE,hg];try(simp only[LV.lit.injEq,Value.int.injEq,true_and,and_true,Int.pow_succ,Int.pow_zero,Int.one_mul];omega)
        try(simp;done)
        try(rw[wrap_i64 (by omega)];simp only[LV.lit.injEq,Value.int.injEq,true_and,and_true];omega)
       ·simp only[List.forall_mem_cons,List.not_mem_nil,false_imp_iff,implies_true,and_true];refine⟨⟨by decide,_,by simp(disch:=first|omega|exact kD rfl|exact kX rfl) only[smY,simprocAttr,bl,i64,smE,hg];exact rfl,?_⟩,⟨by decide,_,by simp(disch:=first|omega|exact kD rfl|exact kX rfl) only[smY,simprocAttr,bl,i64,smE,hg];exact rfl,?_⟩,⟨by decide,_,by simp(disch:=first|omega|exact kD rfl|exact kX rfl) only[smY,simprocAttr,bl,i64,smE,hg];exact rfl,?_⟩⟩
        ·simp only[aI,simprocAttr,bl,i64,smE,hg];try(first |rfl |(simp only[List.length_append,List.length_singleton,List.length_cons,List.length_nil];try rfl))
        ·simp only[aI,simprocAttr,bl,i64,smE,hg];try rfl
        ·simp only[aI,simprocAttr,bl,i64,smE,hg];try rfl
       ·intro p hp q hq;simp only[List.mem_cons,List.not_mem_nil,or_false]at hp hq;rcases hp with rfl |rfl |rfl <;>rcases hq with rfl |rfl |rfl <;>simp
      ·refine bIr ?_;refine⟨⟨(i+1,some X),by simp only;omega,hX⟩,?_,by simp only;omega⟩;simp only[hs,st];refine Sub.heap (na:=2) (fun b=>([0,1,2,13]:List Nat).getD b 0) ?_ ?_ ?_ (by decide)
       ·simp only[aI,simprocAttr,bl,i64,smE,hg];try(simp only[LV.lit.injEq,Value.int.injEq,true_and,and_true,Int.pow_succ,Int.pow_zero,Int.one_mul];omega)
        try(simp;done)
        try(rw[wrap_i64 (by omega)];simp only[LV.lit.injEq,Value.int.injEq,true_and,and_true];omega)
       ·simp only[List.forall_mem_cons,List.not_mem_nil,false_imp_iff,implies_true,and_true];refine⟨⟨by decide,_,by simp(disch:=first|omega|exact kD rfl|exact kX rfl) only[smY,simprocAttr,bl,i64,smE,hg];exact rfl,?_⟩,⟨by decide,_,by simp(disch:=first|omega|exact kD rfl|exact kX rfl) only[smY,simprocAttr,bl,i64,smE,hg];exact rfl,?_⟩,⟨by decide,_,by simp(disch:=first|omega|exact kD rfl|exact kX rfl) only[smY,simprocAttr,bl,i64,smE,hg];exact rfl,?_⟩⟩
        ·simp only[aI,simprocAttr,bl,i64,smE,hg];try(first |rfl |(simp only[List.length_append,List.length_singleton,List.length_cons,List.length_nil];try rfl))
        ·simp only[aI,simprocAttr,bl,i64,smE,hg];try rfl
        ·simp only[aI,simprocAttr,bl,i64,smE,hg];try rfl
       ·intro p hp q hq;simp only[List.mem_cons,List.not_mem_nil,or_false]at hp hq;rcases hp with rfl |rfl |rfl <;>rcases hq with rfl |rfl |rfl <;>simp
    ·obtain rfl:i=l.length:=by omega
     rcases fl with _ |X
     ·simp only[st];rw[hl0];refine sA ?_;refine⟨⟨j+1,by omega⟩,?_,by simp only;omega⟩;simp only[hQ3,st];refine Sub.heap (na:=2) (fun b=>([0,1,2]:List Nat).getD b 0) ?_ ?_ ?_ (by decide)
      ·simp only[aI,simprocAttr,bl,i64,smE];try(simp only[LV.lit.injEq,Value.int.injEq,true_and,and_true,Int.pow_succ,Int.pow_zero,Int.one_mul];omega)
       try(simp;done)
       try(rw[wrap_i64 (by omega)];simp only[LV.lit.injEq,Value.int.injEq,true_and,and_true];omega)
      ·simp only[List.forall_mem_cons,List.not_mem_nil,false_imp_iff,implies_true,and_true];refine⟨⟨by decide,_,by simp(disch:=first|omega|exact kD rfl|exact kX rfl) only[smY,simprocAttr,bl,i64,smE];exact rfl,?_⟩,⟨by decide,_,by simp(disch:=first|omega|exact kD rfl|exact kX rfl) only[smY,simprocAttr,bl,i64,smE];exact rfl,?_⟩⟩
       ·simp only[aI,simprocAttr,bl,i64,smE];try(first |rfl |(simp only[List.length_append,List.length_singleton,List.length_cons,List.length_nil];try rfl))
       ·simp only[aI,simprocAttr,bl,i64,smE];try rfl
      ·intro p hp q hq;simp only[List.mem_cons,List.not_mem_nil,or_false]at hp hq;rcases hp with rfl |rfl <;>rcases hq with rfl |rfl <;>simp
     ·simp only[st];rw[hl0];refine sA ?_;refine⟨⟨j+1,by omega⟩,?_,by simp only;omega⟩;simp only[hQ3,st];refine Sub.heap (na:=2) (fun b=>([0,1,3]:List Nat).getD b 0) ?_ ?_ ?_ (by decide)
      ·simp only[aI,simprocAttr,bl,i64,smE];try(simp only[LV.lit.injEq,Value.int.injEq,true_and,and_true,Int.pow_succ,Int.pow_zero,Int.one_mul];omega)
       try(simp;done)
       try(rw[wrap_i64 (by omega)];simp only[LV.lit.injEq,Value.int.injEq,true_and,and_true];omega)
      ·simp only[List.forall_mem_cons,List.not_mem_nil,false_imp_iff,implies_true,and_true];refine⟨⟨by decide,_,by simp(disch:=first|omega|exact kD rfl|exact kX rfl) only[smY,simprocAttr,bl,i64,smE];exact rfl,?_⟩,⟨by decide,_,by simp(disch:=first|omega|exact kD rfl|exact kX rfl) only[smY,simprocAttr,bl,i64,smE];exact rfl,?_⟩⟩
       ·simp only[aI,simprocAttr,bl,i64,smE];try(first |rfl |(simp only[List.length_append,List.length_singleton,List.length_cons,List.length_nil];try rfl))
       ·simp only[aI,simprocAttr,bl,i64,smE];try rfl
      ·intro p hp q hq;simp only[List.mem_cons,List.not_mem_nil,or_false]at hp hq;rcases hp with rfl |rfl <;>rcases hq with rfl |rfl <;>simp
  ·obtain rfl:j=e:=by omega
   refine sA ?_;exact⟨by simp only[gW];try rfl,rfl,Nat.le_of_ble_eq_true rfl⟩
end
section
open Go Go.Lg Go.Num
def vB:List LV→Option (List Nat)
 |[]=>some []
 | .lit (.int .i64 (.ofNat d))::cs=>match vB cs with
   |some ds=>bif Nat.ble d 1000 then some (d::ds)else none
   |none=>none
 |_=>none
def nI (l:List Nat):List Int:=l.map fun(d:Nat)=>(d:Int)
theorem fZ:∀ {cs:List LV}{l:List Nat},vB cs=some l→cs=ec (nI l)∧∀ i,i<l.length→0≤(nI l).getD i 0∧(nI l).getD i 0≤1000
 |[],l,h=>by cases h;exact⟨rfl,by simp⟩
 |c::cs,l,h=>by
  unfold vB at h;split at h
  · simp_all
  · rename_i d cs' he;simp only[List.cons.injEq]at he;obtain⟨rfl,rfl⟩:=he;split at h
    · rename_i ds hds
      cases hb:Nat.ble d 1000 with
      |true=>
       rw[hb,cond_true]at h
       cases h
       obtain⟨e1,e2⟩:=fZ hds;rw[e1];refine⟨rfl,fun i hi=> ?_⟩;have:=Nat.le_of_ble_eq_true hb
       cases i with
       |zero=>simp[nI];omega
       |succ i=>simpa[nI]using e2 i (by simpa using hi)
      |false=>rw[hb,cond_false]at h;cases h
    · cases h
  · cases h
def aSv (l:List Nat) (p:Nat):Nat→List Nat
 |0=>l
 |j+1=>aSv l p j++l.map (· *p^(j+1))
theorem aVj (l:List Nat) (p:Nat):∀ j,qM (nI l) (p:Int) j=nI (aSv l p j)
 |0=>rfl
 |j+1=>by
  rw[qM,aSv,aVj l p j];simp[nI,Function.comp_def]
def aF6:List Nat→List LV
 |[]=>[]
 |d::l=> .lit (.int .i64 (.ofNat d))::aF6 l
theorem aAd:∀ l:List Nat,aF6 l=ec (nI l)
 |[]=>rfl
 |d::l=>by rw[aF6,aAd l];rfl
noncomputable def aSw (args:List LV) (hp:List (Nat×Blk)) (nb:Nat):Option (LV×List (Nat×Blk)×Nat):=
 match args with
 |[.lit (.int .i64 (.ofNat p)),.lit (.int .i64 (.ofNat e)),.ptr c o]=>match yS hp c with
  |some ⟨ts,[.own b o' n sz],false⟩=>match yS hp b with
   |some ⟨te,cells,false⟩=>match vB cells with
    |some l=>bif Nat.beq o 0 && Nat.beq o' 0 && Nat.beq sz 1 && Nat.beq ts 23 && Nat.beq te 3 && Nat.beq n l.length && !(Nat.beq c b) && Nat.ble 1 p && Nat.ble p 1000 && Nat.ble e 1000 && Nat.ble (p^e) 1000 && Nat.ble l.length 1000 && Nat.ble (l.length*(e+1)) 100000 then
        fLs (aF6 (aSv l p e)) fun cs=>dC (aSv l p e).length fun n'=>dC nb fun nb=>some (.tup [],(nb,⟨3,cs,false⟩)::(c,⟨23,[.own nb 0 n' 1],false⟩)::aOb hp b,nb+1)else none
    |none=>none
   |_=>none
  |_=>none
 |_=>none
theorem aY5 {args:List LV}{hp hp':List (Nat×Blk)}{nb nb':Nat}{r:LV}(h:aSw args hp nb=some (r,hp',nb')):nb≤nb'∧mP Tryz.prog 251 args (yS hp) nb r (yS hp') nb':=by
 unfold aSw at h;split at h
 ·rename_i p e c o;split at h
  ·rename_i ts b o' n sz hc;split at h
   ·rename_i te cells hb;split at h
    ·rename_i l hl;generalize hcond:(Nat.beq o 0 && Nat.beq o' 0 && Nat.beq sz 1 && Nat.beq ts 23 && Nat.beq te 3 && Nat.beq n l.length && !(Nat.beq c b) && Nat.ble 1 p && Nat.ble p 1000 && Nat.ble e 1000 && Nat.ble (p^e) 1000 && Nat.ble l.length 1000 && Nat.ble (l.length*(e+1)) 100000)=q at h
     cases q with
     |false=>rw[cond_false]at h;cases h
     |true=>
      rw[cond_true,aKy,cF,cF]at h
      cases h
      simp only[Bool.and_eq_true,Bool.not_eq_true',Nat.beq_eq,Nat.ble_eq]at hcond;obtain⟨⟨⟨⟨⟨⟨⟨⟨⟨⟨⟨⟨rfl,rfl⟩,rfl⟩,rfl⟩,rfl⟩,rfl⟩,hne⟩,c1⟩,c2⟩,c3⟩,c4⟩,c5⟩,c6⟩:=hcond;obtain⟨rfl,e2⟩:=fZ hl;have hcb:c≠b:=fun e=>by subst e;simp at hne
      have ll:(nI l).length=l.length:=by simp[nI]
      have hg:=aSu (nI l) p e ⟨c1,c2⟩ c3 c4 (by rw[ll];exact c5) (by rw[ll];exact c6) (fun i hi=>e2 i (by rw[← ll];exact hi));rw[aVj,ll]at hg
      have hf:=bDr (h:=yS hp) (c:=c) (b:=b) (nb:=nb) hg (by simp[aB,i64]) rfl (wH _) (wH _) hc hb hcb;refine⟨Nat.le_succ _,?_⟩;rw[iD,iD,zJ,aAd];have e3:(nI (aSv l p e)).length=(aSv l p e).length:=by simp[nI]
      rw[e3]at hf
      exact hf
    ·cases h
   ·cases h
  ·cases h
 ·cases h
noncomputable def horc:Callf:=fun f args hp nb=>bif Nat.beq f 251 then aSw args hp nb else none
theorem wI:qK Tryz.prog horc:=by
 intro f args hp nb r hp' nb' h;unfold horc at h
 cases hb:Nat.beq f 251 with
 |true=>
  rw[hb,cond_true]at h
  rw[Nat.eq_of_beq_eq_true hb]
  exact aY5 h
 |false=>rw[hb,cond_false]at h;cases h
end
section
open Go Go.Lg Go.Num
def aVk (g:Rat→Rat) (args:List LV):Option LV:=
 match args with
 |[.agg l]=>match rdQ l with
  |some x=>fQ (g x) fun r=>bif dS x && dS r then some (wrQ r)else none
  |_=>none
 |_=>none
theorem bDw {fid:FuncId}{g:Rat→Rat}(hg:∀ p,lq p≤34359738368→PGd fid [bG p] (bG (g p))) {args:List LV}{r:LV}(h:aVk g args=some r):PGd fid args r:=by
 unfold aVk at h;split at h
 ·split at h
  ·rename_i l x h1;rw[aOy]at h
   cases hb:(dS x && dS (g x))with
   |true=>
    rw[hb]at h
    simp only[Bool.and_eq_true]at hb
    cases h
    have hx:=eM hb.1;rw[aBw hb.2,vA h1]
    exact hg x (by omega)
   |false=>rw[hb]at h;cases h
  ·cases h
 ·cases h
def aLf (args:List LV):Option LV:=
 match args with
 |[.agg l]=>match rdQ l with
  |some x=>iE x.num.sign fun r=>bif dS x then some (.lit (.int .i64 r))else none
  |_=>none
 |_=>none
theorem aY6 {fid:FuncId}(hg:∀ p:Rat,lq p≤34359738368→PGd fid [bG p] (i64 p.num.sign)) {args:List LV}{r:LV}(h:aLf args=some r):PGd fid args r:=by
 unfold aLf at h;split at h
 ·split at h
  ·rename_i l x h1;rw[cY]at h
   cases hb:dS x with
   |true=>
    rw[hb]at h
    cases h
    have hx:=eM hb;rw[vA h1]
    exact hg x (by omega)
   |false=>rw[hb]at h;cases h
  ·cases h
 ·cases h
def aVl (args:List LV):Option LV:=
 match args with
 |[.agg [a,b]]=>match rdI a b with
  |some z=>bif eW z then some (.agg (wrI z++wrI 1))else none
  |_=>none
 |_=>none
theorem aSx {z:Int}(h:eW z=true):LV.agg (wrI z++wrI 1)=bG z:=by
 have e:=pW h;have e1:=pW (z:=1) (by decide+kernel);rw[aY]at e e1
 injection e with e;injection e1 with e1;rw[e,e1,aH];rfl
theorem bDx {args:List LV}{r:LV}(h:aVl args=some r):PGd 87 args r:=by
 unfold aVl at h;split at h
 ·split at h
  ·rename_i a b z h1
   cases hb:eW z with
   |true=>
    rw[hb]at h
    cases h
    obtain⟨rfl,rfl⟩:=kB h1;have hx:=lG hb;rw[aSx hb];have:=oD z (by omega)
    rwa [aY]at this
   |false=>rw[hb]at h;cases h
  ·cases h
 ·cases h
def aBx (args:List LV):Option LV:=
 match args with
 |[.lit (.int .i64 z)]=>bif Nat.ble z.natAbs 1000000 then some (.agg (wrI z++wrI 1))else none
 |_=>none
theorem aC6 {z:Int}(h:z.natAbs≤1000000):eW z=true:=by
 unfold eW;rw[Nat.ble_eq];have:(1000001:Nat)≤4294967296^100:=by decide+kernel
 omega
theorem aJb {fid:FuncId}(hg:∀ n:Int,-9223372036854775808≤n∧n≤9223372036854775807→PGd fid [i64 n] (bG n)) {args:List LV}{r:LV}(h:aBx args=some r):PGd fid args r:=by
 unfold aBx at h;split at h
 ·rename_i z
  cases hb:Nat.ble z.natAbs 1000000 with
  |true=>
   rw[hb]at h
   cases h
   have hz:=Nat.le_of_ble_eq_true hb;rw[aSx (aC6 hz)]
   exact hg z (by omega)
  |false=>rw[hb]at h;cases h
 ·cases h
def aLg (args:List LV):Option LV:=
 match args with
 |[.lit (.int .i64 z)]=>bif Nat.ble z.natAbs 1000000 then some (.agg (wrI z))else none
 |_=>none
theorem aY7 {fid:FuncId}(hg:∀ n:Int,-9223372036854775808≤n∧n≤9223372036854775807→PGd fid [i64 n] (aO n)) {args:List LV}{r:LV}(h:aLg args=some r):PGd fid args r:=by
 unfold aLg at h;split at h
 ·rename_i z
  cases hb:Nat.ble z.natAbs 1000000 with
  |true=>
   rw[hb]at h
   cases h
   have hz:=Nat.le_of_ble_eq_true hb;rw[pW (aC6 hz)]
   exact hg z (by omega)
  |false=>rw[hb]at h;cases h
 ·cases h
def bNp (f:FuncId) (args:List LV):Option LV:=bif Nat.beq f 138 then aVk (fun q=>q) args else bif Nat.beq f 21 then aLf args else bif Nat.beq f 87 then aVl args else bif Nat.beq f 73 then aBx args else bif Nat.beq f 123 then aLg args else bif Nat.beq f 50 then aBx args else bUw f args
theorem bDy:eV Tryz.prog bNp:=by
 intro f args r h
 exact aR (f0:=138) (g:=aVk (fun q=>q)) (fun _ _ h=>bDw (g:=fun q=>q) (fun q hq=>iF q (by omega)) h)
  (aR (f0:=21) (g:=aLf) (fun _ _ h=>aY6 (fun q hq=>kY q (by omega)) h)
  (aR (f0:=87) (g:=aVl) (fun _ _ h=>bDx h)
  (aR (f0:=73) (g:=aBx) (fun _ _ h=>aJb (fun n hn=>iG n hn) h)
  (aR (f0:=123) (g:=aLg) (fun _ _ h=>aY7 (fun n hn=>jW n hn) h)
  (aR (f0:=50) (g:=aBx) (fun _ _ h=>aJb (fun n hn=>fI n hn) h) aVi))))) f args r h
def bK0 (f:FuncId):Nat:=bif Nat.beq f 219 ||Nat.beq f 126 then 2 else 0
noncomputable def evo (o:FuncId→List LV→Option LV) (f:Nat) (args:List LV):Option LV:=aSr Tryz.prog o horc bK0 [33,18,290] 600 f args
theorem cV {o:FuncId→List LV→Option LV}(ho:eV Tryz.prog o) {f:Nat}{args:List LV}{r:LV}(h:evo o f args=some r):PGd f args r:=oI aV ho wI lF h
end
section
open Go Go.Lg Go.Num
attribute [local irreducible] lrun lwp exThen exBlk keep goodPost
theorem nM (a b:Int) (ha: -9223372036854775807≤a∧a≤9223372036854775807) (hb: -9223372036854775807≤b∧b≤9223372036854775807):PGd 134 [i64 a,i64 b] (i64 (Int.gcd a b)):=by
 generalize hgg:Int.gcd a b=g
 have hgb:(g:Int)≤9223372036854775807:=by
  rw[← hgg];by_cases h0:a=0
  ·subst h0;rw[Int.gcd_zero_left];omega
  ·have:Int.gcd a b≤a.natAbs:=Nat.le_of_dvd (by omega) (Nat.gcd_dvd_left _ _);omega
 simp only[i64];refine aA aV Tryz.func134 rfl (by decide) (nt:=15) rfl (rs:=[.tmp 4]) rfl (aW rfl) ?_;refine zA3 ?_;refine aG (α:={p:Int×Int // Int.gcd p.1 p.2=g∧(-9223372036854775807≤p.1∧p.1≤9223372036854775807)∧(-9223372036854775807≤p.2∧p.2≤9223372036854775807)}) (fun p=>st 15 (lk [(0,i64 p.1.1),(1,i64 p.1.2)]) (cG []) 0) (fun p=>p.1.2.natAbs) ⟨(a,b),hgg,ha,hb⟩ ?_ ?_
 ·exact zP1
 ·rintro⟨⟨x,y⟩,hg,hx,hy⟩;simp only at hg hx hy;simp only[st];by_cases hy0:y=0
  ·subst hy0;rw[Int.gcd_zero_right]at hg
   have hmx:(if(0:Int)>(if 0-x>x then 0-x else x)then 0 else(if 0-x>x then 0-x else x))=(g:Int):=by split <;>split <;>omega
   refine aBf hmx ?_;exact aRl hmx
  ·have hmod:(x.tmod y).natAbs=x.natAbs % y.natAbs:=Int.natAbs_tmod x y;have hlt:x.natAbs % y.natAbs<y.natAbs:=Nat.mod_lt _ (by omega)
   have hgn:Int.gcd y (x.tmod y)=g:=by
    rw[← hg];unfold Int.gcd;rw[hmod,Nat.gcd_comm x.natAbs,Nat.gcd_rec y.natAbs x.natAbs,Nat.gcd_comm]
   refine zA3 ?_;refine⟨⟨(y,x.tmod y),hgn,hy,by simp only;omega⟩,?_,by simp only;omega⟩;exact zP1
theorem oJ (a b:Int) (ha: -9223372036854775807≤a∧a≤9223372036854775807) (hb: -9223372036854775807≤b∧b≤9223372036854775807):PGd 147 [i64 a,i64 b] (i64 (Int.gcd a b)):=by
 generalize hgg:Int.gcd a b=g
 have hgb:(g:Int)≤9223372036854775807:=by
  rw[← hgg];by_cases h0:a=0
  ·subst h0;rw[Int.gcd_zero_left];omega
  ·have:Int.gcd a b≤a.natAbs:=Nat.le_of_dvd (by omega) (Nat.gcd_dvd_left _ _);omega
 simp only[i64];refine aA aV Tryz.func147 rfl (by decide) (nt:=15) rfl (rs:=[.tmp 4]) rfl (aW rfl) ?_;refine zA3 ?_;refine aG (α:={p:Int×Int // Int.gcd p.1 p.2=g∧(-9223372036854775807≤p.1∧p.1≤9223372036854775807)∧(-9223372036854775807≤p.2∧p.2≤9223372036854775807)}) (fun p=>st 15 (lk [(0,i64 p.1.1),(1,i64 p.1.2)]) (cG []) 0) (fun p=>p.1.2.natAbs) ⟨(a,b),hgg,ha,hb⟩ ?_ ?_
 ·exact zP1
 ·rintro⟨⟨x,y⟩,hg,hx,hy⟩;simp only at hg hx hy;simp only[st];by_cases hy0:y=0
  ·subst hy0;rw[Int.gcd_zero_right]at hg
   have hmx:(if 0-x>x then 0-x else x)=(g:Int):=by split <;>omega
   refine aBf hmx ?_;exact aRl hmx
  ·have hmod:(x.tmod y).natAbs=x.natAbs % y.natAbs:=Int.natAbs_tmod x y;have hlt:x.natAbs % y.natAbs<y.natAbs:=Nat.mod_lt _ (by omega)
   have hgn:Int.gcd y (x.tmod y)=g:=by
    rw[← hg];unfold Int.gcd;rw[hmod,Nat.gcd_comm x.natAbs,Nat.gcd_rec y.natAbs x.natAbs,Nat.gcd_comm]
   refine zA3 ?_;refine⟨⟨(y,x.tmod y),hgn,hy,by simp only;omega⟩,?_,by simp only;omega⟩;exact zP1
def phN (n:Nat):Nat→Nat
 |0=>0
 |u+1=>phN n u+(if Nat.gcd (u+1) n=1 then 1 else 0)
theorem bDz (n:Nat):∀ u,phN n u≤u
 |0=>Nat.le_refl _
 |u+1=>by
  have:=bDz n u;rw[phN];split <;>omega
theorem aSy (n:Nat) (hn:n≤1000000):PGd 63 [i64 n] (i64 (phN n n)):=by
 simp only[i64];refine aA aV Tryz.func63 rfl (by decide) (nt:=17) rfl (rs:=[.tmp 2]) rfl (aW rfl) ?_;refine zA3 ?_;refine aG (α:={u:Nat // u≤n}) (fun u=>st 17 (lk [(0,i64 n),(3,i64 (phN n u.1)),(4,i64 ((u.1+1:Nat):Int))]) (cG []) 0) (fun u=>n-u.1) ⟨0,by omega⟩ ?_ ?_
 ·(refine Sub.plain ?_;simp only[aI,simprocAttr,bl,i64])
  exact⟨trivial,rfl⟩
 ·rintro⟨u,hu⟩;simp only[st];have hle:=bDz n u;by_cases hlt:u<n
  ·have g:=oJ ((u+1:Nat):Int) n (by omega) (by omega);have hgn:Int.gcd ((u+1:Nat):Int) (n:Int)=Nat.gcd (u+1) n:=rfl;rw[hgn]at g
   have e:phN n (u+1)=_:=phN.eq_2 n u;simp only[i64]at g;by_cases h1:Nat.gcd (u+1) n=1
   ·rw[if_pos h1]at e
    rw[h1]at g
    refine zA3 ?_;refine⟨⟨u+1,by omega⟩,?_,by simp only;omega⟩
    (refine Sub.plain ?_;simp only[aI,simprocAttr,bl,i64])
    rw[e];exact⟨trivial,by simp⟩
   ·rw[if_neg h1]at e
    have h1':¬((Nat.gcd (u+1) n:Nat):Int)=1:=by omega
    generalize Nat.gcd (u+1) n=gg at*;refine zA3 ?_;refine⟨⟨u+1,by omega⟩,?_,by simp only;omega⟩
    (refine Sub.plain ?_;simp only[aI,simprocAttr,bl,i64])
    rw[e];exact⟨trivial,by simp⟩
  ·obtain rfl:u=n:=by omega
   refine zA3 ?_;exact zQ7
def aBz (args:List LV):Option LV:=match args with
 |[.lit (.int .i64 a),.lit (.int .i64 b)]=>bif Nat.ble a.natAbs 9223372036854775807 && Nat.ble b.natAbs 9223372036854775807 then dC (Nat.gcd a.natAbs b.natAbs) fun g=>some (.lit (.int .i64 (.ofNat g)))else none
 |_=>none
theorem aJc {fid:FuncId}(hg:∀ a b:Int,(-9223372036854775807≤a∧a≤9223372036854775807)→(-9223372036854775807≤b∧b≤9223372036854775807)→PGd fid [i64 a,i64 b] (i64 (Int.gcd a b))) {args:List LV}{r:LV}(h:aBz args=some r):PGd fid args r:=by
 unfold aBz at h;split at h
 ·rename_i a b
  cases hb:(Nat.ble a.natAbs 9223372036854775807 && Nat.ble b.natAbs 9223372036854775807)with
  |true=>
   rw[hb,cond_true,cF]at h
   cases h
   rw[Bool.and_eq_true,Nat.ble_eq,Nat.ble_eq]at hb
   exact hg a b (by omega) (by omega)
  |false=>rw[hb]at h;cases h
 ·cases h
def phK (n:Nat):Nat:=Nat.rec (motive:=fun _=>Nat→Nat) (fun a=>a) (fun u ih a=>ih (dC (bif Nat.beq (Nat.gcd (Nat.succ u) n) 1 then Nat.succ a else a) id)) n 0
theorem aSz (n:Nat):phK n=phN n n:=by
 have key:∀ (u a:Nat),Nat.rec (motive:=fun _=>Nat→Nat) (fun a=>a) (fun u ih a=>ih (dC (bif Nat.beq (Nat.gcd (Nat.succ u) n) 1 then Nat.succ a else a) id)) u a=phN n u+a:=by
  intro u
  induction u with
  |zero=>intro a;show a=_;simp[phN]
  |succ u ih=>
   intro a;show Nat.rec (motive:=fun _=>Nat→Nat) (fun a=>a) (fun u ih a=>ih (dC (bif Nat.beq (Nat.gcd (Nat.succ u) n) 1 then Nat.succ a else a) id)) u (dC (bif Nat.beq (Nat.gcd (Nat.succ u) n) 1 then Nat.succ a else a) id)=_;rw[ih,cF,phN];by_cases h:Nat.gcd (u+1) n=1
   · rw[if_pos h,show Nat.beq (Nat.gcd (Nat.succ u) n) 1=true from by rw[Nat.beq_eq];exact h];simp only[cond_true,id];omega
   · rw[if_neg h,show Nat.beq (Nat.gcd (Nat.succ u) n) 1=false from Bool.eq_false_iff.2 (fun e=>h (Nat.eq_of_beq_eq_true e))];simp only[cond_false,id];omega
 exact key n 0
def aLh (args:List LV):Option LV:=match args with
 |[.lit (.int .i64 (.ofNat n))]=>bif Nat.ble n 1000000 then dC (phK n) fun k=>some (.lit (.int .i64 (.ofNat k)))else none
 |_=>none
theorem aY8 {args:List LV}{r:LV}(h:aLh args=some r):PGd 63 args r:=by
 unfold aLh at h;split at h
 ·rename_i n
  cases hb:Nat.ble n 1000000 with
  |true=>
   rw[hb,cond_true,cF]at h
   cases h
   rw[Nat.ble_eq]at hb
   rw[aSz]
   exact aSy n hb
  |false=>rw[hb]at h;cases h
 ·cases h
def bK1 (f:FuncId) (args:List LV):Option LV:=bif Nat.beq f 134 then aBz args else bif Nat.beq f 147 then aBz args else bif Nat.beq f 63 then aLh args else bNp f args
theorem aLi:eV Tryz.prog bK1:=by
 intro f args r h;exact aR (f0:=134) (g:=aBz) (fun _ _ h=>aJc nM h) (aR (f0:=147) (g:=aBz) (fun _ _ h=>aJc oJ h) (aR (f0:=63) (g:=aLh) (fun _ _ h=>aY8 h) bDy)) f args r h
end
section
open Go Go.Lg Go.Num
def eqI:List LV→List Nat→Bool
 |[],[]=>true
 | .lit (.int .i64 (.ofNat d))::cs,e::es=>Nat.beq d e && eqI cs es
 |_,_=>false
theorem bD0:∀ {cs:List LV}{l:List Nat},eqI cs l=true→cs=ec (l.map fun(d:Nat)=>(d:Int))
 |[],[],_=>rfl
 |[],_::_,h=>by cases h
 |c::cs,[],h=>by unfold eqI at h;split at h <;>simp_all
 |c::cs,e::es,h=>by
  unfold eqI at h;split at h
  · simp_all
  · rename_i h1 h2;rw[Bool.and_eq_true]at h
    simp only[List.cons.injEq]at h1 h2;obtain⟨rfl,rfl⟩:=h1;obtain⟨rfl,rfl⟩:=h2;obtain rfl:=Nat.eq_of_beq_eq_true h.1;rw[bD0 h.2];rfl
  · cases h
def ptT:List (List Nat):=[[],[],[],[2,2,3],[3,2,4],[2,4,5],[2,2,3],[3,6,7],[7,2,8,5,2,8],[2,6,9],[2,4,5],[2,10,11],[3,2,4,2,2,3],[2,12,13],[3,6,7],[2,2,3,2,4,5],[15,2,16,5,4,16],[3,16,17],[2,6,9],[2,18,19],[3,2,4,2,4,5],[2,2,3,3,6,7],[2,10,11],[5,22,23],[7,2,8,5,2,8,2,2,3],[2,20,25],[2,12,13],[2,18,27],[3,2,4,3,6,7],[2,28,29],[2,2,3,2,4,5],[3,30,31],[31,2,32,5,8,32],[2,2,3,2,10,11],[3,16,17],[2,4,5,3,6,7],[3,2,4,2,6,9],[2,36,37],[2,18,19],[2,2,3,2,12,13],[7,2,8,5,2,8,2,4,5],[6,40,41],[2,2,3,3,6,7],[3,42,43],[3,2,4,2,10,11],[2,6,9,2,4,5],[5,22,23],[5,46,47],[15,2,16,5,4,16,2,2,3],[3,42,49],[2,20,25],[2,2,3,3,16,17],[3,2,4,2,12,13],[2,52,53],[2,18,27],[2,4,5,2,10,11],[7,2,8,5,2,8,3,6,7],[2,2,3,2,18,19],[2,28,29],[2,58,59],[3,2,4,2,2,3,2,4,5]]
def gnT:List (List Nat):=[[],[],[],[2],[3],[2],[5],[3],[7,5],[2],[7],[2],[7,5],[2],[3],[11,7],[15,5],[3],[11],[2],[11,17],[8,10],[13],[5],[7,13,17],[2],[15],[2],[15,17],[2],[11,7],[3],[31,5],[23,13],[3],[22,31],[19,29],[2],[21],[14,28],[31,21,17],[6],[29,31],[3],[23,13],[11,37],[5],[5],[31,37,17],[3],[27],[35,37],[27,41],[2],[29],[12,46],[15,29,17],[20,40],[31],[2],[31,41,37]]
def orT:List (List Nat):=[[],[],[],[2],[2],[4],[2],[6],[2,2],[6],[4],[10],[2,2],[12],[6],[2,4],[2,4],[16],[6],[18],[2,4],[2,6],[10],[22],[2,2,2],[20],[12],[18],[2,6],[28],[2,4],[30],[2,8],[2,10],[16],[4,6],[2,6],[36],[18],[2,12],[2,2,4],[40],[2,6],[42],[2,10],[6,4],[22],[46],[2,4,2],[42],[20],[2,16],[2,12],[52],[18],[4,10],[2,2,6],[2,18],[28],[58],[2,2,4]]
def pt (m:Nat):List Nat:=ptT.getD m []
def gn (m:Nat):List Nat:=gnT.getD m []
def od (m:Nat):List Nat:=orT.getD m []
def nlv (k:Nat) (l:List Nat):LV:= .sl k (aF6 l)
theorem oK (k:Nat) (l:List Nat):nlv k l= .sl k (ec (nI l)):=by rw[nlv,aAd]
def isN (k:Nat) (l:List Nat) (v:LV):Bool:=match v with
 | .sl k' cs=>Nat.beq k k' && eqI cs l
 |_=>false
theorem aLj {k:Nat}{l:List Nat}{v:LV}(h:isN k l v=true):v=nlv k l:=by
 unfold isN at h;split at h
 ·rw[Bool.and_eq_true]at h
  have e1:=Nat.eq_of_beq_eq_true h.1;have e2:=bD0 h.2;rw[e2,e1,oK];rfl
 ·cases h
noncomputable def bD1 (m:Nat):Bool:=match evo bK1 133 [.lit (.int .i64 (.ofNat m))]with
 |some v=>isN (od m).length (pt m) v
 |none=>false
noncomputable def bD2 (m:Nat):Bool:=match evo bK1 145 [.lit (.int .i64 (.ofNat m))]with
 |some (.tup [v,w])=>isN (od m).length (gn m) v && isN (od m).length (od m) w
 |_=>false
noncomputable def cD (m:Nat):Bool:=bD1 m && bD2 m
end
section
open Go Go.Lg Go.Num
theorem cKf:cD 1=true:=by kernel_rfl
theorem cKg:cD 2=true:=by kernel_rfl
theorem cKh:cD 3=true:=by kernel_rfl
theorem cKi:cD 4=true:=by kernel_rfl
theorem cKj:cD 5=true:=by kernel_rfl
theorem cKk:cD 6=true:=by kernel_rfl
theorem cKl:cD 7=true:=by kernel_rfl
theorem cKm:cD 8=true:=by kernel_rfl
theorem cKn:cD 9=true:=by kernel_rfl
theorem cEc:cD 10=true:=by kernel_rfl
theorem cEd:cD 11=true:=by kernel_rfl
theorem cEe:cD 12=true:=by kernel_rfl
theorem cEf:cD 13=true:=by kernel_rfl
theorem cEg:cD 14=true:=by kernel_rfl
theorem cEh:cD 15=true:=by kernel_rfl
theorem cEi:cD 16=true:=by kernel_rfl
theorem cEj:cD 17=true:=by kernel_rfl
theorem cEk:cD 18=true:=by kernel_rfl
theorem cEl:cD 19=true:=by kernel_rfl
theorem cEm:cD 20=true:=by kernel_rfl
end
section
open Go Go.Lg Go.Num
theorem cEn:cD 21=true:=by kernel_rfl
theorem cEo:cD 22=true:=by kernel_rfl
theorem cEp:cD 23=true:=by kernel_rfl
theorem cEq:cD 24=true:=by kernel_rfl
theorem cEr:cD 25=true:=by kernel_rfl
theorem cEs:cD 26=true:=by kernel_rfl
theorem cEt:cD 27=true:=by kernel_rfl
theorem cEu:cD 28=true:=by kernel_rfl
theorem cEv:cD 29=true:=by kernel_rfl
theorem cEw:cD 30=true:=by kernel_rfl
theorem cEx:cD 31=true:=by kernel_rfl
theorem cEy:cD 32=true:=by kernel_rfl
theorem cEz:cD 33=true:=by kernel_rfl
theorem cE0:cD 34=true:=by kernel_rfl
theorem cE1:cD 35=true:=by kernel_rfl
theorem cE2:cD 36=true:=by kernel_rfl
theorem cE3:cD 37=true:=by kernel_rfl
theorem cE4:cD 38=true:=by kernel_rfl
theorem cE5:cD 39=true:=by kernel_rfl
theorem cE6:cD 40=true:=by kernel_rfl
end
section
open Go Go.Lg Go.Num
theorem cE7:cD 41=true:=by kernel_rfl
theorem cE8:cD 42=true:=by kernel_rfl
theorem cE9:cD 43=true:=by kernel_rfl
theorem cFa:cD 44=true:=by kernel_rfl
theorem cFb:cD 45=true:=by kernel_rfl
theorem cFc:cD 46=true:=by kernel_rfl
theorem cFd:cD 47=true:=by kernel_rfl
theorem cFe:cD 48=true:=by kernel_rfl
theorem cFf:cD 49=true:=by kernel_rfl
theorem cFg:cD 50=true:=by kernel_rfl
theorem cFh:cD 51=true:=by kernel_rfl
theorem cFi:cD 52=true:=by kernel_rfl
theorem cFj:cD 53=true:=by kernel_rfl
theorem cFk:cD 54=true:=by kernel_rfl
theorem cFl:cD 55=true:=by kernel_rfl
theorem cFm:cD 56=true:=by kernel_rfl
theorem cFn:cD 57=true:=by kernel_rfl
theorem cFo:cD 58=true:=by kernel_rfl
theorem cFp:cD 59=true:=by kernel_rfl
theorem cFq:cD 60=true:=by kernel_rfl
end
section
open Go Go.Lg Go.Num
theorem bU1:∀ m∈[1,2,3,4,5,6,7,8,9,10,11,12,13,14,15,16,17,18,19,20,21,22,23,24,25,26,27,28,29,30,31,32,33,34,35,36,37,38,39,40,41,42,43,44,45,46,47,48,49,50,51,52,53,54,55,56,57,58,59,60],cD m=true:=by
 simp only[List.forall_mem_cons];exact⟨cKf,cKg,cKh,cKi,cKj,cKk,cKl,cKm,cKn,cEc,cEd,cEe,cEf,cEg,cEh,cEi,cEj,cEk,cEl,cEm,cEn,cEo,cEp,cEq,cEr,cEs,cEt,cEu,cEv,cEw,cEx,cEy,cEz,cE0,cE1,cE2,cE3,cE4,cE5,cE6,cE7,cE8,cE9,cFa,cFb,cFc,cFd,cFe,cFf,cFg,cFh,cFi,cFj,cFk,cFl,cFm,cFn,cFo,cFp,cFq,by simp⟩
theorem bD3 {m:Nat}(h1:1≤m) (h2:m≤60):bD1 m=true∧bD2 m=true:=by
 have h:=bU1 m (by
  have:m∈List.range' 1 60:=by rw[List.mem_range'_1];omega
  exact this)
 exact(Bool.and_eq_true _ _ ▸ h)
theorem yL {m:Nat}(h1:1≤m) (h2:m≤60):PGd 133 [i64 m] (nlv (od m).length (pt m)):=by
 have h:=(bD3 h1 h2).1;unfold bD1 at h;split at h
 ·rename_i v e;rw[← aLj h];exact cV aLi e
 ·cases h
theorem aB0 {m:Nat}(h1:1≤m) (h2:m≤60):PGd 145 [i64 m] (.tup [nlv (od m).length (gn m),nlv (od m).length (od m)]):=by
 have h:=(bD3 h1 h2).2;unfold bD2 at h;split at h
 ·rename_i v w e;rw[Bool.and_eq_true]at h
  rw[← aLj h.1,← aLj h.2];exact cV aLi e
 ·cases h
def aVm (args:List LV):Option LV:=match args with
 |[.lit (.int .i64 (.ofNat m))]=>bif Nat.ble 1 m && Nat.ble m 60 then some (nlv (od m).length (pt m))else none
 |_=>none
def aVn (args:List LV):Option LV:=match args with
 |[.lit (.int .i64 (.ofNat m))]=>bif Nat.ble 1 m && Nat.ble m 60 then some (.tup [nlv (od m).length (gn m),nlv (od m).length (od m)])else none
 |_=>none
theorem bD4 {args:List LV}{r:LV}(h:aVm args=some r):PGd 133 args r:=by
 unfold aVm at h;split at h
 ·rename_i m
  cases hb:(Nat.ble 1 m && Nat.ble m 60)with
  |true=>
   rw[hb]at h
   cases h
   rw[Bool.and_eq_true,Nat.ble_eq,Nat.ble_eq]at hb
   exact yL hb.1 hb.2
  |false=>rw[hb]at h;cases h
 ·cases h
theorem bD5 {args:List LV}{r:LV}(h:aVn args=some r):PGd 145 args r:=by
 unfold aVn at h;split at h
 ·rename_i m
  cases hb:(Nat.ble 1 m && Nat.ble m 60)with
  |true=>
   rw[hb]at h
   cases h
   rw[Bool.and_eq_true,Nat.ble_eq,Nat.ble_eq]at hb
   exact aB0 hb.1 hb.2
  |false=>rw[hb]at h;cases h
 ·cases h
def cFr (f:FuncId) (args:List LV):Option LV:=bif Nat.beq f 133 then aVm args else bif Nat.beq f 145 then aVn args else bK1 f args
theorem aVo:eV Tryz.prog cFr:=by
 intro f args r h;exact aR (f0:=133) (g:=aVm) (fun _ _ h=>bD4 h) (aR (f0:=145) (g:=aVn) (fun _ _ h=>bD5 h) aLi) f args r h
end
end Go.Proofs.YtaidcaemdkncgaaGreatDoor
namespace Go.Num
def gE:List Nat→List (List Nat)
 |[]=>[[]]
 |o::os=>(List.range o).flatMap fun k=>(gE os).map (k:: ·)
theorem aJd {α:Type}{l:List α}{f:α→Bool}(M k:Nat) (hk:l.length≤k*M) (h:∀ j,j<k→(((l.drop (j*M)).take M).all f)=true):l.all f=true:=by
 rw[List.all_eq_true];intro x hx;obtain⟨i,hi,rfl⟩:=List.getElem_of_mem hx
 have hM:0<M:=by
  rcases Nat.eq_zero_or_pos M with h0 |h0
  ·subst h0;omega
  ·exact h0
 have hd:=Nat.div_add_mod i M;have hml:=Nat.mod_lt i hM;have hj:i / M<k:=(Nat.div_lt_iff_lt_mul hM).2 (by omega);have e:=Nat.mul_comm M (i / M);refine List.all_eq_true.1 (h (i / M) hj) _ (List.mem_iff_getElem?.2 ⟨i % M,?_⟩);rw[List.getElem?_take,if_pos hml,List.getElem?_drop,show i / M*M+i % M=i by omega,List.getElem?_eq_getElem hi]
end Go.Num
namespace Go.Proofs.YtaidcaemdkncgaaGreatDoor
section
open Go Go.Lg Go.Num
def rE (m:Int) (l:List Int):Int:=if 1≤m∧m≤60 then(if l.length=(od m.toNat).length then(if∀ i,i<l.length→0≤l.getD i 0∧l.getD i 0<((od m.toNat).getD i 0:Int)then 0 else 3)else 4)else 2
def tbB (m:Nat):Bool:=Nat.beq (pt m).length (3*(od m).length) && Nat.beq (gn m).length (od m).length && Nat.ble (od m).length 3 && (pt m).all (fun a=>Nat.ble a 60) && (gn m).all (fun a=>Nat.ble a 60) && (od m).all (fun a=>Nat.ble 1 a && Nat.ble a 60) && (List.range (od m).length).all (fun i=>Nat.beq ((pt m).getD (3*i+1) 0) ((od m).getD i 0) && Nat.ble 2 ((pt m).getD (3*i+2) 0)) && (Nat.ble m 2 ||Nat.ble 1 (od m).length) && (Nat.ble 3 m ||Nat.beq (od m).length 0)
theorem bU2:(List.range 61).all tbB=true:=by decide+kernel
theorem tb {m:Nat}(h:m≤60):(pt m).length=3*(od m).length∧(gn m).length=(od m).length∧(od m).length≤3∧(∀ a∈pt m,a≤60)∧(∀ a∈gn m,a≤60)∧(∀ a∈od m,1≤a∧a≤60)∧(∀ i,i<(od m).length→(pt m).getD (3*i+1) 0=(od m).getD i 0∧2≤(pt m).getD (3*i+2) 0)∧(m≤2∨1≤(od m).length)∧(3≤m∨(od m).length=0):=by
 have h:=List.all_eq_true.1 bU2 m (List.mem_range.2 (by omega));unfold tbB at h;simp only[Bool.and_eq_true,Nat.beq_eq,Nat.ble_eq,List.all_eq_true,Bool.or_eq_true,List.mem_range]at h;obtain⟨⟨⟨⟨⟨⟨⟨⟨a1,a2⟩,a3⟩,a4⟩,a5⟩,a6⟩,a7⟩,a8⟩,a9⟩:=h;exact⟨a1,a2,a3,a4,a5,a6,a7,a8,a9⟩
theorem aD5 {l:List Nat}{B i:Nat}(h:∀ a∈l,a≤B):l.getD i 0≤B:=by
 by_cases hi:i<l.length
 ·have:l.getD i 0=l[i]:=by simp[hi]
  rw[this];exact h _ (List.getElem_mem hi)
 ·have:l.getD i 0=0:=by simp[hi]
  omega
theorem aB1 {m i:Nat}(h:m≤60) (hi:i<(od m).length):1≤(od m).getD i 0∧(od m).getD i 0≤60:=by
 have:(od m).getD i 0=(od m)[i]:=by simp[hi]
 rw[this];exact(tb h).2.2.2.2.2.1 _ (List.getElem_mem hi)
theorem cW (l:List Nat):(nI l).length=l.length:=by simp[nI]
theorem qN (l:List Nat) (i:Nat):(nI l).getD i 0=(l.getD i 0:Int):=by
 simp only[nI,List.getD,List.getElem?_map]
 cases l[i]? <;>rfl
theorem bNq (l:List Nat) (i:Nat) (h:3*i+2<l.length):ec (((nI l).drop (i*3)).take 3)=[.lit (.int .i64 (l.getD (3*i) 0:Int)),.lit (.int .i64 (l.getD (3*i+1) 0:Int)),.lit (.int .i64 (l.getD (3*i+2) 0:Int))]:=by
 apply List.ext_getElem
 ·simp[ec,nI];omega
 ·intro j h1 h2;have hj:j<3:=by simpa using h2
  match j,hj with
  |0,_=>simp[ec,nI,show i*3<l.length by omega,Nat.mul_comm]
  |1,_=>simp[ec,nI,show i*3+1<l.length by omega,show 3*i=i*3 by omega]
  |2,_=>simp[ec,nI,show i*3+2<l.length by omega,show 3*i=i*3 by omega]
attribute [local irreducible] lrun lwp exThen exBlk keep goodPost ec pt gn od
theorem aO5 (m:Int) (hm: -9223372036854775808≤m∧m≤9223372036854775807):PGd 165 [i64 m] (bl (decide (1≤m∧m≤60))):=by
 by_cases h1:1≤m
 ·by_cases h2:m≤60
  ·rw[nS ⟨h1,h2⟩];simp only[i64,bl];refine aA aV Tryz.func165 rfl (by decide) (nt:=9) rfl (rs:=[.tmp 2]) rfl (aW rfl) ?_;refine sA ?_;exact zQ2
  ·rw[nT (fun e=>h2 e.2)];simp only[i64,bl];refine aA aV Tryz.func165 rfl (by decide) (nt:=9) rfl (rs:=[.tmp 2]) rfl (aW rfl) ?_;refine sA ?_;exact zQ2
 ·rw[nT (fun e=>h1 e.1)];simp only[i64,bl];refine aA aV Tryz.func165 rfl (by decide) (nt:=9) rfl (rs:=[.tmp 2]) rfl (aW rfl) ?_;refine sA ?_;exact zQ2
theorem aLk (m:Int) (hm: -9223372036854775808≤m∧m≤9223372036854775807):PGd 144 [i64 m] (i64 (if 1≤m∧m≤60 then 0 else 2)):=by
 by_cases h1:1≤m
 ·by_cases h2:m≤60
  ·rw[if_pos ⟨h1,h2⟩];simp only[i64,bl];refine aA aV Tryz.func144 rfl (by decide) (nt:=9) rfl (rs:=[.tmp 2]) rfl (aW rfl) ?_;refine sA ?_;exact zQ2
  ·rw[if_neg (fun e=>h2 e.2)];simp only[i64,bl];refine aA aV Tryz.func144 rfl (by decide) (nt:=9) rfl (rs:=[.tmp 2]) rfl (aW rfl) ?_;refine sA ?_;exact zQ2
 ·rw[if_neg (fun e=>h1 e.1)];simp only[i64,bl];refine aA aV Tryz.func144 rfl (by decide) (nt:=9) rfl (rs:=[.tmp 2]) rfl (aW rfl) ?_;refine sA ?_;exact zQ2
theorem aC7 (m:Int) (l:List Int) (hm: -9223372036854775808≤m∧m≤9223372036854775807) (hl:l.length≤1000000):PGd 76 [.agg [i64 m,.sl l.length (ec l)]] (i64 (rE m l)):=by
 have gw:=aO5 m hm;unfold rE;by_cases h1:1≤m∧m≤60
 ·rw[if_pos h1];rw[nS h1]at gw
  obtain⟨n,rfl⟩:∃ n:Nat,m=n:=⟨m.toNat,by omega⟩;rw[Int.toNat_natCast];have gp:=yL (m:=n) (by omega) (by omega);obtain⟨t1,t2,t3,t4,t5,t6,t7,t8,t9⟩:=tb (m:=n) (by omega);by_cases h2:l.length=(od n).length
  ·rw[if_pos h2];rw[oK]at gp
   rw[← h2]at gp
   simp only[i64,bl]at*;refine aA aV Tryz.func76 rfl (by decide) (nt:=43) rfl (rs:=[.tmp 2]) rfl (aW rfl) ?_;refine sA ?_;refine aG (α:={i:Nat // i≤l.length∧∀ j,j<i→0≤l.getD j 0∧l.getD j 0<((od n).getD j 0:Int)}) (fun i=>st 43 (lk [(1,.ptr 0 0),(2,i64 0),(19,.sl l.length (ec (nI (pt n)))),(20,i64 l.length),(21,i64 i.1)]) (cG [(0,⟨25,[i64 n,.sl l.length (ec l)],false⟩)]) 1) (fun i=>l.length-i.1) ⟨0,by simp⟩ ?_ ?_
   ·exact zO2 0
   ·rintro⟨i,hi,hj⟩;simp only[st];by_cases hlt:i<l.length
    ·have hX:=bNq (pt n) i (by omega);have hY:=(t7 i (by omega)).1;rw[hY]at hX
     have hp:=cW (pt n);generalize (pt n).getD (3*i) 0=ra at*;generalize (pt n).getD (3*i+2) 0=rc at*;by_cases c1:l.getD i 0<0
     ·rw[if_neg (fun h=>by have:=h i hlt;omega)];refine jR (nd hX (nd hp t1)) ?_;exact aE2 (nd hX (nd hp t1))
     ·by_cases c2:((od n).getD i 0:Int)≤l.getD i 0
      ·rw[if_neg (fun h=>by have:=h i hlt;omega)];refine jR (nd hX (nd hp t1)) ?_;exact aE2 (nd hX (nd hp t1))
      ·refine jR (nd hX (nd hp t1)) ?_;refine⟨⟨i+1,by omega,fun j hji=> ?_⟩,?_,by simp only;omega⟩
       ·rcases Nat.lt_or_ge j i with h5 |h5
        ·exact hj j h5
        ·obtain rfl:j=i:=by omega
         omega
       ·exact zO2 0
    ·obtain rfl:i=l.length:=by omega
     rw[if_pos hj];refine sA ?_;exact zQ2
  ·rw[if_neg h2];rw[oK]at gp
   simp only[i64,bl]at*;refine aA aV Tryz.func76 rfl (by decide) (nt:=43) rfl (rs:=[.tmp 2]) rfl (aW rfl) ?_;refine sA ?_;exact zQ2
 ·rw[if_neg h1];rw[nT h1]at gw
  simp only[i64,bl]at*;refine aA aV Tryz.func76 rfl (by decide) (nt:=43) rfl (rs:=[.tmp 2]) rfl (aW rfl) ?_;refine sA ?_;exact zQ2
end
section
open Go Go.Lg Go.Num
attribute [local irreducible] lrun lwp exThen exBlk keep goodPost ec pt gn od
theorem aHz (m:Int) (l:List Int) (hm: -9223372036854775808≤m∧m≤9223372036854775807) (hl:l.length≤1000000):PGd 61 [.agg [i64 m,.sl l.length (ec l)]] (i64 (rE m l)):=by
 have gw:=aLk m hm;unfold rE;by_cases h1:1≤m∧m≤60
 ·rw[if_pos h1];rw[if_pos h1]at gw
  obtain⟨n,rfl⟩:∃ n:Nat,m=n:=⟨m.toNat,by omega⟩;rw[Int.toNat_natCast];have gp:=aB0 (m:=n) (by omega) (by omega);obtain⟨t1,t2,t3,t4,t5,t6,t7,t8,t9⟩:=tb (m:=n) (by omega);by_cases h2:l.length=(od n).length
  ·rw[if_pos h2];rw[oK,oK]at gp
   rw[← h2]at gp
   have hp:=cW (od n);simp only[i64,bl]at*;refine aA aV Tryz.func61 rfl (by decide) (nt:=49) rfl (rs:=[.tmp 2]) rfl (aW rfl) ?_;refine sA ?_;refine aG (α:={i:Nat // i≤l.length∧∀ j,j<i→0≤l.getD j 0∧l.getD j 0<((od n).getD j 0:Int)}) (fun i=>st 49 (lk [(1,.ptr 0 0),(2,i64 0),(5,.sl l.length (ec (nI (od n)))),(6,i64 i.1)]) (cG [(0,⟨25,[i64 n,.sl l.length (ec l)],false⟩)]) 1) (fun i=>l.length-i.1) ⟨0,by simp⟩ ?_ ?_
   ·exact zO2 0
   ·rintro⟨i,hi,hj⟩;simp only[st];by_cases hlt:i<l.length
    ·have hX:=qN (od n) i;by_cases c1:l.getD i 0<0
     ·rw[if_neg (fun h=>by have:=h i hlt;omega)];refine jR (nd hX hp) ?_;exact aE2 (nd hX hp)
     ·by_cases c2:((od n).getD i 0:Int)≤l.getD i 0
      ·rw[if_neg (fun h=>by have:=h i hlt;omega)];refine jR (nd hX hp) ?_;exact aE2 (nd hX hp)
      ·refine jR (nd hX hp) ?_;refine⟨⟨i+1,by omega,fun j hji=> ?_⟩,?_,by simp only;omega⟩
       ·rcases Nat.lt_or_ge j i with h5 |h5
        ·exact hj j h5
        ·obtain rfl:j=i:=by omega
         omega
       ·exact zO2 0
    ·obtain rfl:i=l.length:=by omega
     rw[if_pos hj];refine sA ?_;exact zQ2
  ·rw[if_neg h2];rw[oK,oK]at gp
   simp only[i64,bl]at*;refine aA aV Tryz.func61 rfl (by decide) (nt:=49) rfl (rs:=[.tmp 2]) rfl (aW rfl) ?_;refine sA ?_;exact zQ2
 ·rw[if_neg h1];rw[if_neg h1]at gw
  simp only[i64,bl]at*;refine aA aV Tryz.func61 rfl (by decide) (nt:=49) rfl (rs:=[.tmp 2]) rfl (aW rfl) ?_;refine sA ?_;exact zQ2
theorem aY9 (m:Int) (l:List Int) (hm: -9223372036854775808≤m∧m≤9223372036854775807) (hl:l.length≤1000000):PGd 18 [.agg [i64 m,.sl l.length (ec l)]] (.agg [i64 m,.sl l.length (ec l)]):=by
 simp only[i64,bl];refine aA aV Tryz.func18 rfl (by decide) (nt:=10) rfl (rs:=[.cell 2 25]) rfl (aW rfl) ?_;refine sA ?_
 ((first|apply dI|apply dK);case hres=>(simp only[gW];simp(disch:=first|omega|exact kD rfl|exact kX rfl) only[smY,simprocAttr,bl,i64,smE];exact rfl))
 simp(disch:=first|omega|exact kD rfl|exact kX rfl) only[smY,simprocAttr,bl,i64,smE];rw[List.take_length]
end
end Go.Proofs.YtaidcaemdkncgaaGreatDoor
namespace Go.Num
theorem bD6 (a b:Rat):lq (a-b)≤lq a+lq b+lq a+lq b+1:=by
 rw[Rat.sub_eq_add_neg];have:=bDi a (-b);rw[aR7]at this
 exact this
end Go.Num
namespace Go.Proofs.YtaidcaemdkncgaaGreatDoor
section
open Go Go.Lg Go.Num
attribute [local irreducible] lrun lwp exThen exBlk keep goodPost
attribute [local irreducible] sg mg
theorem aF7 {z:Int}(h: -9223372036854775808≤z∧z≤9223372036854775808):lq (z:Rat)≤3:=by
 have h3:len z≤2:=bH (e:=2) (by omega);rw[sK];omega
theorem aC8 (q:Rat) (h:lq q≤68719476736):PGd 163 [bG q] (i64 q.num.sign):=by
 have h1:=sM q.num (by unfold lq at h;omega);have h2:=sM (q.den:Int) (by unfold lq at h;omega);rw[Int.sign_eq_one_of_pos (by have:=q.den_nz;omega)]at h2
 have hs: -1≤q.num.sign∧q.num.sign≤1:=by
  rcases Int.sign_trichotomy q.num with e |e |e <;>rw[e] <;>omega
 generalize q.num.sign=s at*;simp only[aH,aY,i64]at*;refine aA aV Tryz.func163 rfl (by decide) (nt:=10) rfl (rs:=[.tmp 2]) rfl (aW rfl) ?_;refine dP ?_;refine zR1 ?_;refine zV2 ?_;simp only[Int.mul_one]
theorem rG (n d:Int) (hn: -4294967296≤n∧n≤4294967296) (hd:1≤d∧d≤4294967296):PGd 53 [i64 n,i64 d] (bG (Rat.divInt n d)):=by
 have hp:=mX (n:=n) (d:=d) (by omega);rw[if_neg (by omega)]at hp
 have hg0:Int.gcd n d≠0:=fun e=>by have:=(Int.gcd_eq_zero_iff.1 e).2;omega
 have hgn:((Int.gcd n d:Nat):Int)∣n:=Int.gcd_dvd_left ..;have hG:Int.gcd n d=Nat.gcd n.natAbs d.natAbs:=rfl;have hdn:(d.natAbs:Int)=d:=by omega
 rw[aH,hp.1,hp.2,hdn];clear hp;have hq1:=Int.natAbs_ediv_le_natAbs n ((Int.gcd n d:Nat):Int);have hq2:=Int.natAbs_ediv_le_natAbs d ((Int.gcd n d:Nat):Int);have z1:=lD (n / ((Int.gcd n d:Nat):Int)) (by omega);have z2:=lD (d / ((Int.gcd n d:Nat):Int)) (by omega);have ht:n.tdiv ((Int.gcd n d:Nat):Int)=n / ((Int.gcd n d:Nat):Int):=Int.tdiv_eq_ediv_of_dvd hgn;rw[hG]at hgn hq1 hq2 z1 z2 ht⊢
 rw[hG]at hg0
 obtain⟨m,hm⟩:∃ m:Nat,d=m:=⟨d.toNat,by omega⟩;subst hm;rw[Int.natAbs_natCast]at hq2 z1 z2 ht hg0⊢
 have hmx:(if 0-n>n then 0-n else n)=(n.natAbs:Int):=by split <;>omega
 rw[Int.natAbs_natCast]at hgn hq1 hG
 generalize hgg:Nat.gcd n.natAbs m=g at*;simp only[aY,i64]at*;refine aA aV Tryz.func53 rfl (by decide) (nt:=33) rfl (rs:=[.cell 4 47]) rfl (aW rfl) ?_
 (repeat(first|apply zO (by decide+kernel)|apply zP (by decide+kernel)|((fail_if_success refine aEv ?_);apply zS;(case h=>constructor<;>decide))|((first|apply cB rfl|apply aS);(case hs=>(simp(disch:=first|omega|exact kD rfl|exact kX rfl) only[smY,simprocAttr,bl,i64,smS,hmx];exact rfl));first|refine bZ ?_|refine cA ?_|refine zq ?_)))
 apply aUh;apply vY;refine aG (α:={p:Nat×Nat // Nat.gcd p.1 p.2=g∧p.1≤4294967296∧p.2≤4294967296}) (fun p=>st 33 (lk [(0,i64 n),(1,i64 m),(4,.ptr 0 0),(5,i64 p.1.1),(6,i64 p.1.2)]) (cG [(0,⟨47,[bl false,.lit (.slice none 0 0),bl false,.lit (.slice none 0 0)],false⟩)]) 1) (fun p=>p.1.2) ⟨(n.natAbs,m),hgg,by simp only;omega,by simp only;omega⟩ ?_ ?_
 ·(refine fY [0] ?_ ?_ ?_;all_goals(first|(simp only[aB,aI,simprocAttr,bl,i64,smS];done) |(simp only[aI,simprocAttr,bl,i64,smS];try((repeat' apply And.intro);all_goals rfl)) |skip))
 ·rintro⟨⟨x,y⟩,hg,hx,hy⟩;simp only at hg hx hy;simp only[st];by_cases hy0:y=0
  ·subst hy0;rw[Nat.gcd_zero_right]at hg
   subst hg;have hx0:¬(x:Int)=0:=by omega
   (repeat(first|apply zO (by decide+kernel)|apply zP (by decide+kernel)|(apply zS;(case h=>constructor<;>decide))|((first|apply cB rfl|apply aS|apply zT rfl (by decide) rfl);(case hs=>(simp(disch:=first|omega|exact kD rfl|exact kX rfl) only[smY,simprocAttr,bl,i64,smS,ht];exact rfl));first|refine bZ ?_|refine cA ?_|refine zq ?_|(case hg=>assumption))))
   ((first|apply dI|apply dK);case hres=>(simp only[gW];simp(disch:=first|omega|exact kD rfl|exact kX rfl) only[smY,simprocAttr,bl,i64,smS,ht];exact rfl))
   simp(disch:=first|omega|exact kD rfl|exact kX rfl) only[smY,simprocAttr,bl,i64,smS,ht]
  ·have hmod:x % y<y:=Nat.mod_lt _ (by omega);have hy1:¬(y:Int)=0:=by omega
   refine zA5 ?_;refine⟨⟨(y,x % y),?_,hy,by simp only;omega⟩,?_,hmod⟩
   ·simp only;rw[← hg,Nat.gcd_comm x y,Nat.gcd_rec y x,Nat.gcd_comm]
   ·(refine fY [0] ?_ ?_ ?_;all_goals(first|(simp only[aB,aI,simprocAttr,bl,i64,smS];done) |(simp only[aI,simprocAttr,bl,i64,smS];try((repeat' apply And.intro);all_goals rfl)) |skip))
theorem aJe (q:Rat) (h:lq q≤34359738368):PGd 59 [.agg [sg 0,mg 0,sg 0,mg 0],bG q] (bG q):=by
 have h1:=xV 0 (by unfold len;simp[bD]);have h2:=iF q (by omega);have e0:(0:Int).sign=0:=rfl;rw[e0]at h1
 simp only[aH,aY,i64]at*;refine aA aV Tryz.func59 rfl (by decide) (nt:=54) rfl (rs:=[.cell 4 47]) rfl (aW rfl) ?_;refine dP ?_;exact lU
theorem aH0 (f:List Rat) (hf:∀ c∈f,lq c≤100000) (hl:f.length≤1000000000):PGd 14 [encF f,encF f] (.lit (.bool true)):=by
 rw[bE];refine aA aV Tryz.func14 rfl (by decide) (nt:=27) rfl (rs:=[.tmp 4]) rfl (aW rfl) ?_;refine dP ?_;refine aG (α:={k:Nat // k≤f.length}) (fun k=>st 27 (lk [(0,.sl f.length (qc f)),(1,.sl f.length (qc f)),(4,bl false),(5,i64 k.1)]) (cG []) 0) (fun k=>f.length-k.1) ⟨0,by omega⟩ ?_ ?_
 ·exact zP2
 ·rintro⟨k,hk⟩;simp only[st];by_cases h:k<f.length
  ·have hm:lq (f.getD k 0)≤100000:=by
    have:f.getD k 0=f[k]:=by simp[h]
    rw[this];exact hf _ (List.getElem_mem _)
   have hs:=aK8 (f.getD k 0) (f.getD k 0) (by omega) (by omega);rw[nS rfl,bl]at hs
   generalize hc:f.getD k 0=c at*;rw[aH]at hs
   refine cZ hc ?_;refine⟨⟨k+1,by omega⟩,?_,by simp only;omega⟩;exact zP2
  ·obtain rfl:k=f.length:=by omega
   refine dP ?_;exact lU
end
section
open Go Go.Lg Go.Num
attribute [local irreducible] lrun lwp exThen exBlk keep goodPost ec pt gn od rE
structure ChB (m:Int) (l:List Int):Prop where
 m1: -9223372036854775808≤m∧m≤9223372036854775807
 ln:l.length≤1000000
end
section
open Go Go.Lg Go.Num
theorem aLl:PGd 10 [] (.lit (.bool true)):=cV aVo (by kernel_rfl)
def bK3 (args:List LV):Option LV:=match args with
 |[]=>some (.lit (.bool true))
 |_=>none
theorem bK4 {args:List LV}{r:LV}(h:bK3 args=some r):PGd 10 args r:=by
 unfold bK3 at h;split at h
 ·cases h
  exact aLl
 ·cases h
def aVp (args:List LV):Option LV:=match args with
 |[.agg [.lit (.int .i64 (.ofNat m)),.sl k cs]]=>match vB cs with
  |some l=>bif Nat.ble m 1000 && Nat.beq k l.length && Nat.ble k 1000 then some (.agg [.lit (.int .i64 (.ofNat m)),.sl k cs])else none
  |none=>none
 |_=>none
theorem bD7 {args:List LV}{r:LV}(h:aVp args=some r):PGd 18 args r:=by
 unfold aVp at h;split at h
 ·rename_i m k cs;split at h
  ·rename_i l hl
   cases hb:(Nat.ble m 1000 && Nat.beq k l.length && Nat.ble k 1000)with
   |true=>
    rw[hb]at h
    cases h
    simp only[Bool.and_eq_true,Nat.ble_eq,Nat.beq_eq]at hb;obtain⟨⟨h1,rfl⟩,h3⟩:=hb;obtain⟨rfl,_⟩:=fZ hl;have:=aY9 (m:Int) (nI l) (by omega) (by rw[cW];omega);rw[cW]at this
    exact this
   |false=>rw[hb]at h;cases h
  ·cases h
 ·cases h
def cFs (f:FuncId) (args:List LV):Option LV:=bif Nat.beq f 10 then bK3 args else bif Nat.beq f 18 then aVp args else cFr f args
theorem aVq:eV Tryz.prog cFs:=by
 intro f args r h;exact aR (f0:=10) (g:=bK3) (fun _ _ h=>bK4 h) (aR (f0:=18) (g:=aVp) (fun _ _ h=>bD7 h) aVo) f args r h
def chV (n:Nat) (v:List Nat):LV:= .agg [.lit (.int .i64 (.ofNat n)),.sl v.length (aF6 v)]
theorem aB2 (n:Nat) (v:List Nat):chV n v= .agg [i64 n,.sl (nI v).length (ec (nI v))]:=by
 unfold chV;rw[aAd,cW];rfl
attribute [local irreducible] lrun lwp exThen exBlk keep goodPost ec pt gn od rE
end
end Go.Proofs.YtaidcaemdkncgaaGreatDoor
namespace Go.Num
section
def vpF (p:Nat):Nat→Nat→Nat
 |0,_=>0
 |f+1,d=>if d % p=0 then vpF p f (d / p)+1 else 0
def vp (p d:Nat):Nat:=vpF p d d
def bK5:List Nat:=[2,3,5,7,11,13,17,19,23,29,31,37,41,43,47,53,59,61,67,71,73,79,83,89,97,101,103,107,109,113,127,131,137,139,149,151,157,163,167,173,179,181,191,193,197,199,211,223,227,229,233,239,241,251,257,263,269,271,277,281,283,293,307,311,313,317,331,337,347,349,353,359,367,373,379,383,389,397,401,409,419,421,431,433,439,443,449,457,461,463,467,479,487,491,499,503,509,521,523,541,547,557,563,569,571,577,587,593,599]
def cNb (q:Nat):List Nat:=bK5.filter fun p=>Nat.blt p q
theorem aLm (a:Int) {b:Int}(h:0<b): -b<a.tmod b∧a.tmod b<b:=by
 have h1:=Int.tmod_lt_of_pos a h;have h2:=Int.lt_tmod_of_pos a h;omega
end
section
theorem aAe (a:Int) {m:Int}(hm:0<m):a % m=if a.tmod m<0 then a.tmod m+m else a.tmod m:=by
 have h1:=Int.mul_tdiv_add_tmod a m;have h2:=aLm a hm
 have h3:a % m=(a.tmod m) % m:=by
  conv=>lhs;rw[← h1]
  exact Int.mul_add_emod_self_left ..
 rw[h3];split
 ·rename_i h;have:a.tmod m % m=(a.tmod m+m) % m:=(Int.add_emod_right ..).symm;rw[this];exact Int.emod_eq_of_lt (by omega) (by omega)
 ·exact Int.emod_eq_of_lt (by omega) (by omega)
end
end Go.Num
