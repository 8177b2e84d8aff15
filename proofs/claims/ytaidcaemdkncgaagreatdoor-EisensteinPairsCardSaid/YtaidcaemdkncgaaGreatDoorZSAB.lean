/- Contracts of functions of the program, and what proves them (texts: Lg9 Lg10 Lg11 Lg12 Lg13). -/
import Derived.MapKept
import Derived.Test.YtaidcaemdkncgaaGreatDoorZSAA
set_option linter.all false
set_option maxRecDepth 100000
set_option maxHeartbeats 8000000
namespace Go.Lg
section
open Go
section
variable {P:Program}[Laid P] {w0:World}{M St0:Nat→Prop}{s:LS}{μ:Nat→Option (Nat×Nat)}{St:Nat→Prop}{a:Act}{w:World}
def yZ (μ:Nat→Option (Nat×Nat)) (St:Nat→Prop) (fz:List Nat):Nat→Prop:=fun g=>St g∨∃ b∈fz,∃ R,μ b=some (g,R)
theorem vW {μ:Nat→Option (Nat×Nat)}{St:Nat→Prop}{F F':List Nat}(h:∀ b∈F,b∈F') (g:Nat) (hg:yZ μ St F g):yZ μ St F' g:=by
 rcases hg with hg |⟨b,hb,R,hm⟩
 ·exact .inl hg
 ·exact .inr ⟨b,h b hb,R,hm⟩
def bXm (s:LS) (ok:Nat→Bool) (μ:Nat→Option (Nat×Nat)) (St:Nat→Prop) (w:World) (k:Nat):Prop:=
 ∀ x y F v,pv s.h ok k x=some (y,F)→Rep St w.heap μ x v→Rep (yZ μ St F) w.heap (fun _=>none) y v∧∀ b∈F,∃ k,s.h b=some k
theorem kP {ok:Nat→Bool}{k:Nat}(ih:bXm s ok μ St w k):∀ {cs:List LV}{ys:List LV}{F:List Nat}{us:List Value},fM s.h ok k cs=some (ys,F)→Reps St w.heap μ cs us→
  Reps (yZ μ St F) w.heap (fun _=>none) ys us∧∀ b∈F,∃ k,s.h b=some k
 |[],ys,F,us,h,hr=>by
  simp[fM]at h
  obtain⟨rfl,rfl⟩:=h;have:us=[]:=List.eq_nil_of_length_eq_zero hr.1.symm;subst this
  exact⟨Reps.nil,by simp⟩
 |c::cs,ys,F,us,h,hr=>by
  obtain⟨u,us',rfl,hu,hr'⟩:=hr.head
  cases hrest:fM s.h ok k cs with
  |none=>simp only[fM]at hrest;simp[fM,hrest]at h
  |some r=>
   cases hc:pv s.h ok k c with
   |none=>simp only[fM]at hrest;simp[fM,hrest,hc]at h
   |some p=>
    obtain⟨ys',F'⟩:=r;obtain⟨y,F1⟩:=p;have h':=h;simp only[fM]at hrest;simp only[fM,List.foldr_cons,hrest,hc,Option.bind_some,Option.map_some,Option.some.injEq,Prod.mk.injEq]at h';obtain⟨rfl,rfl⟩:=h';obtain⟨hy,hF1⟩:=ih c y F1 u hc hu;obtain⟨hys,hF'⟩:=kP ih (cs:=cs) (by simpa only[fM]using hrest) hr';refine⟨Reps.cons (hy.mono (vW fun b hb=>by simp[hb]) (fun _ _=>rfl) (fun _ _ h=>by cases h)) (hys.mono (vW fun b hb=>by simp[hb]) (fun _ _=>rfl) (fun _ _ h=>by cases h)),fun b hb=> ?_⟩;rcases List.mem_append.1 hb with hb |hb
    · exact hF1 b hb
    · exact hF' b hb
theorem qR (h:Inv w0 M St0 s μ St a.tmps w) {ok:Nat→Bool}:∀ k,bXm s ok μ St w k
 |0=>fun x y F v hp _=>by simp[pv]at hp
 |k+1=>fun x y F v hp hx=>by
  have ih:=qR h (ok:=ok) k;unfold pv at hp;simp only at hp;split at hp
  · cases hp
    cases hx
    exact⟨.snil,by simp⟩
  · cases hp
    cases hx
    exact⟨.lit _,by simp⟩
  · cases hp
    refine⟨?_,by simp⟩
    cases hx with
    |snil=>exact .snil
    |sl hn hc hs hl hm h1 hr=>exact(Rep.sl (μ:=fun _=>none) hn hc hs hl hm h1 hr).mono (fun _ h=> .inl h) (fun _ _=>rfl) (fun _ _ h=>h)
  · rename_i b off n sz;split at hp
    · rename_i blk hk;split at hp
      · rename_i hh
        cases hc:fM s.h ok k ((blk.cells.drop off).take (n*sz))with
        |none=>simp only[fM]at hc;simp[hc]at hp
        |some r=>
         obtain⟨ys,F'⟩:=r;have hc':=hc;simp only[fM]at hc';simp only[hc',Option.map_some,Option.some.injEq,Prod.mk.injEq]at hp;obtain⟨rfl,rfl⟩:=hp;obtain⟨g,R,cs,hμ,hg,hsz,hle,hr,h1,_⟩:=h.blk b blk hk
         cases hx with
         | @own _ _ _ _ _ g' R' cap hb hn hcap hR=>
         rw[hμ]at hb;cases hb
         obtain⟨hys,hF'⟩:=kP ih hc ((hr.drop off).take (n*sz))
         refine⟨.sl (us:=((cs.toList.take blk.cells.length).drop off).take (n*sz)) hn hcap rfl hys.1 (fun j u hu=>⟨.inr ⟨b,by simp,R,hμ⟩,?_⟩) (fun u hu=>h1 u (List.mem_of_mem_drop (List.mem_of_mem_take hu)))
           (hys.mono (vW fun b hb=>by simp[hb]) (fun _ _=>rfl) (fun _ _ h=>h)).2,fun b' hb'=> ?_⟩
         · rw[List.getElem?_take]at hu
           split at hu
           · rw[List.getElem?_drop,List.getElem?_take]at hu
             split at hu
             · simp[cellAt,hg];simpa using hu
             · cases hu
           · cases hu
         · rcases List.mem_cons.1 hb' with rfl |hb'
           · exact⟨blk,hk⟩
           · exact hF' b' hb'
      · cases hp
    · cases hp
  · rename_i cs
    cases hc:fM s.h ok k cs with
    |none=>simp only[fM]at hc;simp[hc]at hp
    |some r=>
     obtain⟨ys,F'⟩:=r;have hc':=hc;simp only[fM]at hc';simp only[hc',Option.map_some,Option.some.injEq,Prod.mk.injEq]at hp;obtain⟨rfl,rfl⟩:=hp
     cases hx with
     |agg hl h1 hr=>
      obtain⟨hys,hF⟩:=kP ih hc ⟨hl,hr⟩;exact⟨.agg hys.1 h1 hys.2,hF⟩
  · rename_i cs
    cases hc:fM s.h ok k cs with
    |none=>simp only[fM]at hc;simp[hc]at hp
    |some r=>
     obtain⟨ys,F'⟩:=r;have hc':=hc;simp only[fM]at hc';simp only[hc',Option.map_some,Option.some.injEq,Prod.mk.injEq]at hp;obtain⟨rfl,rfl⟩:=hp
     cases hx with
     |tup hl hr=>
      obtain⟨hys,hF⟩:=kP ih hc ⟨hl,hr⟩;exact⟨.tup hys.1 hys.2,hF⟩
  · rename_i cs
    cases hc:fM s.h ok k cs with
    |none=>simp only[fM]at hc;simp[hc]at hp
    |some r=>
     obtain⟨ys,F'⟩:=r;have hc':=hc;simp only[fM]at hc';simp only[hc',Option.map_some,Option.some.injEq,Prod.mk.injEq]at hp;obtain⟨rfl,rfl⟩:=hp
     cases hx with
     |fn hl hr=>
      obtain⟨hys,hF⟩:=kP ih hc ⟨hl,hr⟩;exact⟨.fn hys.1 hys.2,hF⟩
  · rename_i b off;split at hp
    · rename_i blk hk;split at hp
      · rename_i hh
        cases hc:fM s.h ok k (blk.cells.drop off)with
        |none=>simp only[fM]at hc;simp[hc]at hp
        |some r=>
         obtain⟨ys,F'⟩:=r;have hc':=hc;simp only[fM]at hc';simp only[hc',Option.map_some,Option.some.injEq,Prod.mk.injEq]at hp;obtain⟨rfl,rfl⟩:=hp;obtain⟨g,R,cs,hμ,hg,hsz,hle,hr,h1,_⟩:=h.blk b blk hk
         cases hx with
         | @ptr _ _ _ g' R' hb=>
         rw[hμ]at hb;cases hb
         obtain⟨hys,hF'⟩:=kP ih hc (hr.drop off)
         refine⟨.ro (us:=(cs.toList.take blk.cells.length).drop off) rfl hys.1 (fun j u hu=>⟨.inr ⟨b,by simp,R,hμ⟩,?_⟩) (fun u hu=>h1 u (List.mem_of_mem_drop hu))
           (hys.mono (vW fun b hb=>by simp[hb]) (fun _ _=>rfl) (fun _ _ h=>h)).2,fun b' hb'=> ?_⟩
         · rw[List.getElem?_drop,List.getElem?_take]at hu
           split at hu
           · simp[cellAt,hg];simpa using hu
           · cases hu
         · rcases List.mem_cons.1 hb' with rfl |hb'
           · exact⟨blk,hk⟩
           · exact hF' b' hb'
      · cases hp
    · cases hp
  · cases hp
def aCp (P:Program) (f:FuncId):Prop:=∃ fn,P.funcs[f]? =some fn∧fn.name≠ "runtime.NumGoroutine" ∧fn.body.isNone=false
theorem rV {f:FuncId}(h:aCp P f) (vs:Array Value) (w:World):(callFunc f vs).run P w= .ok (.enter f vs) w:=by
 obtain⟨fn,hf,hn,hb⟩:=h;have hb':fn.body≠none:=by intro e;rw[e]at hb;cases hb
 simp[callFunc,hf,hn,hb']
theorem rW (e:TypeId) (c:Array Value) (w:World):(newRow e c).run P w= .ok ⟨w.heap.size,0,none⟩ (w.alloc (.cells c e)):=rfl
def cU (P:Program) [Laid P] (f:FuncId) (args:List LV) (r:LV):Prop:=
 aCp P f∧∀ (w:World) (St:Nat→Prop) (vs:List Value),(∀ g,St g→g<w.heap.size)→fN P St w.heap→Reps St w.heap (fun _=>none) args vs→
  Calls P f vs.toArray w fun e w'=>∃ v St',e= .returned v∧Rep St' w'.heap (fun _=>none) r v∧(∀ g,St g→St' g)∧(∀ g,St' g→g<w'.heap.size∧(St g∨w.heap.size≤g))∧
   w'.os=w.os∧w'.tape=w.tape∧w'.output=w.output∧w.heap.size≤w'.heap.size∧∀ g,g<w.heap.size→w'.heap[g]? =w.heap[g]?
theorem aM9 (h:Inv w0 M St0 s μ St a.tmps w) (hL:fN P St w.heap) (x:Operand):Rep St w.heap μ (xC P s x) (a.eval x):=by
 unfold xC;split
 ·rename_i g;split
  ·rename_i p hp;have hpm:=List.mem_of_find?_eq_some hp;have hpe:=List.find?_some hp;simp only[beq_iff_eq]at hpe;obtain⟨h1,h2,h3⟩:=hL.1 p hpm;rw[hpe]at h1 h3
   refine Rep.ro (a:=⟨g,0,none⟩) (us:=p.2) rfl (by simp) (fun j u hu=>⟨h1,by simpa using h3 j u hu⟩) h2 (fun j c u hc hu=> ?_);rw[List.getElem?_map,hu]at hc
   cases hc
   exact .lit u
  ·exact h.opnd _
 ·exact h.opnd x
theorem aCq (i:Int):∀ (l:List MapEntry) (es:List (Int×Int)) (n:Nat),l.map (fun e=>(e.key,e.val))=es.map (fun p=>(Value.int .i64 p.1,Value.int .i64 p.2))→
  (∃ j,Instr.findNow (.int .i64) (.int .i64 i) l n=some (some (j,.int .i64 (aEk es i))))∨(Instr.findNow (.int .i64) (.int .i64 i) l n=some none∧aEk es i=0)
 |[],[],n,_=> .inr ⟨rfl,rfl⟩
 |[],_::_,n,h=>by cases h
 |_::_,[],n,h=>by cases h
 |e::l,p::es,n,h=>by
  simp only[List.map_cons,List.cons.injEq,Prod.mk.injEq]at h;obtain⟨⟨h1,h2⟩,h3⟩:=h;unfold Instr.findNow;rw[h1];simp only[Instr.sameNow,if_true];unfold aEk;rw[List.find?_cons]
  cases hb:i==p.1 with
  |true=>exact .inl ⟨n,by simp[h2]⟩
  |false=>exact aCq i l es (n+1) h3
theorem aEp {P:Program}{t:TypeId}{g:Nat}{i:Int}{es:List (Int×Int)}{w:World}(hm:aDr P t=true) (h:aM5 w.heap g es):(Instr.lookup t (.map (some g)) (.int .i64 i) false).run P w= .ok (.int .i64 (aEk es i)) w:=by
 obtain⟨a,clock,hh,hes⟩:=h;unfold aDr at hm;split at hm
 ·rename_i k e ht;rw[Bool.and_eq_true]at hm
  obtain⟨hk,hz⟩:=hm
  have hk:P.underlying k=some (.int .i64):=by
   split at hk
   ·assumption
   ·cases hk
  obtain⟨inf,hi,hv⟩:∃ inf,P.info? e=some inf∧inf.zero=some (.int .i64 0):=by
   split at hz
   ·rename_i inf hi;split at hz
    ·exact⟨inf,hi,by assumption⟩
    ·cases hz
   ·cases hz
  have hck0:∀ b n,(Instr.checkKey b (n+1) k (.int .i64 i)).run P w= .ok () w:=fun b n=>by simp[Instr.checkKey,run_underlying hk,Result.andThen]
  have hck:∀ b,(Instr.checkKey b 10000 k (.int .i64 i)).run P w= .ok () w:=fun b=>hck0 b 9999
  rcases aCq i a.toList es 0 hes with⟨j,h1⟩ |⟨h1,h2⟩
  ·simp[Instr.lookup,run_underlying ht,MapKept.run_getObj_map hh,hck,MapKept.run_findKey hk h1,Result.andThen]
  ·simp[Instr.lookup,run_underlying ht,MapKept.run_getObj_map hh,hck,MapKept.run_findKey hk h1,jB hi hv,Result.andThen,h2]
 ·cases hm
theorem aEq (hL:fN P St w.heap) {id:Nat}{ok:Nat→Bool}{op:Op}{e:Eff}(hc:aF P id ok op s=some e) (h:Inv w0 M St0 s μ St a.tmps w) (hid:μ id=none) {o:Oper}{r:LV}(ho:o.op=op) (hd:∀ t,o.dst=some t→t<s.n)
  (hn:∀ f args fz,e≠ .call f args fz):bAy P w0 M St0 s μ St a w id o e r:=by
 cases op <;>simp only[aF]at hc
 case move x=>cases hc;exact cT h hd (by simp[execOp,ho]) (h.opnd x)
 case assign x=>cases hc;exact cT h hd (by simp[execOp,ho]) (h.opnd x)
 case pick c x y=>
  split at hc
  ·rename_i t ht
   cases hc
   have hcv:=h.opnd c;rw[ht]at hcv
   have hce:a.eval c= .bool t:=by generalize a.eval c=q at hcv;cases hcv;rfl
   cases t
   ·exact cT h hd (by simp[execOp,ho,hce,asBool]) (h.opnd y)
   ·exact cT h hd (by simp[execOp,ho,hce,asBool]) (h.opnd x)
  ·cases hc
 case alloc el=>
  cases hz:bT P el with
  |none=>simp[hz]at hc
  |some cs=>
   simp only[hz,Option.map_some,Option.some.injEq]at hc;subst hc;obtain⟨i,zv,hi,hv,rfl,hsz,h1⟩:=nG hz;refine uE h hid hd (v:= .pointer (some ⟨w.heap.size,0,none⟩)) (us:=zv.cells.toList) (yW _) h1 ?_ (fun μ' hm hp=> .ptr hm);simp[execOp,ho,Instr.alloc,jB hi hv,newVar,rW]
 case box el x=>
  cases hx:cellsOf (Lg.opnd s x)with
  |none=>simp[hx]at hc
  |some cs=>
   simp only[hx,Option.map_some,Option.some.injEq]at hc;subst hc;obtain⟨hr,h1⟩:=aA8 (h.opnd x) hx;refine uE h hid hd (v:= .pointer (some ⟨w.heap.size,0,none⟩)) (us:=(a.eval x).cells.toList) hr h1 ?_ (fun μ' hm hp=> .ptr hm);simp[execOp,ho,Instr.box,newVar,rW]
 case build t parts=>
  cases hb:buildL P t (parts.toList.map fun p=>(p.1,Lg.opnd s p.2))with
  |none=>simp[hb]at hc
  |some y=>
   simp only[hb,Option.map_some,Option.some.injEq]at hc;subst hc;obtain⟨v,hrun,hv⟩:=h.build hb;refine cT h hd ?_ hv
   have e1:(parts.map fun p=>(p.1,a.eval p.2))=(parts.toList.map fun p=>(p.1,a.eval p.2)).toArray:=by
     apply Array.ext';simp
   simp only[execOp,ho];rw[show(parts.map fun x:Nat×Operand=>match x with |(i,x)=>(i,a.eval x))=(parts.map fun p=>(p.1,a.eval p.2))from rfl,e1];simp[hrun]
 case buildSlice t len parts=>
  cases he:aZ P t with
  |none=>simp[he]at hc
  |some el=>
  simp only[he,Option.bind_some]at hc;split at hc
  case h_2=>cases hc
  rename_i sz z hsz hz;split at hc
  case isFalse=>cases hc
  rename_i hh;obtain⟨i,zv,hi,hv,rfl,hzs,h1⟩:=nG hz;have hsi:i.size=sz:=by simp[aL,hi]at hsz;exact hsz
  cases hf:fillL (fun i=>some (i*sz,sz)) (yV (zv.cells.toList.map .lit) (len*sz)) (parts.toList.map fun p=>(p.1,Lg.opnd s p.2))with
  |none=>simp[hf]at hc
  |some out=>
  simp only[hf,Option.map_some,Option.some.injEq]at hc;subst hc
  have e1:(parts.map fun p=>(p.1,a.eval p.2))=(parts.toList.map fun p=>(p.1,a.eval p.2)).toArray:=by
   apply Array.ext';simp
  by_cases h0:len*sz=0
  ·have hcy:yV (zv.cells.toList.map .lit) (len*sz)=[]:=by simp[yV,h0]
   rw[hcy]at hf
   obtain⟨us',hfill,hr,ho'⟩:=nQ (St:=St) (μ:=μ) (w:=w) (lp:=parts.toList.map fun p=>(p.1,Lg.opnd s p.2)) (vp:=parts.toList.map fun p=>(p.1,a.eval p.2)) (us:= #[]) (by simp) (h.parts _) Reps.nil (by simp) hf;refine uE h hid hd (v:= .slice (some ⟨w.heap.size,0,none⟩) len len) (us:=us'.toList) hr ho' ?_ (fun μ' hm hp=> .own hm (Nat.le_refl _) hh.2 ?_)
   ·have h24:¬(16777216<len*sz):=by omega
    simp only[execOp,ho];rw[show(parts.map fun x:Nat×Operand=>match x with |(i,x)=>(i,a.eval x))=(parts.map fun p=>(p.1,a.eval p.2))from rfl,e1];have er:Array.map (fun(_:Nat)=>(default:Value)) (Array.range 0)= #[]:=by simp
    simp[Instr.buildSlice,run_underlying (cP he),cO hsz,h0,er,hfill,rW]
   ·have h3:out.length=0:=by rw[uF hf];rfl
    have h2:=hr.1;show 0+len*sz=us'.toList.length;omega
  ·have hzpos:0<zv.cells.size:=by
    rw[hzs,hsi];rcases Nat.eq_zero_or_pos sz with h' |h'
    ·rw[h']at h0;simp at h0
    ·exact h'
   obtain⟨hrc,h1c⟩:=aUd (St:=St) (μ:=μ) (w:=w) (zs:=zv.cells) (n:=len*sz) (.inr hzpos);obtain⟨us',hfill,hr,ho'⟩:=nQ (lp:=parts.toList.map fun p=>(p.1,Lg.opnd s p.2)) (vp:=parts.toList.map fun p=>(p.1,a.eval p.2)) (by simp) (h.parts _) hrc (h1c h1) hf;refine uE h hid hd (v:= .slice (some ⟨w.heap.size,0,none⟩) len len) (us:=us'.toList) hr ho' ?_ (fun μ' hm hp=> .own hm (Nat.le_refl _) hh.2 ?_)
   ·have h24:¬(16777216<len*sz):=by omega
    simp only[execOp,ho];rw[show(parts.map fun x:Nat×Operand=>match x with |(i,x)=>(i,a.eval x))=(parts.map fun p=>(p.1,a.eval p.2))from rfl,e1];simp[Instr.buildSlice,run_underlying (cP he),cO hsz,h0,h24,jB hi hv,hfill,rW]
   ·have h3:out.length=len*sz:=by rw[uF hf];simp[yV]
    have h2:=hr.1;show 0+len*sz=us'.toList.length;omega
 case load t x=>
  cases hl:mN P ok s t (Lg.opnd s x)with
  |none=>simp[hl]at hc
  |some y=>
   simp only[hl,Option.map_some,Option.some.injEq]at hc;subst hc;obtain⟨u,hrun,hu⟩:=h.load (h.opnd x) hl;exact cT h hd (by simp[execOp,ho,hrun]) hu
 case store t x y=>exact aM8 h ho hd hc
 case binOp op xt x y yt=>
  split at hc
  ·rename_i p q hp hq
   cases hb:xN P op xt p q with
   |none=>simp[hb]at hc
   |some v=>
    simp only[hb,Option.map_some,Option.some.injEq]at hc;subst hc;have hxv:=h.opnd x;have hyv:=h.opnd y;rw[hp]at hxv
    rw[hq]at hyv
    have ex:a.eval x=p:=by generalize a.eval x=z at hxv;cases hxv;rfl
    have ey:a.eval y=q:=by generalize a.eval y=z at hyv;cases hyv;rfl
    refine cT h hd (v:=v) ?_ (.lit _);have h2:=aQz (ox:=x) (oy:=y) hb w;simp[execOp,ho,ex,ey,h2.1,h2.2]
  ·rename_i n cs hp hq
   cases hb:kO P op xt n with
   |none=>simp[hb]at hc
   |some v=>
    simp only[hb,Option.map_some,Option.some.injEq]at hc;subst hc;have hxv:=h.opnd x;have hyv:=h.opnd y;rw[hp]at hxv
    rw[hq]at hyv
    have ey:a.eval y= .slice none 0 0:=by generalize a.eval y=z at hyv;cases hyv;rfl
    obtain⟨ad,m,c,ex⟩:∃ ad m c,a.eval x= .slice (some ad) m c:=by
      generalize a.eval x=z at hxv
      cases hxv with
      |snil=>simp[kO]at hb
      |sl _ _ _ _ _ _ _=>exact⟨_,_,_,rfl⟩
    refine cT h hd (v:=v) ?_ (.lit _);have h2:=yY (ox:=x) (oy:=y) (ad:=ad) (m:=m) (c:=c) hb w;simp[execOp,ho,ex,ey,h2.1,h2.2]
  ·rename_i b off n sz hp hq
   cases hb:kO P op xt 1 with
   |none=>simp[hb]at hc
   |some v=>
    simp only[hb,Option.map_some,Option.some.injEq]at hc;subst hc;have hxv:=h.opnd x;have hyv:=h.opnd y;rw[hp]at hxv
    rw[hq]at hyv
    have ey:a.eval y= .slice none 0 0:=by generalize a.eval y=z at hyv;cases hyv;rfl
    obtain⟨ad,m,c,ex⟩:∃ ad m c,a.eval x= .slice (some ad) m c:=by
      generalize a.eval x=z at hxv
      cases hxv with
      |own _ _ _ _=>exact⟨_,_,_,rfl⟩
    refine cT h hd (v:=v) ?_ (.lit _);have h2:=yY (ox:=x) (oy:=y) (ad:=ad) (m:=m) (c:=c) hb w;simp[execOp,ho,ex,ey,h2.1,h2.2]
  ·cases hc
 case lookup t x ix ok2=>
  split at hc
  ·rename_i g i hx hix;split at hc
   ·rename_i hm
    cases hf:(Laid.maps P).find? (fun p=>p.1==g)with
    |none=>simp[hf]at hc
    |some p=>
     simp only[hf,Option.map_some,Option.some.injEq]at hc;subst hc;have hpm:=List.mem_of_find?_eq_some hf;have hpe:=List.find?_some hf;simp only[beq_iff_eq]at hpe;have hM:=(hL.2 p hpm).2;rw[hpe]at hM
     have hxv:=h.opnd x;have hiv:=h.opnd ix;rw[hx]at hxv
     rw[hix]at hiv
     have ex:a.eval x= .map (some g):=by generalize a.eval x=z at hxv;cases hxv;rfl
     have ei:a.eval ix= .int .i64 i:=by generalize a.eval ix=z at hiv;cases hiv;rfl
     exact cT h hd (v:= .int .i64 (aEk p.2 i)) (by simp[execOp,ho,ex,ei,aEp hm hM]) (.lit _)
   ·cases hc
  ·cases hc
 case unOp op xt x=>
  split at hc
  ·rename_i p hp
   cases hb:unV op p with
   |none=>simp[hb]at hc
   |some v=>
    simp only[hb,Option.map_some,Option.some.injEq]at hc;subst hc;have hxv:=h.opnd x;rw[hp]at hxv
    have ex:a.eval x=p:=by generalize a.eval x=z at hxv;cases hxv;rfl
    exact cT h hd (v:=v) (by simp[execOp,ho,ex,aXn hb]) (.lit _)
  ·cases hc
 case convert src dst x=>
  split at hc
  ·rename_i d k kd n hs0 hk hx;obtain⟨d,hs⟩:=aXm hs0
   cases hc
   have hxv:=h.opnd x;rw[hx]at hxv
   have ex:a.eval x= .int kd n:=by generalize a.eval x=z at hxv;cases hxv;rfl
   refine cT h hd (v:= .int k (k.wrap n)) ?_ (.lit _);simp[execOp,ho,ex,convert,run_underlying hs,run_underlying (aQx hk),Conv.intToInt]
  ·cases hc
 case makeSlice t l c=>
  cases he:aZ P t with
  |none=>simp[he]at hc
  |some el=>
  simp only[he,Option.bind_some]at hc;split at hc
  case h_2=>cases hc
  rename_i sz by_ z k1 n k2 m hsz hby hz hl hcc;split at hc
  case isFalse=>cases hc
  rename_i hh
  cases hc
  obtain⟨i,zv,hi,hv,rfl,hzs,h1⟩:=nG hz;have hsi:i.size=sz:=by simp[aL,hi]at hsz;exact hsz
  have hbi:i.bytes=by_:=by simp[bI,hi]at hby;exact hby
  have hlv:=h.opnd l;have hcv:=h.opnd c;rw[hl]at hlv
  rw[hcc]at hcv
  have el':a.eval l= .int k1 n:=by generalize a.eval l=z at hlv;cases hlv;rfl
  have ec':a.eval c= .int k2 m:=by generalize a.eval c=z at hcv;cases hcv;rfl
  have hm:m≤9223372036854775807:=by have:=hh.2.2.2;simp only[maxLen]at this;omega
  have hb':(i.bytes:Int)*m≤281474976710656:=by
   have h3:((by_*m.toNat:Nat):Int)≤281474976710656:=by have:=hh.2.2.1;omega
   rw[Int.natCast_mul,Int.toNat_of_nonneg (Int.le_trans hh.1 hh.2.1)]at h3
   rw[hbi];exact h3
  have hrun:=run_make (P:=P) w t el i zv (cP he) hi hv k1 k2 n m hh.1 hh.2.1 hb' hm;by_cases hzp:m.toNat*sz=0∨0<zv.cells.size
  ·obtain⟨hrc,h1c⟩:=aUd (St:=St) (μ:=μ) (w:=w) (zs:=zv.cells) (n:=m.toNat*sz) hzp;refine uE h hid hd (v:= .slice (some ⟨w.heap.size,0,none⟩) n.toNat m.toNat) (us:=(madeCells zv.cells (m.toNat*sz)).toList) hrc (h1c h1) ?_ (fun μ' hm' hp=> .own hm' (by omega) hh.2.2.2 (by rw[Array.length_toList,size_madeCells,Nat.zero_add]));rw[hsi]at hrun
   simp[execOp,ho,el',ec',hrun]
  ·exfalso;apply hzp;rw[hzs,hsi];rcases Nat.eq_zero_or_pos sz with h' |h'
   ·left;rw[h'];rfl
   ·right;exact h'
 case slice t x lo hi mx=>
  cases mx with
  |some _=>simp[aF]at hc
  |none=>
   cases hl:mF P t (Lg.opnd s x) (lo.map (Lg.opnd s)) (hi.map (Lg.opnd s))with
   |none=>simp[aF,hl]at hc
   |some y=>
    simp only[aF,hl,Option.map_some,Option.some.injEq]at hc;subst hc;obtain⟨u,hrun,hu⟩:=h.slice (h.opnd x) (h.bounds lo) (h.bounds hi) hl;exact cT h hd (by simp[execOp,ho,hrun]) hu
 case nilCheck x=>
  split at hc
  ·rename_i b off hx
   cases hc
   have hxv:=h.opnd x;rw[hx]at hxv
   obtain⟨g,hge⟩:∃ g,a.eval x= .pointer (some g):=by
    generalize a.eval x=q at hxv
    cases hxv;exact⟨_,rfl⟩
   refine cT h hd (v:=a.eval x) ?_ hxv;simp[execOp,ho,hge]
  ·cases hc
 case fieldAddr t x f=>
  cases hl:fieldAddrL P t (Lg.opnd s x) f with
  |none=>simp[hl]at hc
  |some y=>
   simp only[hl,Option.map_some,Option.some.injEq]at hc;subst hc;obtain⟨u,hrun,hu⟩:=h.fieldAddr (h.opnd x) hl;exact cT h hd (by simp[execOp,ho,hrun]) hu
 case field t x f=>
  split at hc
  ·rename_i cs hx
   cases hp:aX P t f with
   |none=>simp[hp]at hc
   |some p=>
   obtain⟨fs,fd,hu,hf,rfl⟩:=aCn hp;simp only[hp,Option.bind_some]at hc
   cases hl:partL P fd.type cs fd.offset with
   |none=>simp[hl]at hc
   |some y=>
   simp only[hl,Option.map_some,Option.some.injEq]at hc;subst hc;have hxv:=h.opnd x;rw[hx]at hxv
   generalize hq:a.eval x=q at hxv
   cases hxv with
   |agg hl' h1 hr=>
    obtain⟨v,hrun,hv⟩:=aEl (w:=w) hl ⟨hl',hr⟩ h1;exact cT h hd (by simp[execOp,ho,hq,Instr.field,run_underlying hu,hf,asAgg,hrun]) hv
  ·cases hc
 case indexAddr t x ix=>
  cases hl:jI P t (xC P s x) (Lg.opnd s ix)with
  |none=>simp[hl]at hc
  |some y=>
   simp only[hl,Option.map_some,Option.some.injEq]at hc;subst hc;obtain⟨u,hrun,hu⟩:=h.index (aM9 h hL x) (h.opnd ix) hl;exact cT h hd (by simp[execOp,ho,hrun]) hu
 case index t x ix=>
  split at hc
  ·rename_i cs k i hx hi
   cases he:dA P t with
   |none=>simp[he]at hc
   |some e2=>
   cases hz:aL P e2.2 with
   |none=>simp[he,hz]at hc
   |some sz=>
   simp only[he,hz,Option.bind_some]at hc;split at hc
   case isFalse=>cases hc
   rename_i hin
   cases hl:partL P e2.2 cs (i.toNat*sz)with
   |none=>simp[hl]at hc
   |some y=>
   simp only[hl,Option.map_some,Option.some.injEq]at hc;subst hc;have hxv:=h.opnd x;have hiv:=h.opnd ix;rw[hx]at hxv
   rw[hi]at hiv
   have ei:a.eval ix= .int k i:=by generalize a.eval ix=z at hiv;cases hiv;rfl
   generalize hq:a.eval x=q at hxv
   cases hxv with
   |agg hl' h1 hr=>
    obtain⟨v,hrun,hv⟩:=aEl (w:=w) hl ⟨hl',hr⟩ h1;refine cT h hd ?_ hv;simp only[execOp,ho,hq,ei,Instr.index,asIntOf,Sem.run_bind,Sem.run_pure,Result.andThen_ok,run_underlying (qQ he)];simp[hin,cO hz,hrun]
  ·cases hc
 case extract t ix=>
  split at hc
  ·rename_i vs ht
   cases hv:vs[ix]? with
   |none=>simp[hv]at hc
   |some x=>
   simp only[hv,Option.map_some,Option.some.injEq]at hc;subst hc;have htv:=h.opnd t;rw[ht]at htv
   generalize hq:a.eval t=q at htv
   cases htv with
   |tup hl hr=>
    rename_i us
    have hlt:ix<us.length:=by
      have:=(List.getElem?_eq_some_iff.1 hv).1;omega
    have hus:us[ix]? =some us[ix]:=List.getElem?_eq_getElem hlt;refine cT h hd (v:=us[ix]) ?_ (hr ix _ _ hv hus);simp[execOp,ho,hq,Instr.extract,hus]
  ·cases hc
 case makeFunc fn first captured=>
  cases fn with
  |func f=>
   simp only[aF]at hc;split at hc
   · rename_i h0
     cases hc
     have hf:first= #[]:=Array.eq_empty_of_size_eq_zero h0;subst hf;have hr:=h.opnds captured.toList;refine cT h hd (v:= .func (.func f) #[] (captured.map a.eval)) (by simp[execOp,ho,Instr.makeFunc]) ?_;have e:captured.map a.eval=(captured.toList.map a.eval).toArray:=by apply Array.ext';simp
     rw[e];exact Rep.fn (f:=f) hr.1 hr.2
   · cases hc
  |_=>simp[aF]at hc
 case call c=>
  obtain⟨callee,args,argTypes⟩:=c;unfold tJ at hc;simp only at hc;split at hc
  ·split at hc
   ·rename_i f0 g cs hg
    cases hp:fM s.h ok 5 (args.toList.map (Lg.opnd s)++cs)with
    |none=>simp[hp]at hc
    |some r=>simp only[hp,Option.map_some,Option.some.injEq]at hc;exact absurd hc.symm (hn _ _ _)
   ·cases hc
  ·rename_i b;have hargs:=h.opnds args.toList;split at hc
   ·
    rename_i l t x ht hx;have hat:argTypes= #[t]:=by apply Array.ext';simpa using ht
    obtain⟨ox,hox,hxe⟩:∃ ox,args= #[ox]∧Lg.opnd s ox=x:=by
     obtain⟨l⟩:=args;simp only at hx
     match l,hx with
     |[ox],hx=>simp at hx;exact⟨ox,rfl,hx⟩
    subst hat hox;split at hc
    ·rename_i el he
     cases hl:wZ s x with
     |none=>simp[hl]at hc
     |some n=>
     simp only[hl,Option.map_some,Option.some.injEq]at hc;subst hc;have hxv:=h.opnd ox;rw[hxe]at hxv
     obtain⟨A,cap,hv⟩:=aXq hl hxv;refine cT h hd (v:= .int .i64 n) ?_ (.lit _);simp[execOp,ho,resolve,invoke,builtin,Builtin.len_,run_underlying (cP he),hv,goInt]
    ·rename_i hne;split at hc
     ·rename_i p he
      cases hc
      have hu:=qQ he;refine cT h hd (v:= .int .i64 (p.1:Int)) ?_ (.lit _);simp[execOp,ho,resolve,invoke,builtin,Builtin.len_,run_underlying hu,goInt]
     ·cases hc
   ·
    rename_i l t t' d x ht hx;split at hc
    case isFalse=>cases hc
    rename_i htt;subst htt;have hat:argTypes= #[t',t']:=by apply Array.ext';simpa using ht
    obtain⟨od,ox,hox,hde,hxe⟩:∃ od ox,args= #[od,ox]∧Lg.opnd s od=d∧Lg.opnd s ox=x:=by
     obtain⟨l⟩:=args;simp only at hx
     match l,hx with
     |[od,ox],hx=>simp at hx;exact⟨od,ox,rfl,hx.1,hx.2⟩
    subst hat hox;rw[← hde,← hxe]at hc
    exact aKe h (ty:=0) hid ho hd hc
   ·
    cases hl:lR (args.toList.map (Lg.opnd s))with
    |none=>simp[hl]at hc
    |some vs=>
    cases hm:aM3 vs with
    |none=>simp[hl,hm]at hc
    |some v=>
    simp only[hl,hm,Option.bind_some,Option.map_some,Option.some.injEq]at hc;subst hc;have he:=aEo hl hargs;have e1:args.map a.eval=vs.toArray:=by apply Array.ext';simpa using he
    refine cT h hd (v:=v) ?_ (.lit _);simp[execOp,ho,resolve,invoke,builtin,e1,aXo hm]
   ·
    cases hl:lR (args.toList.map (Lg.opnd s))with
    |none=>simp[hl]at hc
    |some vs=>
    cases hm:aM4 vs with
    |none=>simp[hl,hm]at hc
    |some v=>
    simp only[hl,hm,Option.bind_some,Option.map_some,Option.some.injEq]at hc;subst hc;have he:=aEo hl hargs;have e1:args.map a.eval=vs.toArray:=by apply Array.ext';simpa using he
    refine cT h hd (v:=v) ?_ (.lit _);simp[execOp,ho,resolve,invoke,builtin,e1,aXp hm]
   ·cases hc
  ·cases hc
 all_goals(first |cases hc |(simp[aF]at hc;done))
theorem tK {id:Nat}{ok:Nat→Bool}{op:Op}{f:FuncId}{args:List LV}{fz:List Nat}(hc:aF P id ok op s=some (.call f args fz)):
  ∃ c,op= .call c∧tJ P id ok s c=some (.call f args fz):=by
 cases op
 case call c=>exact⟨c,rfl,hc⟩
 case makeFunc fn _ _=>
  exfalso
  cases fn <;>simp only[aF]at hc
  all_goals repeat' (first
   |(cases hc;done)
   |split at hc)
 case slice t x lo hi mx=>
  exfalso
  cases mx <;>simp[aF,Option.map_eq_some_iff]at hc
 case store t x y=>
  exfalso;simp only[aF,nO]at hc
  repeat' (first
   |(cases hc;done)
   |split at hc)
 all_goals
  exfalso;simp only[aF]at hc
  repeat' (first
   |(cases hc;done)
   |(simp[Option.bind_eq_some_iff,Option.map_eq_some_iff]at hc;done)
   |split at hc)
 case buildSlice=>
  simp only[Option.bind_eq_some_iff]at hc;obtain⟨_,_,hc⟩:=hc
  repeat' (first
   |(cases hc;done)
   |(simp[Option.bind_eq_some_iff,Option.map_eq_some_iff]at hc;done)
   |split at hc)
 case makeSlice=>
  simp only[Option.bind_eq_some_iff]at hc;obtain⟨_,_,hc⟩:=hc
  repeat' (first
   |(cases hc;done)
   |(simp[Option.bind_eq_some_iff,Option.map_eq_some_iff]at hc;done)
   |split at hc)
theorem aEr {id:Nat}{ok:Nat→Bool}{c:Call}{f:FuncId}{args:List LV}{fz:List Nat}(hc:tJ P id ok s c=some (.call f args fz)):
  ∃ g cs,c.callee= .value g∧Lg.opnd s g= .fn f cs∧fM s.h ok 5 (c.args.toList.map (Lg.opnd s)++cs)=some (args,fz):=by
 unfold tJ at hc;simp only at hc;split at hc
 ·rename_i g hg;split at hc
  ·rename_i g' cs hg'
   cases hp:fM s.h ok 5 (c.args.toList.map (Lg.opnd s)++cs)with
   |none=>simp[hp]at hc
   |some r=>
    simp only[hp,Option.map_some,Option.some.injEq,Eff.call.injEq]at hc;obtain⟨rfl,rfl,rfl⟩:=hc;exact⟨g,cs,hg,hg',hp⟩
  ·cases hc
 ·exfalso;split at hc
  ·split at hc
   ·simp[Option.map_eq_some_iff]at hc
   ·split at hc <;>cases hc
  ·split at hc
   ·unfold appendL at hc;simp only[Option.bind_eq_some_iff]at hc;obtain⟨_,_,hc⟩:=hc;split at hc
    ·simp only[Option.bind_eq_some_iff]at hc;obtain⟨p,_,hc⟩:=hc;obtain⟨m,news⟩:=p;simp only at hc
     repeat' (first
      |(cases hc;done)
      |split at hc)
    ·cases hc
   ·cases hc
  ·simp[Option.bind_eq_some_iff,Option.map_eq_some_iff]at hc
  ·simp[Option.bind_eq_some_iff,Option.map_eq_some_iff]at hc
  ·cases hc
 ·cases hc
theorem aKf {id:Nat}{ok:Nat→Bool}{op:Op}{f:FuncId}{args:List LV}{fz:List Nat}(hc:aF P id ok op s=some (.call f args fz)) (h:Inv w0 M St0 s μ St a.tmps w) {o:Oper}(ho:o.op=op)
  (he:aCp P f):∃ vs:List Value,(execOp a.eval o).run P w= .ok (.enter f vs.toArray) w∧Reps (yZ μ St fz) w.heap (fun _=>none) args vs∧∀ b∈fz,∃ k,s.h b=some k:=by
 obtain⟨c,rfl,hcl⟩:=tK hc;obtain⟨g,cs,hg,hgv,hp⟩:=aEr hcl;have hargs:=h.opnds c.args.toList;have hgf:=h.opnd g;rw[hgv]at hgf
 obtain⟨us,hge,hus⟩:∃ us,a.eval g= .func (.func f) #[] us.toArray∧Reps St w.heap μ cs us:=by
  generalize a.eval g=q at hgf
  cases hgf with
  |fn hl hr=>exact⟨_,rfl,hl,hr⟩
 obtain⟨hr,hfz⟩:=kP (qR h (ok:=ok) 5) hp (hargs.append hus);refine⟨c.args.toList.map a.eval++us,?_,hr,hfz⟩;have e1:c.args.map a.eval++us.toArray=(c.args.toList.map a.eval++us).toArray:=by apply Array.ext';simp
 obtain⟨callee,cargs,ct⟩:=c;simp only at hg e1;subst hg;simp[execOp,ho,resolve,hge,Deferred.ofValue,invoke,e1,rV he]
end
end
section
open Go
def bP:LV:= .lit undef
def cS (ops:Array Oper) (o:Oper) (s:LS):Option Bool:=
 match o.guard with
 |none=>some true
 |some (j,want)=>match(ops[j]?).bind (·.dst)with
  |some t=>match s.f t with
   | .lit (.bool b)=>some (b==want)
   | .lit (.tuple _)=>some false
   |_=>none
  |none=>none
def nR (o:Oper) (n:Nat):Bool:=
 match o.dst with
 |some d=>decide (d<n)
 |none=>true
def mO (P:Program) [Laid P] (id:Nat) (ok:Nat→Bool) (ops:Array Oper) (o:Oper) (s s':LS):Prop:=
 nR o s.n=true∧∃ b,cS ops o s=some b∧(b=false→s'=s.put o.dst bP)∧
  (b=true→∃ e r,aF P id ok o.op s=some e∧(∀ f args fz,e= .call f args fz→cU P f args r)∧s'=s.eff id o.dst e r)
section
variable {P:Program}[Laid P] {w0:World}{M St0:Nat→Prop}{s:LS}{μ:Nat→Option (Nat×Nat)}{St:Nat→Prop}{a:Act}{w:World}
theorem bOf {o:Oper}{n:Nat}(h:nR o n=true):∀ t,o.dst=some t→t<n:=by
 intro t ht;simpa[nR,ht]using h
theorem rX (h:Inv w0 M St0 s μ St a.tmps w) {ops:Array Oper}{o:Oper}{b:Bool}(hw:cS ops o s=some b):Region.wanted o (yielded ops a.tmps)=b:=by
 unfold cS at hw;unfold Region.wanted;split at hw
 ·rename_i hg;rw[hg];cases hw;rfl
 ·rename_i j want hg;rw[hg];split at hw
  ·rename_i t ht;split at hw
   ·rename_i q hq
    cases hw
    have hf:=h.frame t;rw[hq]at hf
    have hlt:t<a.tmps.size:=by
     rcases Nat.lt_or_ge t a.tmps.size with hlt |hge
     ·exact hlt
     ·have:a.tmps.getD t undef=undef:=by simp[Array.getD,Nat.not_lt.2 hge]
      rw[this]at hf
      cases hf
    have:a.tmps[t]? =some (.bool q):=by
     simp only[Array.getD,hlt,dite_true]at hf;rw[Array.getElem?_eq_getElem hlt];simp only[Array.getInternal_eq_getElem]at hf;generalize a.tmps[t]=z at hf
     cases hf
     rfl
    simp[yielded,ht,this]
   ·rename_i us hq
    cases hw
    have hf:=h.frame t;rw[hq]at hf
    have:∀ q,a.tmps[t]? ≠some (.bool q):=by
     intro q hh;have hlt:t<a.tmps.size:=(Array.getElem?_eq_some_iff.1 hh).1;rw[Array.getElem?_eq_getElem hlt]at hh
     simp only[Array.getD,hlt,dite_true,Array.getInternal_eq_getElem]at hf;generalize a.tmps[t]=z at hf hh
     cases hf <;>cases hh
    have hy:yielded ops a.tmps j=none:=by
     unfold yielded;split
     ·rename_i q hh;rw[ht]at hh
      exact absurd hh (this q)
     ·rfl
    show(yielded ops a.tmps j==some want)=false;rw[hy];rfl
   ·cases hw
  ·cases hw
theorem Inv.after_call (h:Inv w0 M St0 s μ St a.tmps w) {fz:List Nat}(hfz:∀ b∈fz,∃ k,s.h b=some k) {St':Nat→Prop}{w':World}
  (h1:∀ g,yZ μ St fz g→St' g) (h2:∀ g,St' g→g<w'.heap.size∧(yZ μ St fz g∨w.heap.size≤g)) (hos:w'.os=w.os) (ht:w'.tape=w.tape) (hout:w'.output=w.output)
  (hsz:w.heap.size≤w'.heap.size) (hk:∀ g,g<w.heap.size→w'.heap[g]? =w.heap[g]?):Inv w0 M St0 {s with h:=if fz=[]then s.h else bY s.h fz} μ St' a.tmps w':=by
 have hf:=h.freeze fz hfz
 have e:(if fz=[]then s.h else bY s.h fz)=bY s.h fz:=by
  split
  ·rename_i hnil;subst hnil
   funext b
   simp[bY]
  ·rfl
 rw[e];have hS:∀ g,yZ μ St fz g→w'.heap[g]? =w.heap[g]? :=fun g hg=>hk g (hf.st_lt g hg).1
 have hrep:∀ x v,Rep (yZ μ St fz) w.heap μ x v→Rep St' w'.heap μ x v:=fun x v hx=>hx.mono h1 hS (fun _ _ h=>h)
 refine⟨fun i=>hrep _ _ (hf.frame i),hf.sz,?_,hf.inj,fun b g R hm=>⟨Nat.lt_of_lt_of_le (hf.lt b g R hm).1 hsz,(hf.lt b g R hm).2.imp id (Or.imp id (h1 g))⟩,?_,fun g hg=>h1 g (.inl (h.st0 g hg)),hos.trans h.os,ht.trans h.tape,hout.trans h.output,Nat.le_trans h.size hsz,fun g hg hM=>(hk g (Nat.lt_of_lt_of_le hg h.size)).trans (h.kept g hg hM)⟩
 ·intro b k hb;obtain⟨g,R,cs,hm,hg,hcs,hle,hr,ho,hfz',hnfz⟩:=hf.blk b k hb;have hlt:=(hf.lt b g R hm).1;refine⟨g,R,cs,hm,by rw[hk g hlt];exact hg,hcs,hle,hr.mono h1 hS (fun _ _ h=>h),ho,fun hh=>h1 g (hfz' hh),fun hh hs=> ?_⟩;rcases(h2 g hs).2 with hh' |hh'
  ·exact hnfz hh hh'
  ·omega
 ·intro g hg;refine⟨(h2 g hg).1,?_⟩;rcases(h2 g hg).2 with hh |hh
  ·exact(hf.st_lt g hh).2
  ·exact .inr (.inr (Nat.le_trans h.size hh))
theorem xO (hL:fO P w0 M St0) (h:Inv w0 M St0 s μ St a.tmps w) {id:Nat}(hid:μ id=none) {ok:Nat→Bool}{ops:Array Oper}{o:Oper}{s':LS}(hs:mO P id ok ops o s s') {K:Act→World→Prop}{Q:Exit→Act→World→Prop}
  (hK:∀ μ' St' a' w',Inv w0 M St0 s' μ' St' a'.tmps w'→a'.defers=a.defers→(∀ b,b≠id→μ' b=μ b)→K a' w'):
  if Region.wanted o (yielded ops a.tmps)then o.wp P a w K Q else K (a.put o.dst undef) w:=by
 obtain⟨hd0,b,hb,hf,ht⟩:=hs;have hd:=bOf hd0;rw[rX h hb];have hdef:∀ v,(a.put o.dst v).defers=a.defers:=fun v=>by unfold Act.put;split <;>rfl
 cases b with
 |false=>
  have:=hf rfl;subst this;simp only[Bool.false_eq_true,if_false]
  exact hK μ St _ w (h.putD (.lit _) hd a.defers) (hdef _) (fun _ _=>rfl)
 |true=>
  obtain⟨e,r,hc,hg,rfl⟩:=ht rfl;simp only[if_true]
  cases e with
  |call f args fz=>
   obtain⟨hen,hgood⟩:=hg f args fz rfl;obtain⟨vs,hrun,hr,hfz⟩:=aKf hc h rfl hen;unfold Oper.wp;rw[hrun];simp only[Oper.upon];refine(hgood w (yZ μ St fz) vs (fun g hg=>((h.freeze fz hfz).st_lt g hg).1) ((h.laid hL).same (fun _ h=> .inl h) (fun _ _=>rfl)) hr).mono ?_;rintro e w' ⟨v,St',rfl,hv,h1,h2,hos,htp,hout,hsz,hk⟩;have hI:=h.after_call hfz h1 h2 hos htp hout hsz hk
   exact hK μ St' _ w' (hI.putD (hv.mono (fun _ h=>h) (fun _ _=>rfl) (fun _ _ h=>by cases h)) hd a.defers) (hdef _) (fun _ _=>rfl)
  |_=>
   all_goals
     obtain⟨v,w',μ',nx,hrun,hnx,hI,hμ,_⟩:=aEq (r:=r) (h.laid hL) hc h hid rfl hd (by simp);unfold Oper.wp;rw[hrun];rcases hnx with rfl |⟨rfl,rfl⟩
     · exact hK μ' St _ w' hI (hdef _) hμ
     · exact hK μ' St _ w' hI (hdef _) hμ
end
def tV (P:Program) [Laid P] (base:Nat) (ok:Nat→Nat→Bool) (ops:Array Oper):List Nat→LS→LS→Prop
 |[],s,s'=>s=s'
 |i::rest,s,s'=>∃ o s1,ops[i]? =some o∧mO P (base+i) (ok i) ops o s s1∧tV P base ok ops rest s1 s'
theorem aA9 {P:Program}[Laid P] {w0:World}{M St0:Nat→Prop}{base:Nat}{ok:Nat→Nat→Bool}{ops:Array Oper}{Q:Exit→Act→World→Prop}(hL:fO P w0 M St0):
  ∀ (l:List Nat) {s s':LS}{μ:Nat→Option (Nat×Nat)}{St:Nat→Prop}{a:Act}{w:World},l.Nodup→tV P base ok ops l s s'→Inv w0 M St0 s μ St a.tmps w→(∀ i∈l,μ (base+i)=none)→
  (∀ μ' St' a' w',Inv w0 M St0 s' μ' St' a'.tmps w'→a'.defers=a.defers→(∀ b,(∀ i∈l,b≠base+i)→μ' b=μ b)→Q .normal a' w')→wpOps P ops Q l a w
 |[],s,s',μ,St,a,w,_,hr,h,_,hQ=>by
  simp only[tV]at hr;subst hr
  exact hQ μ St a w h rfl (fun _ _=>rfl)
 |i::rest,s,s',μ,St,a,w,hnd,hr,h,hμ,hQ=>by
  obtain⟨o,s1,ho,hs,hrest⟩:=hr;have hnd':=List.nodup_cons.1 hnd;unfold wpOps;simp only[ho]
  have key:=xO (Q:=Q) (K:=wpOps P ops Q rest) hL h (hμ i (by simp)) hs (fun μ' St' a' w' hI hdf hm=>
    aA9 hL rest hnd'.2 hrest hI (fun j hj=>by
        have hne:base+j≠base+i:=fun e=>by
          have hji:j=i:=by omega
          exact hnd'.1 (hji ▸ hj)
        rw[hm _ hne]
        exact hμ j (by simp[hj]))
      (fun μ'' St'' a'' w'' hI' hdf' hm'=>hQ μ'' St'' a'' w'' hI' (hdf'.trans hdf) (fun b hb=>by rw[hm' b (fun j hj=>hb j (by simp[hj])),hm b (hb i (by simp))])))
  split
  · rename_i hw;rw[if_pos hw]at key;exact .inl key
  · rename_i hw;rw[if_neg hw]at key;exact key
end
section
open Go
def cls:Op→Nat
 | .load .. =>1
 | .store .. =>2
 | .call c=>match c.callee with
   | .builtin .append=>2
   | .builtin _=>0
   |_=>1
 |_=>0
section
variable {P:Program}[Laid P] {s t:LS}{id:Nat}{ok:Nat→Bool}{op:Op}
theorem aNa {l:List Operand}(h:∀ x∈l,opnd s x=opnd t x):l.map (opnd s)=l.map (opnd t):=List.map_congr_left h
theorem aNb {h h':Nat→Option Blk}(hc:∀ b,ok b=true→(h b).map (·.cells)=(h' b).map (·.cells)):∀ k x,pv h ok k x=pv h' ok k x
 |0,x=>rfl
 |k+1,x=>by
  have ih:=aNb hc k
  have ih':(fun(c:LV) (r:Option (List LV×List Nat))=>r.bind fun r=>(pv h ok k c).map fun p=>(p.1::r.1,p.2++r.2))=fun c r=>r.bind fun r=>(pv h' ok k c).map fun p=>(p.1::r.1,p.2++r.2):=by
    funext c r;rw[ih c]
  unfold pv;simp only[ih'];split
  · rfl
  · rfl
  · rfl
  · rename_i b off n sz;by_cases hb:ok b=true
    · have:=hc b hb
      cases h1:h b <;>cases h2:h' b <;>simp_all
    · cases h1:h b <;>cases h2:h' b <;>simp_all
  · rfl
  · rfl
  · rfl
  · rename_i b off;by_cases hb:ok b=true
    · have:=hc b hb
      cases h1:h b <;>cases h2:h' b <;>simp_all
    · cases h1:h b <;>cases h2:h' b <;>simp_all
  · rfl
theorem aXr {h h':Nat→Option Blk}(hc:∀ b,ok b=true→(h b).map (·.cells)=(h' b).map (·.cells)) (k:Nat) (cs:List LV):fM h ok k cs=fM h' ok k cs:=by
 unfold fM;congr 1
 funext c r
 rw[aNb hc k c]
theorem aXs {sz:Nat}{x:LV}(hc:∀ b,ok b=true→s.h b=t.h b):aDh s ok sz x=aDh t ok sz x:=by
 unfold aDh;split
 ·rfl
 ·rfl
 ·rename_i b off n sz';by_cases hb:ok b=true
  ·rw[hc b hb]
  ·cases h1:s.h b <;>cases h2:t.h b <;>simp_all
 ·rfl
theorem aXt {x:LV}:wZ s x=wZ t x:=by unfold wZ;split <;>rfl
theorem aKg {ty:TypeId}{d x:LV}(hc:∀ b,ok b=true→s.h b=t.h b):appendL P id ok s ty d x=appendL P id ok t ty d x:=by
 unfold appendL;simp only[aXs hc]
 cases d with
 |own b off n sz'=>
  cases off with
  |succ _=>rfl
  |zero=>
   by_cases hb:ok b=true
   · simp only[hc b hb]
   · cases h1:s.h b <;>cases h2:t.h b <;>simp[hb,h1,h2]
 |lit v=>cases v with
  |slice a l c=>cases a <;>cases l <;>cases c <;>rfl
  |_=>rfl
 |_=>rfl
theorem lK (ho:∀ x∈op.operands.toList,opnd s x=opnd t x)
  (hr:cls op=1→∀ b,ok b=true→(s.h b).map (·.cells)=(t.h b).map (·.cells)) (hw:cls op=2→∀ b,ok b=true→s.h b=t.h b):
  aF P id ok op s=aF P id ok op t:=by
 cases op
 case call c=>
  obtain⟨callee,args,ts⟩:=c;simp only[aF,tJ];have hargs:args.toList.map (opnd s)=args.toList.map (opnd t):=aNa fun x hx=>ho x (by simp[Op.operands,Call.operands];exact .inr (by simpa using hx))
  rw[hargs]
  cases callee with
  |value f=>
   have hf:opnd s f=opnd t f:=ho f (by simp[Op.operands,Call.operands]);simp only[hf]
   cases opnd t f <;>simp only
   rw[aXr (hr rfl) 5]
  |invoke r m=>rfl
  |builtin b=>
   simp only
   cases b
   case append=>
     have hwr:=hw rfl;split <;>try rfl
     split <;>try rfl
     exact aKg hwr
   all_goals
     first
       |rfl
       |(split <;>first
           |rfl
           |contradiction
           |(split <;>first
               |(rw[aXt (t:=t)])
               |rfl
               |contradiction))
 case load ty x=>
  have hx:opnd s x=opnd t x:=ho x (by simp[Op.operands]);simp only[aF,hx];congr 1;unfold mN;split <;>try rfl
  rename_i b off _;by_cases hb:ok b=true
  ·have:=hr rfl b hb
   cases h1:s.h b <;>cases h2:t.h b <;>simp_all
  ·cases h1:s.h b <;>cases h2:t.h b <;>simp_all
 case store ty x y=>
  have hx:opnd s x=opnd t x:=ho x (by simp[Op.operands]);have hy:opnd s y=opnd t y:=ho y (by simp[Op.operands]);simp only[aF,hx,hy];unfold nO;split <;>try rfl
  rename_i b off _;by_cases hb:ok b=true
  ·rw[hw rfl b hb]
  ·cases h1:s.h b <;>cases h2:t.h b <;>simp_all
   all_goals(split <;>simp_all)
 case build ty parts=>
  simp only[aF]
  have:(parts.toList.map fun p=>(p.1,opnd s p.2))=parts.toList.map fun p=>(p.1,opnd t p.2):=
   List.map_congr_left fun p hp=>by rw[ho p.2 (by simp[Op.operands];exact⟨p.1,by simpa using hp⟩)]
  rw[this]
 case buildSlice ty n parts=>
  simp only[aF]
  have:(parts.toList.map fun p=>(p.1,opnd s p.2))=parts.toList.map fun p=>(p.1,opnd t p.2):=
   List.map_congr_left fun p hp=>by rw[ho p.2 (by simp[Op.operands];exact⟨p.1,by simpa using hp⟩)]
  rw[this]
 case makeFunc fn first captured=>
  cases fn <;>simp only[aF]
  have:captured.toList.map (opnd s)=captured.toList.map (opnd t):=aNa fun x hx=>ho x (by simp[Op.operands];exact .inr (by simpa using hx))
  rw[this]
 case indexAddr ty x ix=>
  have hx:opnd s x=opnd t x:=ho x (by simp[Op.operands]);have hix:opnd s ix=opnd t ix:=ho ix (by simp[Op.operands]);simp only[aF,aM2 hx,hix]
 case slice ty x lo hi mx=>
  have hx:opnd s x=opnd t x:=ho x (by simp[Op.operands])
  have hlo:lo.map (opnd s)=lo.map (opnd t):=by
   cases lo with
   |none=>rfl
   |some y=>simp[ho y (by simp[Op.operands])]
  have hhi:hi.map (opnd s)=hi.map (opnd t):=by
   cases hi with
   |none=>rfl
   |some y=>simp[ho y (by simp[Op.operands])]
  cases mx <;>simp only[aF,hx,hlo,hhi]
 all_goals
  simp only[aF];try(simp only[Op.operands,List.mem_cons,List.not_mem_nil,or_false,forall_eq_or_imp,forall_eq]at ho)
  try(simp only[ho])
end
end
section
open Go
def aCr (ok:Nat→Bool) (c:Nat):Eff→Prop
 | .val _=>True
 | .new _ _=>c=0
 | .wr b _=>c=2∧ok b=true
 | .app _ ob _=>c=2∧∀ b,ob=some b→ok b=true
 | .call _ _ fz=>c=1∧∀ b∈fz,ok b=true
section
variable {P:Program}[Laid P] {s:LS}{id:Nat}{ok:Nat→Bool}{op:Op}
theorem aQ3 {h:Nat→Option Blk}{k:Nat}(ih:∀ x y F,pv h ok k x=some (y,F)→∀ b∈F,ok b=true):∀ (cs:List LV) (ys:List LV) (F:List Nat),fM h ok k cs=some (ys,F)→∀ b∈F,ok b=true
 |[],ys,F,hp=>by simp[fM]at hp;obtain⟨rfl,rfl⟩:=hp;simp
 |c::cs,ys,F,hp=>by
  cases hrest:fM h ok k cs with
  |none=>simp only[fM]at hrest;simp[fM,hrest]at hp
  |some r=>
   cases hc:pv h ok k c with
   |none=>simp only[fM]at hrest;simp[fM,hrest,hc]at hp
   |some p=>
    have hr2:=hrest;simp only[fM]at hr2;simp only[fM,List.foldr_cons,hr2,hc,Option.bind_some,Option.map_some,Option.some.injEq,Prod.mk.injEq]at hp;obtain⟨rfl,rfl⟩:=hp;intro b hb;rcases List.mem_append.1 hb with hb |hb
    · exact ih c p.1 p.2 hc b hb
    · exact aQ3 ih cs r.1 r.2 hrest b hb
theorem bAz {h:Nat→Option Blk}:∀ k x y F,pv h ok k x=some (y,F)→∀ b∈F,ok b=true
 |0,x,y,F,hp=>by simp[pv]at hp
 |k+1,x,y,F,hp=>by
  have ih:=aQ3 (ok:=ok) (h:=h) (k:=k) (fun x y F hx=>bAz k x y F hx);unfold pv at hp;simp only at hp;split at hp
  · cases hp;simp
  · cases hp;simp
  · cases hp;simp
  · rename_i b off n sz;split at hp
    · rename_i blk hk;split at hp
      · rename_i hh
        cases hc:fM h ok k ((blk.cells.drop off).take (n*sz))with
        |none=>simp only[fM]at hc;simp[hc]at hp
        |some r=>
         have hc':=hc;simp only[fM]at hc';simp only[hc',Option.map_some,Option.some.injEq,Prod.mk.injEq]at hp;obtain⟨rfl,rfl⟩:=hp;intro b' hb';rcases List.mem_cons.1 hb' with rfl |hb'
         · exact hh.1
         · exact ih _ r.1 r.2 hc b' hb'
      · cases hp
    · cases hp
  · rename_i cs
    cases hc:fM h ok k cs with
    |none=>simp only[fM]at hc;simp[hc]at hp
    |some r=>
     have hc':=hc;simp only[fM]at hc';simp only[hc',Option.map_some,Option.some.injEq,Prod.mk.injEq]at hp;obtain⟨rfl,rfl⟩:=hp;exact ih _ r.1 r.2 hc
  · rename_i cs
    cases hc:fM h ok k cs with
    |none=>simp only[fM]at hc;simp[hc]at hp
    |some r=>
     have hc':=hc;simp only[fM]at hc';simp only[hc',Option.map_some,Option.some.injEq,Prod.mk.injEq]at hp;obtain⟨rfl,rfl⟩:=hp;exact ih _ r.1 r.2 hc
  · rename_i cs
    cases hc:fM h ok k cs with
    |none=>simp only[fM]at hc;simp[hc]at hp
    |some r=>
     have hc':=hc;simp only[fM]at hc';simp only[hc',Option.map_some,Option.some.injEq,Prod.mk.injEq]at hp;obtain⟨rfl,rfl⟩:=hp;exact ih _ r.1 r.2 hc
  · rename_i b off;split at hp
    · rename_i blk hk;split at hp
      · rename_i hh
        cases hc:fM h ok k (blk.cells.drop off)with
        |none=>simp only[fM]at hc;simp[hc]at hp
        |some r=>
         have hc':=hc;simp only[fM]at hc';simp only[hc',Option.map_some,Option.some.injEq,Prod.mk.injEq]at hp;obtain⟨rfl,rfl⟩:=hp;intro b' hb';rcases List.mem_cons.1 hb' with rfl |hb'
         · exact hh
         · exact ih _ r.1 r.2 hc b' hb'
      · cases hp
    · cases hp
  · cases hp
theorem aNc {e:Eff}(hc:aF P id ok op s=some e):aCr ok (cls op) e:=by
 cases e with
 |val v=>trivial
 |call f args fz=>
  obtain⟨c,rfl,hcl⟩:=tK hc;obtain⟨g,cs,hg,_,hp⟩:=aEr hcl;refine⟨?_,aQ3 (bAz 5) _ _ _ hp⟩
  simp[cls,hg]
 |new v k=>
  show cls op=0
  cases op <;>try rfl
  case load=>simp[aF,Option.map_eq_some_iff]at hc
  case store=>
    simp only[aF,nO]at hc
    repeat' (first
      |(cases hc;done)
      |split at hc)
  case call c=>
    exfalso;simp only[aF,tJ]at hc
    repeat' (first
      |(cases hc;done)
      |(simp[Option.bind_eq_some_iff,Option.map_eq_some_iff]at hc;done)
      |split at hc)
    all_goals
      unfold appendL at hc;simp only[Option.bind_eq_some_iff]at hc;obtain⟨_,_,hc⟩:=hc;split at hc
      · simp only[Option.bind_eq_some_iff]at hc;obtain⟨p,_,hc⟩:=hc;obtain⟨m,news⟩:=p;simp only at hc
        repeat' (first
          |(cases hc;done)
          |split at hc)
      · cases hc
 |wr b k=>
  cases op
  case store=>
    refine⟨rfl,?_⟩;simp only[aF,nO]at hc;split at hc
    · split at hc
      · split at hc
        · split at hc
          · rename_i hh;cases hc;exact hh.1
          · cases hc
        · cases hc
      · cases hc
    · cases hc
  case makeFunc fn _ _=>
    exfalso
    cases fn <;>simp only[aF]at hc
    all_goals repeat' (first
      |(cases hc;done)
      |split at hc)
  case slice t x lo hi mx=>
    exfalso
    cases mx <;>simp[aF,Option.map_eq_some_iff]at hc
  case call c=>
    exfalso;simp only[aF,tJ]at hc
    repeat' (first
      |(cases hc;done)
      |(simp[Option.bind_eq_some_iff,Option.map_eq_some_iff]at hc;done)
      |split at hc)
    all_goals
      unfold appendL at hc;simp only[Option.bind_eq_some_iff]at hc;obtain⟨_,_,hc⟩:=hc;split at hc
      · simp only[Option.bind_eq_some_iff]at hc;obtain⟨p,_,hc⟩:=hc;obtain⟨m,news⟩:=p;simp only at hc
        repeat' (first
          |(cases hc;done)
          |split at hc)
      · cases hc
  all_goals
    exfalso;simp only[aF]at hc
    repeat' (first
      |(cases hc;done)
      |(simp[Option.bind_eq_some_iff,Option.map_eq_some_iff]at hc;done)
      |split at hc)
  all_goals
    simp only[Option.bind_eq_some_iff]at hc;obtain⟨_,_,hc⟩:=hc
    repeat' (first
      |(cases hc;done)
      |(simp[Option.bind_eq_some_iff,Option.map_eq_some_iff]at hc;done)
      |split at hc)
 |app v ob k=>
  cases op
  case store=>
    exfalso;simp only[aF,nO]at hc
    repeat' (first
      |(cases hc;done)
      |split at hc)
  case makeFunc fn _ _=>
    exfalso
    cases fn <;>simp only[aF]at hc
    all_goals repeat' (first
      |(cases hc;done)
      |split at hc)
  case slice t x lo hi mx=>
    exfalso
    cases mx <;>simp[aF,Option.map_eq_some_iff]at hc
  case call c=>
    simp only[aF,tJ]at hc;split at hc
    · exfalso;split at hc
      · simp[Option.map_eq_some_iff]at hc
      · cases hc
    · rename_i hcal;split at hc
      · exfalso;split at hc
        · simp[Option.map_eq_some_iff]at hc
        · split at hc <;>cases hc
      · refine⟨by simp[cls,hcal],?_⟩;split at hc
        · unfold appendL at hc;simp only[Option.bind_eq_some_iff]at hc;obtain⟨_,_,hc⟩:=hc;split at hc
          · simp only[Option.bind_eq_some_iff]at hc;obtain⟨p,_,hc⟩:=hc;obtain⟨m,news⟩:=p;simp only at hc;split at hc
            · split at hc
              · cases hc
              · split at hc
                · cases hc;simp
                · cases hc
            · split at hc
              · split at hc
                · rename_i hh
                  cases hc
                  intro b hb
                  cases hb
                  exact hh.1
                · cases hc
              · cases hc
            · cases hc
          · cases hc
        · cases hc
      · exfalso;simp[Option.bind_eq_some_iff,Option.map_eq_some_iff]at hc
      · exfalso;simp[Option.bind_eq_some_iff,Option.map_eq_some_iff]at hc
      · cases hc
    · cases hc
  all_goals
    exfalso;simp only[aF]at hc
    repeat' (first
      |(cases hc;done)
      |(simp[Option.bind_eq_some_iff,Option.map_eq_some_iff]at hc;done)
      |split at hc)
  all_goals
    simp only[Option.bind_eq_some_iff]at hc;obtain⟨_,_,hc⟩:=hc
    repeat' (first
      |(cases hc;done)
      |(simp[Option.bind_eq_some_iff,Option.map_eq_some_iff]at hc;done)
      |split at hc)
end
end
section
open Go
def iY (id:Nat) (e:Eff) (h:Nat→Option Blk):Nat→Option Blk:=
 match e with
 | .val _=>h
 | .new _ k=>dE h id (some k)
 | .wr b k=>dE h b (some k)
 | .app _ ob k=>dE (jS h ob) id (some k)
 | .call _ _ fz=>if fz=[]then h else bY h fz
def cIr (e:Eff) (r:LV):LV:=
 match e with
 | .val v=>v
 | .new v _=>v
 | .wr _ _=> .dead
 | .app v _ _=>v
 | .call _ _ _=>r
theorem hO (s:LS) (id:Nat) (d:Option Nat) (e:Eff) (r:LV):s.eff id d e r=({s with h:=iY id e s.h}:LS).put d (cIr e r):=by
 cases e <;>rfl
theorem eY (h:Nat→Option Blk) (fz:List Nat):(if fz=[]then h else bY h fz)=bY h fz:=by
 split
 ·rename_i hn;subst hn;funext b;simp[bY]
 ·rfl
theorem cR {α:Type}(f:Nat→α) {i j:Nat}(h:i≠j) (x y:α):dE (dE f i x) j y=dE (dE f j y) i x:=by
 funext k
 unfold dE;by_cases h1:k=i <;>by_cases h2:k=j <;>simp_all
theorem kQ (h:Nat→Option Blk) (fz:List Nat) (i:Nat) (k:Blk) (hi:i∉fz):bY (dE h i (some k)) fz=dE (bY h fz) i (some k):=by
 funext b
 unfold bY dE;by_cases hb:b=i
 ·subst hb;simp[hi]
 ·simp[hb]
theorem aCs (h:Nat→Option Blk) (f g:List Nat):bY (bY h f) g=bY (bY h g) f:=by
 funext b
 unfold bY
 cases h b with
 |none=>rfl
 |some k=>by_cases h1:b∈f <;>by_cases h2:b∈g <;>simp[h1,h2]
theorem qS (h:Nat→Option Blk) (ob:Option Nat) (i:Nat) (k:Blk) (hi:∀ b,ob=some b→b≠i):jS (dE h i (some k)) ob=dE (jS h ob) i (some k):=by
 cases ob with
 |none=>rfl
 |some b=>exact(cR h (hi b rfl) none (some k)).symm
theorem aXu {okp okq:Nat→Bool}{ip iq cp cq:Nat}{ep eq:Eff}(hp:aCr okp cp ep) (hq:aCr okq cq eq) (h1:cp=2→cq=0) (h2:cq=2→cp=0) (hne:ip≠iq)
  (hq0:okq ip=false) (hp0:okp iq=false) (h:Nat→Option Blk):iY ip ep (iY iq eq h)=iY iq eq (iY ip ep h):=by
 have nq:∀ b,okq b=true→b≠ip:=fun b hb e=>by rw[e,hq0]at hb;cases hb
 have np:∀ b,okp b=true→b≠iq:=fun b hb e=>by rw[e,hp0]at hb;cases hb
 cases ep with
 |val v=>rfl
 |new v k=>
  cases eq with
  |val v=>rfl
  |new v' k'=>exact cR h (Ne.symm hne) (some k') (some k)
  |wr b k'=>exact cR h (nq b hq.2) (some k') (some k)
  |app v' ob k'=>
   simp only[iY]
   rw[qS _ _ _ _ (fun b hb=>nq b (hq.2 b hb)),cR _ (Ne.symm hne)]
  |call f args fz=>
   simp only[iY,eY]
   exact(kQ h fz ip k (fun hm=>nq _ (hq.2 _ hm) rfl)).symm
 |wr b k=>
  cases eq with
  |val v=>rfl
  |new v' k'=>exact(cR h (np b hp.2) (some k) (some k')).symm
  |wr b' k'=>exact absurd (hq.1.symm.trans (h1 hp.1)) (by simp)
  |app v' ob k'=>exact absurd (hq.1.symm.trans (h1 hp.1)) (by simp)
  |call f args fz=>exact absurd (hq.1.symm.trans (h1 hp.1)) (by simp)
 |app v ob k=>
  cases eq with
  |val v=>rfl
  |new v' k'=>
   simp only[iY]
   rw[qS _ _ _ _ (fun b hb=>np b (hp.2 b hb)),cR _ (Ne.symm hne)]
  |wr b' k'=>exact absurd (hq.1.symm.trans (h1 hp.1)) (by simp)
  |app v' ob k'=>exact absurd (hq.1.symm.trans (h1 hp.1)) (by simp)
  |call f args fz=>exact absurd (hq.1.symm.trans (h1 hp.1)) (by simp)
 |call f args fz=>
  cases eq with
  |val v=>rfl
  |new v' k'=>
   simp only[iY,eY]
   exact kQ h fz iq k' (fun hm=>np _ (hp.2 _ hm) rfl)
  |wr b' k'=>exact absurd (hp.1.symm.trans (h2 hq.1)) (by simp)
  |app v' ob k'=>exact absurd (hp.1.symm.trans (h2 hq.1)) (by simp)
  |call f' args' fz'=>
   simp only[iY,eY];exact aCs h fz' fz
def iZ (ops:Array Oper) (o:Oper):List Nat:=
 (o.op.operands.toList.filterMap fun | .tmp t=>some t |_=>none)++
  (match o.guard with
   |some (j,_)=>((ops[j]?).bind (·.dst)).toList
   |none=>[])
def indep (ops:Array Oper) (p q:Oper):Bool:=
 (match p.dst with |some d=> !(iZ ops q).contains d && q.dst !=some d |none=>true) &&
 (match q.dst with |some d=> !(iZ ops p).contains d |none=>true) &&
 !(cls p.op==2 && cls q.op !=0) && !(cls q.op==2 && cls p.op !=0)
theorem aUe (s:LS) (d:Option Nat) (v:LV) (t:Nat) (h:d≠some t):(s.put d v).f t=s.f t:=by
 cases d with
 |none=>rfl
 |some d=>exact bW _ _ _ _ (fun e=>h (by rw[e]))
theorem bA0 (s:LS) (d:Option Nat) (v:LV):(s.put d v).h=s.h:=by cases d <;>rfl
theorem aUf (s:LS) (d:Option Nat) (v:LV):(s.put d v).n=s.n:=by cases d <;>rfl
theorem aQ4 {s t:LS}{x:Operand}(h:∀ i,x= .tmp i→s.f i=t.f i):opnd s x=opnd t x:=by
 cases x with
 |tmp i=>exact h i rfl
 |_=>rfl
theorem mR {ops:Array Oper}{o:Oper}{s t:LS}(h:∀ i∈iZ ops o,s.f i=t.f i):cS ops o s=cS ops o t:=by
 unfold cS;split
 ·rfl
 ·rename_i j want hg;split
  ·rename_i d hd;have:s.f d=t.f d:=h d (by simp[iZ,hg,hd]);rw[this]
  ·rfl
theorem jT {ops:Array Oper}{o:Oper}{s t:LS}(h:∀ i∈iZ ops o,s.f i=t.f i):∀ x∈o.op.operands.toList,opnd s x=opnd t x:=by
 intro x hx;refine aQ4 fun i hi=>h i ?_
 subst hi;simp only[iZ,List.mem_append,List.mem_filterMap];exact .inl ⟨_,hx,rfl⟩
theorem vX {P:Program}[Laid P] {id:Nat}{ok:Nat→Bool}{ops:Array Oper}{o:Oper}{s s':LS}(h:mO P id ok ops o s s'):
  ∃ e r b,cS ops o s=some b∧aCr ok (cls o.op) e∧s'=s.eff id o.dst e r∧(b=false→e= .val bP)∧
    (b=true→aF P id ok o.op s=some e∧∀ f args fz,e= .call f args fz→cU P f args r):=by
 obtain⟨_,b,hb,hf,ht⟩:=h
 cases b with
 |false=>exact⟨.val bP,.dead,false,hb,trivial,hf rfl,fun _=>rfl,by simp⟩
 |true=>
  obtain⟨e,r,hc,hg,hs⟩:=ht rfl;exact⟨e,r,true,hb,aNc hc,hs,by simp,fun _=>⟨hc,hg⟩⟩
theorem mS {P:Program}[Laid P] {id:Nat}{ok:Nat→Bool}{ops:Array Oper}{o:Oper}{s s':LS}{e:Eff}{r:LV}{b:Bool}(hd:nR o s.n=true) (hb:cS ops o s=some b) (hs:s'=s.eff id o.dst e r)
  (h0:b=false→e= .val bP) (h1:b=true→aF P id ok o.op s=some e∧∀ f args fz,e= .call f args fz→cU P f args r):mO P id ok ops o s s':=by
 refine⟨hd,b,hb,fun hbf=> ?_,fun hbt=>⟨e,r,(h1 hbt).1,(h1 hbt).2,hs⟩⟩;rw[hs,h0 hbf];rfl
theorem cIs {P:Program}[Laid P] {ip iq:Nat}{okp okq:Nat→Bool}{ops:Array Oper}{p q:Oper}{s s1 s2:LS}(hi:indep ops p q=true) (hne:ip≠iq) (hq0:okq ip=false) (hp0:okp iq=false)
  (h1:mO P ip okp ops p s s1) (h2:mO P iq okq ops q s1 s2):∃ s1',mO P iq okq ops q s s1'∧mO P ip okp ops p s1' s2:=by
 simp only[indep,Bool.and_eq_true,Bool.not_eq_true',Bool.and_eq_false_iff]at hi;obtain⟨⟨⟨hdp,hdq⟩,hc1⟩,hc2⟩:=hi
 have dp:∀ d,p.dst=some d→d∉iZ ops q∧q.dst≠some d:=fun d hd=>by
  rw[hd]at hdp
  simpa using hdp
 have dq:∀ d,q.dst=some d→d∉iZ ops p:=fun d hd=>by
  rw[hd]at hdq
  simpa using hdq
 have cpq:cls p.op=2→cls q.op=0:=fun h=>by
  rcases hc1 with h' |h'
  ·simp[h]at h'
  ·simpa using h'
 have cqp:cls q.op=2→cls p.op=0:=fun h=>by
  rcases hc2 with h' |h'
  ·simp[h]at h'
  ·simpa using h'
 obtain⟨ep,rp,bp,hwp,hep,rfl,hp0',hp1⟩:=vX h1;obtain⟨eq,rq,bq,hwq,heq,rfl,hq0',hq1⟩:=vX h2;have nq:∀ b,okq b=true→b≠ip:=fun b hb e=>by rw[e,hq0]at hb;cases hb
 have np:∀ b,okp b=true→b≠iq:=fun b hb e=>by rw[e,hp0]at hb;cases hb
 have fq:∀ i∈iZ ops q,(s.eff ip p.dst ep rp).f i=s.f i:=fun i hi=>by
  rw[hO,aUe _ _ _ _ (fun e=>(dp i e).1 hi)]
 have fp:∀ i∈iZ ops p,(s.eff iq q.dst eq rq).f i=s.f i:=fun i hi=>by
  rw[hO,aUe _ _ _ _ (fun e=>dq i e hi)]
 have heap:∀ {okx:Nat→Bool}{iy cy:Nat}{ey:Eff}{oky:Nat→Bool}{d:Option Nat}{r:LV},aCr oky cy ey→(∀ b,okx b=true→b≠iy)→
   (cy≠2→∀ b,okx b=true→((s.eff iy d ey r).h b).map (·.cells)=(s.h b).map (·.cells))∧(cy=0→∀ b,okx b=true→(s.eff iy d ey r).h b=s.h b):=by
  intro okx iy cy ey oky d r hok hx;constructor
  ·intro hcy b hb;rw[hO,bA0]
   cases ey with
   |val v=>rfl
   |new v k=>simp only[iY];rw[bW _ _ _ _ (hx b hb)]
   |wr b k=>exact absurd hok.1 hcy
   |app v ob k=>exact absurd hok.1 hcy
   |call f args fz=>
    simp only[iY,eY,bY]
    cases s.h b with
    |none=>rfl
    |some k=>by_cases hm:b∈fz <;>simp[hm]
  ·intro hcy b hb;rw[hO,bA0]
   cases ey with
   |val v=>rfl
   |new v k=>simp only[iY];rw[bW _ _ _ _ (hx b hb)]
   |wr b k=>rw[hcy]at hok;exact absurd hok.1 (by simp)
   |app v ob k=>rw[hcy]at hok;exact absurd hok.1 (by simp)
   |call f args fz=>rw[hcy]at hok;exact absurd hok.1 (by simp)
 have comp_q:aF P iq okq q.op (s.eff ip p.dst ep rp)=aF P iq okq q.op s:=
  lK (jT fq) (fun hc=>(heap hep nq).1 (fun h=>by have:=cpq h;omega)) (fun hc=>(heap hep nq).2 (cqp hc))
 have comp_p:aF P ip okp p.op (s.eff iq q.dst eq rq)=aF P ip okp p.op s:=
  lK (jT fp) (fun hc=>(heap heq np).1 (fun h=>by have:=cqp h;omega)) (fun hc=>(heap heq np).2 (cpq hc))
 have n1:(s.eff ip p.dst ep rp).n=s.n:=by rw[hO,aUf]
 have n2:(s.eff iq q.dst eq rq).n=s.n:=by rw[hO,aUf]
 refine⟨s.eff iq q.dst eq rq,mS (e:=eq) (r:=rq) (b:=bq) (by rw[← n1];exact h2.1) (by rw[← hwq];exact(mR fq).symm) rfl hq0' (fun hb=>by rw[← comp_q];exact hq1 hb),
  mS (e:=ep) (r:=rp) (b:=bp) (by rw[n2];exact h1.1) (by rw[← hwp];exact mR fp) ?_ hp0' (fun hb=>by rw[comp_p];exact hp1 hb)⟩
 have hH:=aXu hep heq cpq cqp hne hq0 hp0 s.h;simp only[hO]
 cases hpd:p.dst with
 |none=>
  cases hqd:q.dst with
  |none=>simp only[LS.put];rw[hH]
  |some dq'=>simp only[LS.put];rw[hH]
 |some dp'=>
  cases hqd:q.dst with
  |none=>simp only[LS.put];rw[hH]
  |some dq'=>
   have hne':dp'≠dq':=fun e=>(dp dp' hpd).2 (by rw[hqd,e])
   simp only[LS.put];rw[hH,cR _ hne']
def indepF (ops:Array Oper) (p q:Oper):Bool:=
 (match p.dst with |some d=> !(iZ ops q).contains d && q.dst !=some d |none=>true) &&
 (match q.dst with |some d=> !(iZ ops p).contains d |none=>true)
theorem aQ5 {okp okq:Nat→Bool}{ip iq cp cq:Nat}{ep eq:Eff}(hp:aCr okp cp ep) (hq:aCr okq cq eq) (hdis:∀ b,okp b=true→okq b=true→False) (hne:ip≠iq)
  (hq0:okq ip=false) (hp0:okp iq=false) (h:Nat→Option Blk):iY ip ep (iY iq eq h)=iY iq eq (iY ip ep h):=by
 have nq:∀ b,okq b=true→b≠ip:=fun b hb e=>by rw[e,hq0]at hb;cases hb
 have np:∀ b,okp b=true→b≠iq:=fun b hb e=>by rw[e,hp0]at hb;cases hb
 have npq:∀ b b',okp b=true→okq b'=true→b≠b':=fun b b' h1 h2 e=>hdis b h1 (e ▸ h2)
 cases ep with
 |val v=>rfl
 |new v k=>
  cases eq with
  |val v=>rfl
  |new v' k'=>exact cR h (Ne.symm hne) (some k') (some k)
  |wr b k'=>exact cR h (nq b hq.2) (some k') (some k)
  |app v' ob k'=>
   simp only[iY]
   rw[qS _ _ _ _ (fun b hb=>nq b (hq.2 b hb)),cR _ (Ne.symm hne)]
  |call f args fz=>
   simp only[iY,eY]
   exact(kQ h fz ip k (fun hm=>nq _ (hq.2 _ hm) rfl)).symm
 |wr b k=>
  cases eq with
  |val v=>rfl
  |new v' k'=>exact(cR h (np b hp.2) (some k) (some k')).symm
  |wr b' k'=>exact(cR h (npq b b' hp.2 hq.2) (some k) (some k')).symm
  |app v' ob k'=>
   simp only[iY]
   rw[qS _ _ _ _ (fun b' hb=>(npq b b' hp.2 (hq.2 b' hb)).symm),cR _ (np b hp.2)]
  |call f args fz=>
   simp only[iY,eY]
   exact(kQ h fz b k (fun hm=>npq _ _ hp.2 (hq.2 _ hm) rfl)).symm
 |app v ob k=>
  cases eq with
  |val v=>rfl
  |new v' k'=>
   simp only[iY]
   rw[qS _ _ _ _ (fun b hb=>np b (hp.2 b hb)),cR _ (Ne.symm hne)]
  |wr b' k'=>
   simp only[iY]
   rw[qS _ _ _ _ (fun b hb=>npq b b' (hp.2 b hb) hq.2),cR _ (nq b' hq.2)]
  |app v' ob' k'=>
   simp only[iY]
   cases ob with
   |none=>
    cases ob' with
    |none=>exact cR h (Ne.symm hne) _ _
    |some b'=>
     simp only[jS]
     rw[cR _ (Ne.symm hne),cR _ (nq b' (hq.2 b' rfl))]
   |some b=>
    cases ob' with
    |none=>
     simp only[jS]
     rw[cR _ (np b (hp.2 b rfl)).symm,cR _ (Ne.symm hne)]
    |some b'=>
     simp only[jS]
     rw[cR (dE h b' none) (np b (hp.2 b rfl)).symm,cR _ (Ne.symm hne),cR h (npq b b' (hp.2 b rfl) (hq.2 b' rfl)).symm,cR (dE h b none) (nq b' (hq.2 b' rfl))]
  |call f args fz=>
   simp only[iY,eY]
   funext x
   simp only[bY,dE];by_cases hx:x=ip
   · subst hx;have:x∉fz:=fun hm=>nq _ (hq.2 _ hm) rfl
     simp[this]
   · simp only[if_neg hx]
     cases ob with
     |none=>rfl
     |some b=>
      simp only[jS,dE]
      by_cases hb:x=b <;>simp[hb,bY]
 |call f args fz=>
  cases eq with
  |val v=>rfl
  |new v' k'=>
   simp only[iY,eY]
   exact kQ h fz iq k' (fun hm=>np _ (hp.2 _ hm) rfl)
  |wr b' k'=>
   simp only[iY,eY]
   exact kQ h fz b' k' (fun hm=>npq _ _ (hp.2 _ hm) hq.2 rfl)
  |app v' ob k'=>
   simp only[iY,eY]
   funext x
   simp only[bY,dE];by_cases hx:x=iq
   · subst hx;have:x∉fz:=fun hm=>np _ (hp.2 _ hm) rfl
     simp[this]
   · simp only[if_neg hx]
     cases ob with
     |none=>rfl
     |some b=>
      simp only[jS,dE]
      by_cases hb:x=b <;>simp[hb,bY]
  |call f' args' fz'=>
   simp only[iY,eY];exact aCs h fz' fz
theorem aQ6 {P:Program}[Laid P] {ip iq:Nat}{okp okq:Nat→Bool}{ops:Array Oper}{p q:Oper}{s s1 s2:LS}(hi:indepF ops p q=true) (hdis:∀ b,okp b=true→okq b=true→False) (hne:ip≠iq) (hq0:okq ip=false) (hp0:okp iq=false)
  (h1:mO P ip okp ops p s s1) (h2:mO P iq okq ops q s1 s2):∃ s1',mO P iq okq ops q s s1'∧mO P ip okp ops p s1' s2:=by
 simp only[indepF,Bool.and_eq_true]at hi;obtain⟨hdp,hdq⟩:=hi
 have dp:∀ d,p.dst=some d→d∉iZ ops q∧q.dst≠some d:=fun d hd=>by
  rw[hd]at hdp
  simpa using hdp
 have dq:∀ d,q.dst=some d→d∉iZ ops p:=fun d hd=>by
  rw[hd]at hdq
  simpa using hdq
 obtain⟨ep,rp,bp,hwp,hep,rfl,hp0',hp1⟩:=vX h1;obtain⟨eq,rq,bq,hwq,heq,rfl,hq0',hq1⟩:=vX h2;have nq:∀ b,okq b=true→b≠ip:=fun b hb e=>by rw[e,hq0]at hb;cases hb
 have np:∀ b,okp b=true→b≠iq:=fun b hb e=>by rw[e,hp0]at hb;cases hb
 have fq:∀ i∈iZ ops q,(s.eff ip p.dst ep rp).f i=s.f i:=fun i hi=>by
  rw[hO,aUe _ _ _ _ (fun e=>(dp i e).1 hi)]
 have fp:∀ i∈iZ ops p,(s.eff iq q.dst eq rq).f i=s.f i:=fun i hi=>by
  rw[hO,aUe _ _ _ _ (fun e=>dq i e hi)]
 have heap:∀ {okx oky:Nat→Bool}{iy cy:Nat}{ey:Eff}{d:Option Nat}{r:LV},aCr oky cy ey→(∀ b,okx b=true→b≠iy)→(∀ b,okx b=true→oky b=true→False)→
   ∀ b,okx b=true→(s.eff iy d ey r).h b=s.h b:=by
  intro okx oky iy cy ey d r hok hx hdis b hb;rw[hO,bA0]
  cases ey with
  |val v=>rfl
  |new v k=>simp only[iY];rw[bW _ _ _ _ (hx b hb)]
  |wr b' k=>simp only[iY];rw[bW _ _ _ _ (fun e=>hdis b hb (by rw[e];exact hok.2))]
  |app v ob k=>
   simp only[iY];rw[bW _ _ _ _ (hx b hb)]
   cases ob with
   |none=>rfl
   |some b'=>simp only[jS];rw[bW _ _ _ _ (fun e=>hdis b hb (by rw[e];exact hok.2 b' rfl))]
  |call f args fz=>
   simp only[iY,eY,bY];have:b∉fz:=fun hm=>hdis b hb (hok.2 b hm)
   cases s.h b with
   |none=>rfl
   |some k=>simp[this]
 have hq:=heap (okx:=okq) (d:=p.dst) (r:=rp) hep nq (fun b h1 h2=>hdis b h2 h1);have hp:=heap (okx:=okp) (d:=q.dst) (r:=rq) heq np hdis
 have comp_q:aF P iq okq q.op (s.eff ip p.dst ep rp)=aF P iq okq q.op s:=
  lK (jT fq) (fun _ b hb=>by rw[hq b hb]) (fun _=>hq)
 have comp_p:aF P ip okp p.op (s.eff iq q.dst eq rq)=aF P ip okp p.op s:=
  lK (jT fp) (fun _ b hb=>by rw[hp b hb]) (fun _=>hp)
 have n1:(s.eff ip p.dst ep rp).n=s.n:=by rw[hO,aUf]
 have n2:(s.eff iq q.dst eq rq).n=s.n:=by rw[hO,aUf]
 refine⟨s.eff iq q.dst eq rq,mS (e:=eq) (r:=rq) (b:=bq) (by rw[← n1];exact h2.1) (by rw[← hwq];exact(mR fq).symm) rfl hq0' (fun hb=>by rw[← comp_q];exact hq1 hb),
  mS (e:=ep) (r:=rp) (b:=bp) (by rw[n2];exact h1.1) (by rw[← hwp];exact mR fp) ?_ hp0' (fun hb=>by rw[comp_p];exact hp1 hb)⟩
 have hH:=aQ5 hep heq hdis hne hq0 hp0 s.h;simp only[hO]
 cases hpd:p.dst with
 |none=>
  cases hqd:q.dst with
  |none=>simp only[LS.put];rw[hH]
  |some dq'=>simp only[LS.put];rw[hH]
 |some dp'=>
  cases hqd:q.dst with
  |none=>simp only[LS.put];rw[hH]
  |some dq'=>
   have hne':dp'≠dq':=fun e=>(dp dp' hpd).2 (by rw[hqd,e])
   simp only[LS.put];rw[hH,cR _ hne']
end
section
open Go
def maskAt (ops:Array Oper) (i:Nat):Nat:=(Region.before ops).getD i 0
def okD (ops:Array Oper) (base i b:Nat):Bool:=decide (b<base) ||(maskAt ops i).testBit (b-base)
def aBa (ops:Array Oper):Bool:=
 let m:=Region.before ops
 (List.range ops.size).all fun i=>match ops[i]? with
  |some o=>o.after.toList.all (fun e=> !Region.binds .any e ||decide (e.on<i)) &&
   m.getD i 0==o.after.toList.foldl (fun s e=>if Region.binds .any e then s |||2^e.on |||m.getD e.on 0 else s) 0 &&
   decide (m.getD i 0<2^i) &&
   (List.range i).all fun j=>(m.getD i 0).testBit j ||(match ops[j]? with |some p=>indep ops p o |none=>true)
  |none=>true
theorem aEs (m:Nat→Nat) (j:Nat):∀ (l:List Edge) (s:Nat),(l.foldl (fun s e=>if Region.binds .any e then s |||2^e.on |||m e.on else s) s).testBit j=true→
  s.testBit j=true∨∃ e∈l,Region.binds .any e=true∧(e.on=j∨(m e.on).testBit j=true)
 |[],s,h=> .inl h
 |e::l,s,h=>by
  rw[List.foldl_cons]at h
  rcases aEs m j l _ h with h |⟨e',he',h'⟩
  · split at h
    · rename_i hb;simp only[Nat.testBit_or,Bool.or_eq_true]at h;rcases h with(h |h) |h
      · exact .inl h
      · refine .inr ⟨e,by simp,hb,.inl ?_⟩;rw[Nat.testBit_two_pow]at h
        simpa using h
      · exact .inr ⟨e,by simp,hb,.inr h⟩
    · exact .inl h
  · exact .inr ⟨e',by simp[he'],h'⟩
structure DrawFacts (ops:Array Oper) (okf:Nat→Nat→Bool):Prop where
 lower:∀ (i:Nat) (o:Oper),ops[i]? =some o→∀ e∈o.after,Region.binds .any e=true→e.on<i
 close:∀ (i:Nat) (o:Oper),ops[i]? =some o→∀ j,(maskAt ops i).testBit j=true→∃ e∈o.after,Region.binds .any e=true∧(e.on=j∨(maskAt ops e.on).testBit j=true)
 small:∀ i,i<ops.size→∀ j,i≤j→(maskAt ops i).testBit j=false
 free:∀ (i j:Nat) (o p:Oper),ops[i]? =some o→ops[j]? =some p→j<i→(maskAt ops i).testBit j=true∨indep ops p o=true∨(indepF ops p o=true∧∀ b,okf j b=true→okf i b=true→False)
theorem aBb {ops:Array Oper}{okf:Nat→Nat→Bool}(h:aBa ops=true):DrawFacts ops okf:=by
 have key:∀ (i:Nat) (o:Oper),ops[i]? =some o→(∀ e∈o.after,Region.binds .any e=true→e.on<i)∧
   maskAt ops i=o.after.toList.foldl (fun s e=>if Region.binds .any e then s |||2^e.on |||maskAt ops e.on else s) 0∧maskAt ops i<2^i∧
   ∀ j,j<i→(maskAt ops i).testBit j=true∨∀ p,ops[j]? =some p→indep ops p o=true:=by
  intro i o ho;have hi:i<ops.size:=(Array.getElem?_eq_some_iff.1 ho).1;have:=List.all_eq_true.1 h i (by simpa using hi);simp only[ho,Bool.and_eq_true,List.all_eq_true,Bool.or_eq_true,Bool.not_eq_true',decide_eq_true_eq,beq_iff_eq,List.mem_range]at this;obtain⟨⟨⟨h1,h2⟩,h3⟩,h4⟩:=this;refine⟨fun e he hb=> ?_,h2,h3,fun j hj=> ?_⟩
  ·rcases h1 e (by simpa using he)with h |h
   ·rw[hb]at h;cases h
   ·exact h
  ·rcases h4 j hj with h |h
   ·exact .inl h
   ·refine .inr fun p hp=> ?_
    rw[hp]at h
    exact h
 refine⟨fun i o ho=>(key i o ho).1,fun i o ho j hj=> ?_,fun i hi j hij=> ?_,fun i j o p ho hp hj=> ?_⟩
 ·rw[(key i o ho).2.1]at hj
  rcases aEs (maskAt ops) j _ _ hj with h |⟨e,he,h'⟩
  ·simp at h
  ·exact⟨e,by simpa using he,h'⟩
 ·have ho:ops[i]? =some ops[i]:=Array.getElem?_eq_getElem hi;exact Nat.testBit_lt_two_pow (Nat.lt_of_lt_of_le (key i _ ho).2.2.1 (Nat.pow_le_pow_right (by omega) hij))
 ·rcases(key i o ho).2.2.2 j hj with h |h
  ·exact .inl h
  ·exact .inr (.inl (h p hp))
def tL (ops:Array Oper) (o:Oper):Option Nat:=
 match o.op with
 | .store _ (.tmp t) _=>if ops.toList.all (fun p=>p.dst !=some t)=true then some t else none
 |_=>none
def bM2 (A:Nat→LV) (t:Nat):Option Nat:=
 match A t with
 | .ptr b _=>some b
 |_=>none
def aEt (ops:Array Oper) (i:Nat):Bool:=
 match ops[i]? with
 |some o=>match o.op with
  | .call c=>match c.callee with
    | .builtin .append=>true
    |_=>false
  | .store _ (.tmp t) _=>ops.toList.any fun p=>p.dst==some t && (match p.op with | .alloc _=>true |_=>false)
  |_=>false
 |none=>false
def aNd (ops:Array Oper) (i j:Nat):Bool:=
 match ops[min i j]?,ops[max i j]? with
 |some p,some o=> !(indep ops p o) && !(tL ops p).isSome && !(tL ops o).isSome
 |_,_=>false
def okX (A:Nat→LV) (ops:Array Oper) (base i b:Nat):Bool:=
 okD ops base i b && (match(ops[i]?).bind (tL ops)with |some t=>bM2 A t==some b |none=>true) &&
  (List.range ops.size).all fun j=>j==i ||(maskAt ops i).testBit j ||(maskAt ops j).testBit i ||((match(ops[j]?).bind (tL ops)with |some t=>bM2 A t !=some b |none=>true) && (!(aNd ops i j) ||(bif aEt ops i then Nat.ble base b else Nat.blt b base)))
def aDt (ops:Array Oper):Bool:=
 let m:=Region.before ops
 (List.range ops.size).all fun i=>match ops[i]? with
  |some o=>o.after.toList.all (fun e=> !Region.binds .any e ||decide (e.on<i)) &&
   m.getD i 0==o.after.toList.foldl (fun s e=>if Region.binds .any e then s |||2^e.on |||m.getD e.on 0 else s) 0 &&
   decide (m.getD i 0<2^i) &&
   (List.range i).all fun j=>(m.getD i 0).testBit j ||(match ops[j]? with |some p=>indep ops p o ||(indepF ops p o && ((tL ops p).isSome ||(tL ops o).isSome ||(aEt ops i !=aEt ops j))) |none=>true)
  |none=>true
theorem aQ7 {ops:Array Oper}{A:Nat→LV}{base:Nat}(h:aDt ops=true):DrawFacts ops (okX A ops base):=by
 have key:∀ (i:Nat) (o:Oper),ops[i]? =some o→(∀ e∈o.after,Region.binds .any e=true→e.on<i)∧
   maskAt ops i=o.after.toList.foldl (fun s e=>if Region.binds .any e then s |||2^e.on |||maskAt ops e.on else s) 0∧maskAt ops i<2^i∧
   ∀ j,j<i→(maskAt ops i).testBit j=true∨∀ p,ops[j]? =some p→indep ops p o=true∨(indepF ops p o=true∧(((tL ops p).isSome=true∨(tL ops o).isSome=true)∨aEt ops i≠aEt ops j)):=by
  intro i o ho;have hi:i<ops.size:=(Array.getElem?_eq_some_iff.1 ho).1;have:=List.all_eq_true.1 h i (by simpa using hi);simp only[ho,Bool.and_eq_true,List.all_eq_true,Bool.or_eq_true,Bool.not_eq_true',decide_eq_true_eq,beq_iff_eq,List.mem_range]at this;obtain⟨⟨⟨h1,h2⟩,h3⟩,h4⟩:=this;refine⟨fun e he hb=> ?_,h2,h3,fun j hj=> ?_⟩
  ·rcases h1 e (by simpa using he)with h |h
   ·rw[hb]at h;cases h
   ·exact h
  ·rcases h4 j hj with h |h
   ·exact .inl h
   ·refine .inr fun p hp=> ?_
    rw[hp]at h
    simpa using h
 refine⟨fun i o ho=>(key i o ho).1,fun i o ho j hj=> ?_,fun i hi j hij=> ?_,fun i j o p ho hp hj=> ?_⟩
 ·rw[(key i o ho).2.1]at hj
  rcases aEs (maskAt ops) j _ _ hj with h |⟨e,he,h'⟩
  ·simp at h
  ·exact⟨e,by simpa using he,h'⟩
 ·have ho:ops[i]? =some ops[i]:=Array.getElem?_eq_getElem hi;exact Nat.testBit_lt_two_pow (Nat.lt_of_lt_of_le (key i _ ho).2.2.1 (Nat.pow_le_pow_right (by omega) hij))
 ·cases hm:(maskAt ops i).testBit j with
  |true=>exact .inl rfl
  |false=>
   refine .inr ?_;rcases(key i o ho).2.2.2 j hj with h |h
   · rw[hm]at h;cases h
   · rcases h p hp with h |⟨h1,h2⟩
     · exact .inl h
     · cases hin:indep ops p o with
       |true=>exact .inl rfl
       |false=>
       refine .inr ⟨h1,fun b hj' hi'=> ?_⟩;have hil:i<ops.size:=(Array.getElem?_eq_some_iff.1 ho).1;have hjl:j<ops.size:=(Array.getElem?_eq_some_iff.1 hp).1
       have hji:(maskAt ops j).testBit i=false:=by
         have hop:ops[j]? =some ops[j]:=Array.getElem?_eq_getElem hjl;exact Nat.testBit_lt_two_pow (Nat.lt_of_lt_of_le (key j _ hop).2.2.1 (Nat.pow_le_pow_right (by omega) (by omega)))
       simp only[okX,Bool.and_eq_true,List.all_eq_true,List.mem_range,Bool.or_eq_true,beq_iff_eq]at hj' hi';obtain⟨⟨_,hj1⟩,hj2⟩:=hj';obtain⟨⟨_,hi1⟩,hi2⟩:=hi';have hj3:=hj2 i hil;have hi3:=hi2 j hjl;rw[hm,hji,ho]at hj3
       rw[hm,hji,hp]at hi3
       rw[hp]at hj1
       rw[ho]at hi1
       simp only[Option.bind_some]at hj1 hi1 hj3 hi3;have hj4:=hj3.resolve_left (by simp;omega);have hi4:=hi3.resolve_left (by simp;omega)
       have late:(tL ops p).isSome=true∨(tL ops o).isSome=true→False:=by
         rintro(h2 |h2)
         · obtain⟨t,ht⟩:=Option.isSome_iff_exists.1 h2;rw[ht]at hj1 hi4
           simp at hj1 hi4;exact hi4.1 hj1
         · obtain⟨t,ht⟩:=Option.isSome_iff_exists.1 h2;rw[ht]at hi1 hj4
           simp at hi1 hj4;exact hj4.1 hi1
       rcases h2 with h2 |h2
       · exact late h2
       · have n1:(tL ops p).isSome=false:=Bool.eq_false_iff.2 fun e=>late (.inl e)
         have n2:(tL ops o).isSome=false:=Bool.eq_false_iff.2 fun e=>late (.inr e)
         have c1:aNd ops i j=true:=by
           unfold aNd;rw[Nat.min_eq_right (by omega),Nat.max_eq_left (by omega),hp,ho];simp[hin,n1,n2]
         have c2:aNd ops j i=true:=by
           unfold aNd;rw[Nat.min_eq_left (by omega),Nat.max_eq_right (by omega),hp,ho];simp[hin,n1,n2]
         have a1:=hi4.2;have a2:=hj4.2;rw[c1]at a1
         rw[c2]at a2
         cases x1:aEt ops i <;>cases x2:aEt ops j <;>rw[x1]at a1 <;>rw[x2]at a2
         · exact h2 (by rw[x1,x2])
         · simp at a1 a2;omega
         · simp at a1 a2;omega
         · exact h2 (by rw[x1,x2])
section
variable {P:Program}[Laid P] {base:Nat}{ops:Array Oper}{okf:Nat→Nat→Bool}
theorem aQ8 (hf:DrawFacts ops okf) (hle:∀ i b,okf i b=true→okD ops base i b=true) {i:Nat}:∀ (R:List Nat) {s s':LS},R.Pairwise (· < ·)→(∀ j∈R,j<ops.size)→i∈R→(∀ j∈R,(maskAt ops i).testBit j=false)→tV P base okf ops R s s'→
  ∃ o s1,ops[i]? =some o∧mO P (base+i) (okf i) ops o s s1∧tV P base okf ops (R.filter (· !=i)) s1 s'
 |[],_,_,_,_,hi,_,_=>by simp at hi
 |j::R,s,s',hp,hlt,hi,hm,hr=>by
  have hp':=List.pairwise_cons.1 hp;obtain⟨p,sa,hpj,hs,hrest⟩:=hr;by_cases hji:j=i
  · subst hji;refine⟨p,sa,hpj,hs,?_⟩
    have:(j::R).filter (· !=j)=R:=by
      rw[List.filter_cons];simp only[bne_self_eq_false,Bool.false_eq_true,if_false];exact List.filter_eq_self.2 fun k hk=>by have:=hp'.1 k hk;simp;omega
    rw[this];exact hrest
  · have hiR:i∈R:=by
      rcases List.mem_cons.1 hi with h |h
      · exact absurd h.symm hji
      · exact h
    have hlt':j<i:=hp'.1 i hiR;obtain⟨o,sb,ho,hsb,hrb⟩:=aQ8 hf hle R hp'.2 (fun k hk=>hlt k (by simp[hk])) hiR (fun k hk=>hm k (by simp[hk])) hrest
    have hq0:okf i (base+j)=false:=by
      cases hk:okf i (base+j)with
      |false=>rfl
      |true=>
       have:=hle _ _ hk;simp only[okD]at this;rw[show base+j-base=j by omega,hm j (by simp)]at this
       simp at this;omega
    have hp0:okf j (base+i)=false:=by
      cases hk:okf j (base+i)with
      |false=>rfl
      |true=>
       have:=hle _ _ hk;simp only[okD]at this;rw[show base+i-base=i by omega,hf.small j (hlt j (by simp)) i (by omega)]at this
       simp at this;omega
    obtain⟨sc,h1,h2⟩:∃ s1',mO P (base+i) (okf i) ops o s s1'∧mO P (base+j) (okf j) ops p s1' sb:=by
      rcases hf.free i j o p ho hpj hlt' with h |h |⟨h,hd⟩
      · rw[hm j (by simp)]at h;cases h
      · exact cIs h (by omega:base+j≠base+i) hq0 hp0 hs hsb
      · exact aQ6 h hd (by omega:base+j≠base+i) hq0 hp0 hs hsb
    refine⟨o,sc,ho,h1,?_⟩
    have:(j::R).filter (· !=i)=j::R.filter (· !=i):=by
      rw[List.filter_cons];simp[hji]
    rw[this];exact⟨p,sb,hpj,h2,hrb⟩
def aQ (listed:Array Bool) (n:Nat):List Nat:=(List.range n).filter fun i=> !listed.getD i true
theorem zA (listed:Array Bool) (n i:Nat) (hn:listed.size=n):aQ (listed.setIfInBounds i true) n=(aQ listed n).filter (· !=i):=by
 unfold aQ;rw[List.filter_filter];apply List.filter_congr;intro k hk;have hk':k<n:=by simpa using hk
 by_cases hki:k=i
 ·subst hki;simp[Array.getD,hn,hk']
 ·have h2:(listed.setIfInBounds i true).getD k true=listed.getD k true:=by
   simp only[Array.getD_eq_getD_getElem?,Array.getElem?_setIfInBounds];rw[if_neg (fun e=>hki e.symm)]
  rw[h2];simp[hki]
theorem aKh (hf:DrawFacts ops okf) (hle:∀ i b,okf i b=true→okD ops base i b=true):∀ (fuel t:Nat) (listed:Array Bool) (acc:List Nat) {s s':LS},listed.size=ops.size→
  (∀ k,k<ops.size→listed.getD k true=true→∀ j,(maskAt ops k).testBit j=true→listed.getD j true=true)→(aQ listed ops.size).length≤fuel→
  tV P base okf ops (aQ listed ops.size) s s'→
  ∃ L,Region.linearise.go .any ops fuel t listed acc=acc.reverse++L∧L.Nodup∧(∀ i∈L,i∈aQ listed ops.size)∧tV P base okf ops L s s'
 |0,t,listed,acc,s,s',hn,hcl,hfu,hr=>by
  have:aQ listed ops.size=[]:=List.eq_nil_of_length_eq_zero (by omega);rw[this]at hr
  exact⟨[],by simp[Region.linearise.go],by simp,by simp,hr⟩
 |fuel+1,t,listed,acc,s,s',hn,hcl,hfu,hr=>by
  unfold Region.linearise.go;simp only;generalize hrs:(List.range ops.size).filter (fun i=> !listed.getD i true && ((ops[i]?).map (·.after.all fun e=> !Region.binds .any e ||listed.getD e.on false)).getD false)=rs
  have mem:∀ i,i∈rs→i∈aQ listed ops.size∧∃ o,ops[i]? =some o∧∀ e∈o.after,Region.binds .any e=true→listed.getD e.on false=true:=by
    intro i hi;rw[← hrs]at hi
    simp only[List.mem_filter,Bool.and_eq_true]at hi;obtain⟨h1,h2,h3⟩:=hi;refine⟨by simp only[aQ,List.mem_filter];exact⟨h1,h2⟩,?_⟩
    cases ho:ops[i]? with
    |none=>simp[ho]at h3
    |some o=>
     refine⟨o,rfl,fun e he hb=> ?_⟩;rw[ho]at h3
     simp only[Option.map_some,Option.getD_some]at h3;obtain⟨k,hk,rfl⟩:=Array.mem_iff_getElem.1 he;have:=Array.all_eq_true.1 h3 k hk;rw[hb]at this
     simpa using this
  have hsorted:(aQ listed ops.size).Pairwise (· < ·):=List.Pairwise.filter _ List.pairwise_lt_range
  have hltall:∀ j∈aQ listed ops.size,j<ops.size:=fun j hj=>by
    simp only[aQ,List.mem_filter,List.mem_range]at hj;exact hj.1
  cases hu:aQ listed ops.size with
  |nil=>
   have hrs0:rs=[]:=by
     cases rs with
     |nil=>rfl
     |cons i rs=>have:=(mem i (by simp)).1;rw[hu]at this;simp at this
   subst hrs0;rw[hu]at hr
   exact⟨[],by simp,by simp,by simp,hr⟩
  |cons i0 rest=>
   have hi0:i0∈aQ listed ops.size:=by rw[hu];simp
   have hi0lt:=hltall i0 hi0;have ho0:ops[i0]? =some ops[i0]:=Array.getElem?_eq_getElem hi0lt
   have ready:i0∈rs:=by
     rw[← hrs];simp only[List.mem_filter,Bool.and_eq_true,List.mem_range];simp only[aQ,List.mem_filter]at hi0;refine⟨hi0lt,hi0.2,?_⟩;rw[ho0];simp only[Option.map_some,Option.getD_some];refine Array.all_eq_true.2 fun k hk=> ?_
     cases hb:Region.binds .any ops[i0].after[k]with
     |false=>simp
     |true=>
      have hlow:=hf.lower i0 _ ho0 _ (Array.getElem_mem hk) hb;have hlt2:ops[i0].after[k].on<listed.size:=by omega
      have:listed.getD ops[i0].after[k].on true=true:=by
        cases hl:listed.getD ops[i0].after[k].on true with
        |true=>rfl
        |false=>
         exfalso
         have hin:ops[i0].after[k].on∈aQ listed ops.size:=by
           simp only[aQ,List.mem_filter,List.mem_range];exact⟨by omega,by rw[hl];rfl⟩
         rw[hu]at hin hsorted
         rcases List.mem_cons.1 hin with h |h
         · omega
         · have:=(List.pairwise_cons.1 hsorted).1 _ h;omega
      simp only[Array.getD,hlt2,dite_true]at this;simp[Array.getD,hlt2];exact this
   have hlen:0<rs.length:=List.length_pos_of_mem ready;have hidx:t % rs.length<rs.length:=Nat.mod_lt _ hlen;rw[List.getElem?_eq_getElem hidx];simp only;generalize hi:rs[t % rs.length]=i;have hirs:i∈rs:=by rw[← hi];exact List.getElem_mem hidx
   obtain⟨hiu,o,ho,hready⟩:=mem i hirs;have hilt:=hltall i hiu
   have hdeps:∀ j,(maskAt ops i).testBit j=true→listed.getD j true=true:=by
     intro j hj;obtain⟨e,he,hb,h⟩:=hf.close i o ho j hj;have hle:=hready e he hb;have hlow:=hf.lower i o ho e he hb;have hlt2:e.on<listed.size:=by omega
     have hle':listed.getD e.on true=true:=by
       simp only[Array.getD,hlt2,dite_true]at hle⊢;exact hle
     rcases h with h |h
     · subst h;exact hle'
     · exact hcl e.on (by omega) hle' j h
   have hno:∀ j∈aQ listed ops.size,(maskAt ops i).testBit j=false:=by
     intro j hj
     cases hb:(maskAt ops i).testBit j with
     |false=>rfl
     |true=>
      have:=hdeps j hb;simp only[aQ,List.mem_filter]at hj;rw[this]at hj
      simp at hj
   obtain⟨o',s1,ho',hs1,hr1⟩:=aQ8 hf hle _ hsorted hltall hiu hno hr;have hset:=zA listed ops.size i hn
   have hcnt:((aQ listed ops.size).filter (· !=i)).length<(aQ listed ops.size).length:=by
     rcases Nat.lt_or_ge ((aQ listed ops.size).filter (· !=i)).length (aQ listed ops.size).length with h |h
     · exact h
     · exfalso;have:=List.length_filter_eq_length_iff.1 (Nat.le_antisymm (List.length_filter_le _ _) h) i hiu;simp at this
   obtain⟨L,hL,hnd,hmem,hrun⟩:=aKh hf hle fuel (t / rs.length) (listed.setIfInBounds i true) (i::acc) (by simp[hn])
     (fun k hk hkl j hj=>by
       have hgd:∀ k,(listed.setIfInBounds i true).getD k true=(if k=i then true else listed.getD k true):=fun k=>by
         simp only[Array.getD_eq_getD_getElem?,Array.getElem?_setIfInBounds];by_cases hki:k=i
         · subst hki;simp[hn,hk,hilt]
         · rw[if_neg (fun e=>hki e.symm),if_neg hki]
       rw[hgd]at hkl⊢
       by_cases hji:j=i
       · rw[if_pos hji]
       · rw[if_neg hji];by_cases hki:k=i
         · subst hki;exact hdeps j hj
         · rw[if_neg hki]at hkl;exact hcl k hk hkl j hj)
     (by rw[hset];omega) (by rw[hset];exact hr1)
   refine⟨i::L,by rw[hL];simp,?_,?_,⟨o',s1,ho',hs1,hrun⟩⟩
   · refine List.nodup_cons.2 ⟨fun hiL=> ?_,hnd⟩;have:=hmem i hiL;rw[hset]at this
     simp at this
   · intro k hk;rw[← hu];rcases List.mem_cons.1 hk with rfl |hk
     · exact hiu
     · have:=hmem k hk;rw[hset]at this
       exact(List.mem_filter.1 this).1
theorem aNe (hf:DrawFacts ops okf) (hle:∀ i b,okf i b=true→okD ops base i b=true) {last:Nat}(hz:ops.size=last+1) (hlm:∀ j,j<last→(maskAt ops last).testBit j=true):∀ (fuel t:Nat) (listed:Array Bool) (acc:List Nat) {s s':LS},listed.size=ops.size→listed.getD last true=false→
  (∀ k,k<ops.size→listed.getD k true=true→∀ j,(maskAt ops k).testBit j=true→listed.getD j true=true)→(aQ listed ops.size).length≤fuel→
  tV P base okf ops ((aQ listed ops.size).filter (· !=last)) s s'→
  ∃ L,Region.linearise.go .any ops fuel t listed acc=acc.reverse++(L++[last])∧L.Nodup∧(∀ i∈L,i∈aQ listed ops.size∧i≠last)∧tV P base okf ops L s s'
 |0,t,listed,acc,s,s',hn,hll,hcl,hfu,hr=>by
  have hin:last∈aQ listed ops.size:=by
    simp only[aQ,List.mem_filter,List.mem_range];exact⟨by omega,by rw[hll];rfl⟩
  have h0:aQ listed ops.size=[]:=List.eq_nil_of_length_eq_zero (by omega);rw[h0]at hin
  simp at hin
 |fuel+1,t,listed,acc,s,s',hn,hll,hcl,hfu,hr=>by
  have hlin:last∈aQ listed ops.size:=by
    simp only[aQ,List.mem_filter,List.mem_range];exact⟨by omega,by rw[hll];rfl⟩
  unfold Region.linearise.go;simp only;generalize hrs:(List.range ops.size).filter (fun i=> !listed.getD i true && ((ops[i]?).map (·.after.all fun e=> !Region.binds .any e ||listed.getD e.on false)).getD false)=rs
  have mem:∀ i,i∈rs→i∈aQ listed ops.size∧∃ o,ops[i]? =some o∧∀ e∈o.after,Region.binds .any e=true→listed.getD e.on false=true:=by
    intro i hi;rw[← hrs]at hi
    simp only[List.mem_filter,Bool.and_eq_true]at hi;obtain⟨h1,h2,h3⟩:=hi;refine⟨by simp only[aQ,List.mem_filter];exact⟨h1,h2⟩,?_⟩
    cases ho:ops[i]? with
    |none=>simp[ho]at h3
    |some o=>
     refine⟨o,rfl,fun e he hb=> ?_⟩;rw[ho]at h3
     simp only[Option.map_some,Option.getD_some]at h3;obtain⟨k,hk,rfl⟩:=Array.mem_iff_getElem.1 he;have:=Array.all_eq_true.1 h3 k hk;rw[hb]at this
     simpa using this
  have hsorted:(aQ listed ops.size).Pairwise (· < ·):=List.Pairwise.filter _ List.pairwise_lt_range
  have hltall:∀ j∈aQ listed ops.size,j<ops.size:=fun j hj=>by
    simp only[aQ,List.mem_filter,List.mem_range]at hj;exact hj.1
  cases hu:aQ listed ops.size with
  |nil=>
   rw[hu]at hlin
   simp at hlin
  |cons i0 rest=>
   have hi0:i0∈aQ listed ops.size:=by rw[hu];simp
   have hi0lt:=hltall i0 hi0;have ho0:ops[i0]? =some ops[i0]:=Array.getElem?_eq_getElem hi0lt
   have ready:i0∈rs:=by
     rw[← hrs];simp only[List.mem_filter,Bool.and_eq_true,List.mem_range];simp only[aQ,List.mem_filter]at hi0;refine⟨hi0lt,hi0.2,?_⟩;rw[ho0];simp only[Option.map_some,Option.getD_some];refine Array.all_eq_true.2 fun k hk=> ?_
     cases hb:Region.binds .any ops[i0].after[k]with
     |false=>simp
     |true=>
      have hlow:=hf.lower i0 _ ho0 _ (Array.getElem_mem hk) hb;have hlt2:ops[i0].after[k].on<listed.size:=by omega
      have:listed.getD ops[i0].after[k].on true=true:=by
        cases hl:listed.getD ops[i0].after[k].on true with
        |true=>rfl
        |false=>
         exfalso
         have hin:ops[i0].after[k].on∈aQ listed ops.size:=by
           simp only[aQ,List.mem_filter,List.mem_range];exact⟨by omega,by rw[hl];rfl⟩
         rw[hu]at hin hsorted
         rcases List.mem_cons.1 hin with h |h
         · omega
         · have:=(List.pairwise_cons.1 hsorted).1 _ h;omega
      simp only[Array.getD,hlt2,dite_true]at this;simp[Array.getD,hlt2];exact this
   have hlen:0<rs.length:=List.length_pos_of_mem ready;have hidx:t % rs.length<rs.length:=Nat.mod_lt _ hlen;rw[List.getElem?_eq_getElem hidx];simp only;generalize hi:rs[t % rs.length]=i;have hirs:i∈rs:=by rw[← hi];exact List.getElem_mem hidx
   obtain⟨hiu,o,ho,hready⟩:=mem i hirs;have hilt:=hltall i hiu
   have hdeps:∀ j,(maskAt ops i).testBit j=true→listed.getD j true=true:=by
     intro j hj;obtain⟨e,he,hb,h⟩:=hf.close i o ho j hj;have hle:=hready e he hb;have hlow:=hf.lower i o ho e he hb;have hlt2:e.on<listed.size:=by omega
     have hle':listed.getD e.on true=true:=by
       simp only[Array.getD,hlt2,dite_true]at hle⊢;exact hle
     rcases h with h |h
     · subst h;exact hle'
     · exact hcl e.on (by omega) hle' j h
   have hgd:∀ k,(listed.setIfInBounds i true).getD k true=(if k=i then true else listed.getD k true):=fun k=>by
     simp only[Array.getD_eq_getD_getElem?,Array.getElem?_setIfInBounds];by_cases hki:k=i
     · subst hki;simp[hn,hilt]
     · rw[if_neg (fun e=>hki e.symm),if_neg hki]
   have hclos:∀ k,k<ops.size→(listed.setIfInBounds i true).getD k true=true→∀ j,(maskAt ops k).testBit j=true→(listed.setIfInBounds i true).getD j true=true:=fun k hk hkl j hj=>by
     rw[hgd]at hkl⊢
     by_cases hji:j=i
     · rw[if_pos hji]
     · rw[if_neg hji];by_cases hki:k=i
       · subst hki;exact hdeps j hj
       · rw[if_neg hki]at hkl;exact hcl k hk hkl j hj
   have hset:=zA listed ops.size i hn
   have hcnt:((aQ listed ops.size).filter (· !=i)).length<(aQ listed ops.size).length:=by
     rcases Nat.lt_or_ge ((aQ listed ops.size).filter (· !=i)).length (aQ listed ops.size).length with h |h
     · exact h
     · exfalso;have:=List.length_filter_eq_length_iff.1 (Nat.le_antisymm (List.length_filter_le _ _) h) i hiu;simp at this
   by_cases hil:i=last
   · subst hil
     have hempty:(aQ listed ops.size).filter (· !=i)=[]:=by
       apply List.filter_eq_nil_iff.2;intro j hj;have hjl:=hltall j hj;by_cases hji:j=i
       · simp[hji]
       · exfalso;have:=hdeps j (hlm j (by omega));simp only[aQ,List.mem_filter]at hj;rw[this]at hj
         simp at hj
     rw[hempty]at hr
     obtain⟨L,hL,hnd,hmem,hrun⟩:=aKh (P:=P) (base:=base) hf hle fuel (t / rs.length) (listed.setIfInBounds i true) (i::acc) (s:=s) (s':=s) (by simp[hn]) hclos (by rw[hset];omega) (by rw[hset,hempty];rfl)
     have hL0:L=[]:=by
       cases L with
       |nil=>rfl
       |cons k L=>
        have:=hmem k (by simp);rw[hset,hempty]at this
        simp at this
     subst hL0;exact⟨[],by rw[hL];simp,by simp,by simp,hr⟩
   · have hno:∀ j∈(aQ listed ops.size).filter (· !=last),(maskAt ops i).testBit j=false:=by
       intro j hj;have hj:=(List.mem_filter.1 hj).1
       cases hb:(maskAt ops i).testBit j with
       |false=>rfl
       |true=>
        have:=hdeps j hb;simp only[aQ,List.mem_filter]at hj;rw[this]at hj
        simp at hj
     obtain⟨o',s1,ho',hs1,hr1⟩:=aQ8 hf hle _ (hsorted.filter _) (fun j hj=>hltall j (List.mem_filter.1 hj).1) (List.mem_filter.2 ⟨hiu,by simpa using hil⟩) hno hr
     have hcomm:((aQ listed ops.size).filter (· !=last)).filter (· !=i)=(aQ (listed.setIfInBounds i true) ops.size).filter (· !=last):=by
       rw[hset,List.filter_filter,List.filter_filter];apply List.filter_congr;intro k _;exact Bool.and_comm _ _
     rw[hcomm]at hr1
     obtain⟨L,hL,hnd,hmem,hrun⟩:=aNe hf hle hz hlm fuel (t / rs.length) (listed.setIfInBounds i true) (i::acc) (by simp[hn])
       (by rw[hgd,if_neg (fun e=>hil e.symm)];exact hll) hclos (by rw[hset];omega) hr1
     refine⟨i::L,by rw[hL];simp,?_,?_,⟨o',s1,ho',hs1,hrun⟩⟩
     · refine List.nodup_cons.2 ⟨fun hiL=> ?_,hnd⟩;have:=(hmem i hiL).1;rw[hset]at this
       simp at this
     · intro k hk;rcases List.mem_cons.1 hk with rfl |hk
       · exact⟨hu ▸ hiu,hil⟩
       · have:=hmem k hk;rw[hset]at this
         exact⟨hu ▸ (List.mem_filter.1 this.1).1,this.2⟩
theorem gL (n:Nat):aQ (Array.replicate n false) n=List.range n:=by
 unfold aQ;apply List.filter_eq_self.2;intro k hk;have:k<n:=by simpa using hk
 simp[Array.getD,this]
theorem aIn (hf:DrawFacts ops okf) (hle:∀ i b,okf i b=true→okD ops base i b=true) {s s':LS}(h:tV P base okf ops (List.range ops.size) s s') (t:Nat):
  (Region.schedule true ops t).Nodup∧(∀ i∈Region.schedule true ops t,i<ops.size)∧tV P base okf ops (Region.schedule true ops t) s s':=by
 obtain⟨L,hL,hnd,hmem,hrun⟩:=aKh (P:=P) (base:=base) hf hle ops.size t (Array.replicate ops.size false) [] (s:=s) (s':=s') (by simp)
  (fun k hk hkl=>by simp[Array.getD,hk]at hkl) (by rw[gL];simp) (by rw[gL];exact h)
 have e:Region.schedule true ops t=L:=by
  simp only[Region.schedule,Bool.true_or,if_true,Region.linearise];rw[hL];rfl
 rw[e];refine⟨hnd,fun i hi=> ?_,hrun⟩;have:=hmem i hi;rw[gL]at this
 simpa using this
theorem aIo (hf:DrawFacts ops okf) (hle:∀ i b,okf i b=true→okD ops base i b=true) {last:Nat}(hz:ops.size=last+1) (hlm:∀ j,j<last→(maskAt ops last).testBit j=true) {s s':LS}(h:tV P base okf ops (List.range last) s s') (t:Nat):
  ∃ L,Region.schedule true ops t=L++[last]∧L.Nodup∧(∀ i∈L,i<last)∧tV P base okf ops L s s':=by
 obtain⟨L,hL,hnd,hmem,hrun⟩:=aNe (P:=P) (base:=base) hf hle hz hlm ops.size t (Array.replicate ops.size false) [] (s:=s) (s':=s') (by simp) (by simp[Array.getD,hz])
  (fun k hk hkl=>by simp[Array.getD,hk]at hkl) (by rw[gL];simp) (by
   rw[gL,hz,List.range_succ,List.filter_append]
   have e1:(List.range last).filter (· !=last)=List.range last:=List.filter_eq_self.2 fun k hk=>by
    have:=List.mem_range.1 hk;simp;omega
   have e2:[last].filter (· !=last)=[]:=by simp
   rw[e1,e2,List.append_nil]
   exact h)
 refine⟨L,?_,hnd,fun i hi=> ?_,hrun⟩
 ·simp only[Region.schedule,Bool.true_or,if_true,Region.linearise];rw[hL];rfl
 ·have:=hmem i hi;rw[gL]at this
  have h1:=List.mem_range.1 this.1;omega
end
end
end Go.Lg
