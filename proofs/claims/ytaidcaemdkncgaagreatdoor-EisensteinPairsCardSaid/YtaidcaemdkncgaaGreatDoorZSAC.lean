/- Contracts of functions of the program, and what proves them (texts: Lg14 Lg15 Lg16 Lg17). -/
import Derived.Test.YtaidcaemdkncgaaGreatDoorZSAB
set_option linter.all false
set_option maxRecDepth 100000
set_option maxHeartbeats 8000000
namespace Go.Lg
section
open Go
mutual
def renL (nb:Nat) (ρ:Nat→Nat):LV→Option LV
 | .own b off n sz=>if b<nb then some (.own (ρ b) off n sz)else none
 | .ptr b off=>if b<nb then some (.ptr (ρ b) off)else none
 | .agg cs=>(renLs nb ρ cs).map .agg
 | .tup cs=>(renLs nb ρ cs).map .tup
 | .fn f cs=>(renLs nb ρ cs).map (.fn f)
 | .lit v=>some (.lit v)
 | .sl n cs=>some (.sl n cs)
 | .ro cs=>some (.ro cs)
 | .dead=>some .dead
def renLs (nb:Nat) (ρ:Nat→Nat):List LV→Option (List LV)
 |[]=>some []
 |c::cs=>match renL nb ρ c,renLs nb ρ cs with
  |some y,some ys=>some (y::ys)
  |_,_=>none
end
structure Sub (na:Nat) (s t:LS):Prop where
 n:s.n=t.n
 ex:∃ ρ:Nat→Nat,(∀ i,t.f i= .dead∨renL t.nb ρ (t.f i)=some (s.f i))∧
  (∀ b k,t.h b=some k→b<t.nb∧∃ k',s.h (ρ b)=some k'∧k'.ty=k.ty∧k'.fz=k.fz∧renLs t.nb ρ k.cells=some k'.cells)∧
  (∀ b b' k k',t.h b=some k→t.h b'=some k'→ρ b=ρ b'→b=b')∧(na≤t.nb∧∀ b,b<na→ρ b=b)
theorem Sub.na_le {na:Nat}{s t:LS}(h:Sub na s t):na≤t.nb:=by
 obtain⟨_,_,_,_,_,h,_⟩:=h;exact h
section
variable {St:Nat→Prop}{hp:Array Obj}{μ:Nat→Option (Nat×Nat)}{nb:Nat}{ρ:Nat→Nat}
mutual
theorem aUg:∀ (x:LV) {y:LV}{v:Value},renL nb ρ x=some y→Rep St hp μ y v→Rep St hp (fun b=>if b<nb then μ (ρ b)else none) x v
 | .own b off n sz,y,v,h,hr=>by
   unfold renL at h;split at h
   · rename_i hb
     cases h
     cases hr with
     |own hb' hn hc hR=>exact .own (by rw[if_pos hb];exact hb') hn hc hR
   · cases h
 | .ptr b off,y,v,h,hr=>by
   unfold renL at h;split at h
   · rename_i hb
     cases h
     cases hr with
     |ptr hb'=>exact .ptr (by rw[if_pos hb];exact hb')
   · cases h
 | .agg cs,y,v,h,hr=>by
   unfold renL at h
   cases hc:renLs nb ρ cs with
   |none=>simp[hc]at h
   |some ys=>
    simp only[hc,Option.map_some,Option.some.injEq]at h;subst h
    cases hr with
    |agg hl h1 hrr=>
     have:=ren_reps cs hc ⟨hl,hrr⟩
     exact .agg this.1 h1 this.2
 | .tup cs,y,v,h,hr=>by
   unfold renL at h
   cases hc:renLs nb ρ cs with
   |none=>simp[hc]at h
   |some ys=>
    simp only[hc,Option.map_some,Option.some.injEq]at h;subst h
    cases hr with
    |tup hl hrr=>
     have:=ren_reps cs hc ⟨hl,hrr⟩
     exact .tup this.1 this.2
 | .fn f cs,y,v,h,hr=>by
   unfold renL at h
   cases hc:renLs nb ρ cs with
   |none=>simp[hc]at h
   |some ys=>
    simp only[hc,Option.map_some,Option.some.injEq]at h;subst h
    cases hr with
    |fn hl hrr=>
     have:=ren_reps cs hc ⟨hl,hrr⟩
     exact .fn this.1 this.2
 | .lit _,y,v,h,hr=>by
   simp only[renL,Option.some.injEq]at h;subst h
   cases hr;exact .lit _
 | .sl n cs,y,v,h,hr=>by
   simp only[renL,Option.some.injEq]at h;subst h
   cases hr with
   |snil=>exact .snil
   |sl a b c d e f g=>exact .sl a b c d e f g
 | .ro cs,y,v,h,hr=>by
   simp only[renL,Option.some.injEq]at h;subst h
   cases hr with
   |ro c d e f g=>exact .ro c d e f g
 | .dead,y,v,h,hr=> .dead v
theorem ren_reps:∀ (cs:List LV) {ys:List LV}{us:List Value},renLs nb ρ cs=some ys→Reps St hp μ ys us→Reps St hp (fun b=>if b<nb then μ (ρ b)else none) cs us
 |[],ys,us,h,hr=>by
  simp only[renLs,Option.some.injEq]at h;subst h;have:us=[]:=List.eq_nil_of_length_eq_zero hr.1.symm;subst this
  exact Reps.nil
 |c::cs,ys,us,h,hr=>by
  unfold renLs at h;split at h
  · rename_i y ys' hy hys
    cases h
    obtain⟨u,us',rfl,hu,hr'⟩:=hr.head;exact(ren_reps cs hys hr').cons (aUg c hy hu)
  · cases h
end
theorem zB:∀ (cs:List LV) {ys:List LV},renLs nb ρ cs=some ys→ys.length=cs.length
 |[],ys,h=>by simp only[renLs,Option.some.injEq]at h;subst h;rfl
 |c::cs,ys,h=>by
  unfold renLs at h;split at h
  · rename_i y ys' hy hys
    cases h
    simp[zB cs hys]
  · cases h
end
def eT (na:Nat) (A:Nat→Option (Nat×Nat)) (w0:World) (M St0:Nat→Prop) (s:LS) (a:Act) (w:World):Prop:=
 a.defers=[]∧∃ μ St,Inv w0 M St0 s μ St a.tmps w∧(∀ b,s.nb≤b→μ b=none)∧∀ b,b<na→μ b=A b
theorem eT.sub {na:Nat}{A:Nat→Option (Nat×Nat)}{w0:World}{M St0:Nat→Prop}{s t:LS}{a:Act}{w:World}(h:eT na A w0 M St0 s a w) (hs:Sub na s t):eT na A w0 M St0 t a w:=by
 obtain⟨hd,μ,St,hI,_,hμA⟩:=h;obtain⟨hn,ρ,hf,hb,hinj,hna,han⟩:=hs;refine⟨hd,(fun b=>if b<t.nb then μ (ρ b)else none),St,⟨fun i=> ?_,hI.sz.trans hn,?_,?_,?_,hI.st_lt,hI.st0,hI.os,hI.tape,hI.output,hI.size,hI.kept⟩,fun b hb=>if_neg (by omega),fun b hb=> ?_⟩
 ·rcases hf i with h |h
  ·rw[h];exact .dead _
  ·exact aUg _ h (hI.frame i)
 ·intro b k hk;obtain⟨hlt,k',hk',hty,hfz,hcells⟩:=hb b k hk;obtain⟨g,R,cs,hm,hg,hcs,hle,hr,h1,hf1,hf2⟩:=hI.blk _ k' hk';have hlen:=zB _ hcells;refine⟨g,R,cs,by simp only[hlt,if_true];exact hm,by rw[← hty];exact hg,hcs,by omega,?_,?_,by rw[← hfz];exact hf1,by rw[← hfz];exact hf2⟩
  ·rw[← hlen];exact ren_reps _ hcells hr
  ·rw[← hlen];exact h1
 ·intro b b' k k' g R R' hk hk' hm hm';obtain⟨hlt,k1,hk1,_⟩:=hb b k hk;obtain⟨hlt',k2,hk2,_⟩:=hb b' k' hk';simp only[hlt,if_true]at hm;simp only[hlt',if_true]at hm';exact hinj b b' k k' hk hk' (hI.inj _ _ k1 k2 g R R' hk1 hk2 hm hm')
 ·intro b g R hm;split at hm
  ·exact hI.lt _ g R hm
  ·cases hm
 ·simp only[Nat.lt_of_lt_of_le hb hna,if_true];rw[han b hb];exact hμA b hb
def aB:LV→Bool
 | .lit _ | .sl _ _ | .ro _ | .dead=>true
 |_=>false
theorem aXv {St:Nat→Prop}{hp:Array Obj}{μ μ':Nat→Option (Nat×Nat)}{x:LV}{v:Value}(h:aB x=true) (hr:Rep St hp μ x v):Rep St hp μ' x v:=by
 cases hr with
 |lit v=>exact .lit v
 |dead v=>exact .dead v
 |snil=>exact .snil
 |sl a b c d e f g=>exact .sl a b c d e f g
 |ro c d e f g=>exact .ro c d e f g
 |_=>simp[aB]at h
theorem fE {St:Nat→Prop}{hp:Array Obj}{μ μ':Nat→Option (Nat×Nat)}{cs:List LV}{us:List Value}(h:∀ c∈cs,aB c=true) (hr:Reps St hp μ cs us):Reps St hp μ' cs us:=
 ⟨hr.1,fun j c u hc hu=>aXv (h c (List.mem_of_getElem? hc)) (hr.2 j c u hc hu)⟩
def zC (P:Program) [Laid P] (f:FuncId) (args:List LV) (ty:TypeId) (cells:List LV) (r:LV) (cells':List LV):Prop:=
 aCp P f∧∀ (w:World) (St:Nat→Prop) (g R:Nat) (cs:Array Value) (vs:List Value),(∀ g,St g→g<w.heap.size)→fN P St w.heap→¬St g→w.heap[g]? =some (.cells cs ty (0,0))→cs.size=R→cells.length≤R→
  Reps St w.heap (fun _=>none) cells (cs.toList.take cells.length)→(∀ u∈cs.toList.take cells.length,u.oneCell'=true)→Reps St w.heap (fun b=>if b<1 then some (g,R)else none) args vs→
  Calls P f vs.toArray w fun e w'=>∃ v St' cs',e= .returned v∧Rep St' w'.heap (fun _=>none) r v∧(∀ g,St g→St' g)∧(∀ g,St' g→g<w'.heap.size∧(St g∨w.heap.size≤g))∧
   w'.os=w.os∧w'.tape=w.tape∧w'.output=w.output∧w.heap.size≤w'.heap.size∧(∀ g',g'<w.heap.size→g'≠g→w'.heap[g']? =w.heap[g']?)∧
   w'.heap[g]? =some (.cells cs' ty (0,0))∧cs'.size=R∧cells'.length≤R∧Reps St' w'.heap (fun _=>none) cells' (cs'.toList.take cells'.length)∧(∀ u∈cs'.toList.take cells'.length,u.oneCell'=true)
def bA2 (P:Program) [Laid P] (id:Nat) (ok:Nat→Bool) (ops:Array Oper) (o:Oper) (s:LS) (K:LS→Prop):Prop:=
 nR o s.n=true∧match cS ops o s with
  |none=>False
  |some b=>(b=false→K (s.put o.dst bP))∧(b=true→match aF P id ok o.op s with
   |none=>False
   |some (.call f args fz)=>∃ r,cU P f args r∧K (s.eff id o.dst (.call f args fz) r)
   |some e=>K (s.eff id o.dst e .dead))
def mP (P:Program) [Laid P] (f:FuncId) (args:List LV) (h:Nat→Option Blk) (nb:Nat) (r:LV) (h':Nat→Option Blk) (nb':Nat):Prop:=
 aCp P f∧∀ (w0:World) (M St0:Nat→Prop) (μ:Nat→Option (Nat×Nat)) (St:Nat→Prop) (w:World) (vs:List Value),fO P w0 M St0→Inv w0 M St0 ⟨0,fun _=> .dead,h,0⟩ μ St #[] w→(∀ b,nb≤b→μ b=none)→Reps St w.heap μ args vs→
  Calls P f vs.toArray w fun e w'=>∃ v μ' St',e= .returned v∧Inv w0 M St0 ⟨0,fun _=> .dead,h',0⟩ μ' St' #[] w'∧Rep St' w'.heap μ' r v∧(∀ b,b<nb→μ' b=μ b)∧(∀ b,nb'≤b→μ' b=none)∧(∀ g,St g→St' g)∧(∀ g,St g→w'.heap[g]? =w.heap[g]?)
def aCt (P:Program) [Laid P] (m:Nat) (ops:Array Oper) (o:Oper) (s:LS) (K:LS→Prop):Prop:=
 ∃ c x f cs d r h' nb',o.op= .call c∧c.callee= .value x∧opnd s x= .fn f cs∧o.dst=some d∧d<s.n∧cS ops o s=some true∧mP P f (c.args.toList.map (opnd s)++cs) s.h (max s.nb m) r h' nb'∧max s.nb m≤nb'∧K ⟨s.n,dE s.f d r,h',nb'⟩
def bM3 (P:Program) [Laid P] (id:Nat) (ops:Array Oper) (o:Oper) (s:LS) (K:LS→Prop):Prop:=
 ∃ t d x dd b n e z by_ zl k m news,o.op= .call {callee:= .builtin .append,args:= #[d,x],argTypes:= #[t,t]}∧o.dst=some dd∧dd<s.n∧cS ops o s=some true∧aZ P t=some e∧aL P e=some (z+1)∧bI P e=some by_∧bT P e=some zl∧
   opnd s d= .own b 0 n (z+1)∧s.h b=some k∧k.ty=e∧k.fz=false∧n*(z+1)≤k.cells.length∧aDh s (fun _=>true) (z+1) (opnd s x)=some (m,news)∧m≠0∧(n+m)*by_≤140737488355328∧n+m≤maxLen∧
   K ⟨s.n,dE s.f dd (.own b 0 (n+m) (z+1)),dE s.h b (some {k with cells:=k.cells.take (n*(z+1))++news}),s.nb⟩∧
   K ⟨s.n,dE s.f dd (.own id 0 (n+m) (z+1)),dE s.h id (some ⟨e,k.cells.take (n*(z+1))++news,false⟩),s.nb⟩
def lrun (P:Program) [Laid P] (mu:Bool) (base:Nat) (ok:Nat→Nat→Bool) (ops:Array Oper):Nat→List Oper→LS→(LS→Prop)→Prop
 |_,[],s,K=>K s
 |i,o::rest,s,K=>bA2 P (base+i) (ok i) ops o s (fun s'=>lrun P mu base ok ops (i+1) rest s' K)∨(mu=true∧aCt P (base+ops.size) ops o s fun s'=>lrun P mu base ok ops (i+1) rest s' K)∨
  (mu=true∧bM3 P (base+i) ops o s fun s'=>lrun P mu base ok ops (i+1) rest s' K)
theorem uG {P:Program}[Laid P] {id:Nat}{ok:Nat→Bool}{ops:Array Oper}{o:Oper}{s:LS}{K:LS→Prop}(h:bA2 P id ok ops o s K):∃ s',mO P id ok ops o s s'∧K s':=by
 obtain⟨hd,h⟩:=h;split at h
 ·exact h.elim
 ·rename_i b hb
  cases b with
  |false=>exact⟨_,⟨hd,false,hb,fun _=>rfl,by simp⟩,h.1 rfl⟩
  |true=>
   have h':=h.2 rfl;split at h'
   · exact h'.elim
   · rename_i f args fz hc;obtain⟨r,hg,hk⟩:=h';exact⟨_,⟨hd,true,hb,by simp,fun _=>⟨_,r,hc,fun f' args' fz' e=>by cases e;exact hg,rfl⟩⟩,hk⟩
   · rename_i e hne hc;exact⟨_,⟨hd,true,hb,by simp,fun _=>⟨e,.dead,hc,fun f args fz he=>(hne f args fz he).elim,rfl⟩⟩,h'⟩
theorem xP {P:Program}[Laid P] {base:Nat}{ok:Nat→Nat→Bool}{ops:Array Oper}{K:LS→Prop}:∀ (l:List Oper) (i:Nat) {s:LS},(∀ j,l[j]? =ops[i+j]?)→lrun P false base ok ops i l s K→
  ∃ s',tV P base ok ops (List.range' i l.length) s s'∧K s'
 |[],i,s,_,h=>⟨s,rfl,h⟩
 |o::l,i,s,hl,h=>by
  obtain⟨s1,hs,hk⟩:=uG (h.resolve_right (by simp));obtain⟨s',hr,hk'⟩:=xP l (i+1) (fun j=>by have:=hl (j+1);simpa[Nat.add_assoc,Nat.add_comm 1 j]using this) hk;refine⟨s',?_,hk'⟩;rw[List.length_cons,List.range'_succ];exact⟨o,s1,by simpa using(hl 0).symm,hs,hr⟩
theorem Inv.bare {w0:World}{M St0:Nat→Prop}{s:LS}{μ:Nat→Option (Nat×Nat)}{St:Nat→Prop}{tm:Array Value}{w:World}(h:Inv w0 M St0 s μ St tm w):Inv w0 M St0 ⟨0,fun _=> .dead,s.h,0⟩ μ St #[] w:=
 ⟨fun _=> .dead _,rfl,h.blk,h.inj,h.lt,h.st_lt,h.st0,h.os,h.tape,h.output,h.size,h.kept⟩
theorem bA3 {P:Program}[Laid P] {f:FuncId}{args args':List LV}{ty:TypeId}{cells cells':List LV}{r:LV}{h:Nat→Option Blk}{b nb:Nat}(hg:zC P f args ty cells r cells') (hb:h b=some ⟨ty,cells,false⟩)
  (hren:renLs 1 (fun _=>b) args=some args') (hpl:∀ c∈cells,aB c=true) (hpl':∀ c∈cells',aB c=true):mP P f args' h nb r (dE h b (some ⟨ty,cells',false⟩)) nb:=by
 obtain⟨hen,hgood⟩:=hg;refine⟨hen,fun w0 M St0 μ St w vs hL h0 hnb hvs=> ?_⟩;obtain⟨g,R,cs,hμ,hg,hsz,hle,hr,h1,_,hnS⟩:=h0.blk b _ hb;have hargs:=ren_reps args hren hvs;rw[hμ]at hargs
 refine(hgood w St g R cs _ (fun g hg=>(h0.st_lt g hg).1) (h0.laid hL) (hnS rfl) hg hsz (hsz ▸ hle) (fE hpl hr) h1 hargs).mono ?_;rintro e w' ⟨v,St',cs',rfl,hv,hs1,hs2,hos,htp,hout,hsize,hkept,hg',hsz',hle',hr',ho'⟩;have hglt:=(h0.lt b g R hμ).1;have hsame:∀ g',St g'→w'.heap[g']? =w.heap[g']? :=fun g' hg'=>hkept g' (h0.st_lt g' hg').1 (fun e=>hnS rfl (e ▸ hg'))
 refine⟨v,μ,St',rfl,?_,hv.mono (fun _ h=>h) (fun _ _=>rfl) (fun _ _ h=>by cases h),fun _ _=>rfl,hnb,hs1,hsame⟩;refine⟨fun i=> .dead _,h0.sz,?_,?_,fun b g R hm=>⟨Nat.lt_of_lt_of_le (h0.lt b g R hm).1 hsize,(h0.lt b g R hm).2.imp id (Or.imp id (hs1 g))⟩,?_,fun g hg=>hs1 g (h0.st0 g hg),hos.trans h0.os,htp.trans h0.tape,hout.trans h0.output,Nat.le_trans h0.size hsize,?_⟩
 ·intro b' k' hb';simp only[dE]at hb';split at hb'
  ·rename_i hbb;subst hbb
   cases hb'
   refine⟨g,R,cs',hμ,hg',hsz',by rw[hsz'];exact hle',fE hpl' hr',ho',by simp,fun _ hst=> ?_⟩;rcases(hs2 g hst).2 with hh |hh
   ·exact hnS rfl hh
   ·omega
  ·rename_i hbb;obtain⟨g2,R2,cs2,hm2,hg2,hcs2,hle2,hr2,ho2,hfz2,hnfz2⟩:=h0.blk b' k' hb';have hne:g2≠g:=fun e=>hbb (h0.inj b' b k' _ g2 R2 R hb' hb hm2 (e ▸ hμ))
   have hlt2:=(h0.lt b' g2 R2 hm2).1;refine⟨g2,R2,cs2,hm2,by rw[hkept g2 hlt2 hne];exact hg2,hcs2,hle2,hr2.mono hs1 hsame (fun _ _ h=>h),ho2,fun hh=>hs1 g2 (hfz2 hh),fun hh hst=> ?_⟩;rcases(hs2 g2 hst).2 with h3 |h3
   ·exact hnfz2 hh h3
   ·omega
 ·intro b1 b2 k1 k2 g1 R1 R2 h1' h2' hm1 hm2
  have aux:∀ b' k',dE h b (some ⟨ty,cells',false⟩) b'=some k'→∃ k'',h b'=some k'':=by
   intro b' k' hh;simp only[dE]at hh;split at hh
   ·rename_i e;subst e;exact⟨_,hb⟩
   ·exact⟨k',hh⟩
  obtain⟨k1',h1''⟩:=aux b1 k1 h1';obtain⟨k2',h2''⟩:=aux b2 k2 h2';exact h0.inj b1 b2 k1' k2' g1 R1 R2 h1'' h2'' hm1 hm2
 ·intro g' hst;refine⟨(hs2 g' hst).1,?_⟩;rcases(hs2 g' hst).2 with hh |hh
  ·exact(h0.st_lt g' hh).2
  ·exact .inr (.inr (Nat.le_trans h0.size hh))
 ·intro g' hlt hM
  have hne:g'≠g:=by
   intro e;subst e;rcases(h0.lt b g' R hμ).2 with hh |hh |hh
   ·exact hM hh
   ·omega
   ·exact hnS rfl hh
  exact(hkept g' (Nat.lt_of_lt_of_le hlt h0.size) hne).trans (h0.kept g' hlt hM)
theorem Inv.after_h {w0:World}{M St0:Nat→Prop}{s:LS}{μ μ':Nat→Option (Nat×Nat)}{St St':Nat→Prop}{tm:Array Value}{w w':World}{m:Nat}{h':Nat→Option Blk}(h:Inv w0 M St0 s μ St tm w) (hμ:∀ b,m≤b→μ b=none)
  (hI:Inv w0 M St0 ⟨0,fun _=> .dead,h',0⟩ μ' St' #[] w') (h1:∀ b,b<m→μ' b=μ b) (h2:∀ g,St g→St' g) (h3:∀ g,St g→w'.heap[g]? =w.heap[g]?) (k:Nat):Inv w0 M St0 ⟨s.n,s.f,h',k⟩ μ' St' tm w':=by
 refine⟨fun i=>(h.frame i).mono h2 h3 (fun b r hb=> ?_),h.sz,hI.blk,hI.inj,hI.lt,hI.st_lt,hI.st0,hI.os,hI.tape,hI.output,hI.size,hI.kept⟩;rcases Nat.lt_or_ge b m with hlt |hge
 ·rw[h1 b hlt];exact hb
 ·rw[hμ b hge]at hb;cases hb
theorem aNf {P:Program}[Laid P] {w0:World}{M St0:Nat→Prop}(hL:fO P w0 M St0) {s:LS}{μ:Nat→Option (Nat×Nat)}{St:Nat→Prop}{a:Act}{w:World}(h:Inv w0 M St0 s μ St a.tmps w)
  {m:Nat}(hμ:∀ b,max s.nb m≤b→μ b=none) {ops:Array Oper}{o:Oper}{Kl:LS→Prop}(hs:aCt P m ops o s Kl) {K:Act→World→Prop}{Q:Exit→Act→World→Prop}
  (hK:∀ s' μ' St' a' w',Kl s'→Inv w0 M St0 s' μ' St' a'.tmps w'→a'.defers=a.defers→max s.nb m≤s'.nb→(∀ b,b<max s.nb m→μ' b=μ b)→(∀ b,s'.nb≤b→μ' b=none)→K a' w'):
  if Region.wanted o (yielded ops a.tmps)then o.wp P a w K Q else K (a.put o.dst undef) w:=by
 obtain⟨c,x,f,cs,d,r,h',nb',hop,hcal,hx,hdst,hdn,hw,⟨hen,hgood⟩,hle,hk⟩:=hs;rw[rX h hw];simp only[if_true];have hgf:=h.opnd x;rw[hx]at hgf
 obtain⟨us,hge,hus⟩:∃ us,a.eval x= .func (.func f) #[] us.toArray∧Reps St w.heap μ cs us:=by
  generalize a.eval x=q at hgf
  cases hgf with
  |fn hl hr=>exact⟨_,rfl,hl,hr⟩
 have hargs:=(h.opnds c.args.toList).append hus;have e1:c.args.map a.eval++us.toArray=(c.args.toList.map a.eval++us).toArray:=by apply Array.ext';simp
 have hrun:(execOp a.eval o).run P w= .ok (.enter f (c.args.toList.map a.eval++us).toArray) w:=by
  obtain⟨callee,cargs,ct⟩:=c;simp only at hcal e1;subst hcal;simp[execOp,hop,resolve,hge,Deferred.ofValue,invoke,e1,rV hen]
 unfold Oper.wp;rw[hrun];simp only[Oper.upon];refine(hgood w0 M St0 μ St w _ hL h.bare hμ hargs).mono ?_;rintro e w' ⟨v,μ',St',rfl,hI',hv,hm1,hm2,hS1,hS2⟩;have hI:=h.after_h hμ hI' hm1 hS1 hS2 nb';have hdd:∀ t,o.dst=some t→t<s.n:=fun t ht=>by rw[hdst]at ht;cases ht;exact hdn
 have hI2:=hI.putD (d:=o.dst) hv hdd a.defers;rw[hdst]at hI2⊢
 exact hK _ μ' St' _ w' hk hI2 (by simp[Act.put]) hle hm1 hm2
theorem aNg {P:Program}[Laid P] {w0:World}{M St0:Nat→Prop}{s:LS}{μ:Nat→Option (Nat×Nat)}{St:Nat→Prop}{a:Act}{w:World}(h:Inv w0 M St0 s μ St a.tmps w)
  {id:Nat}(hid:μ id=none) {ops:Array Oper}{o:Oper}{Kl:LS→Prop}(hs:bM3 P id ops o s Kl) {K:Act→World→Prop}{Q:Exit→Act→World→Prop}
  (hK:∀ s' μ' a' w',Kl s'→Inv w0 M St0 s' μ' St a'.tmps w'→a'.defers=a.defers→s'.nb=s.nb→(∀ b,b≠id→μ' b=μ b)→K a' w'):
  if Region.wanted o (yielded ops a.tmps)then o.wp P a w K Q else K (a.put o.dst undef) w:=by
 obtain⟨t,d,x,dd,b,n,e,z,by_,zl,k,m,news,ho,hdst,hdn,hw,he,hz,hby,hzl,hdv0,hk,hty,hfz,hnk,hsrc,hm0,hbb,hml,hB,hA⟩:=hs;rw[rX h hw];simp only[if_true];have hdv:=h.opnd d;have hxv:=h.opnd x;obtain⟨i,zv,hi,hzv,_,hzs,_⟩:=nG hzl;have hsi:i.size=z+1:=by simp[aL,hi]at hz;exact hz
 have hbi:i.bytes=by_:=by simp[bI,hi]at hby;exact hby
 obtain⟨A,capx,us,hxe,hnl,hnr,hn1,hA0,hAc⟩:=aIm h hsrc hxv;have hul:us.length=m*i.size:=by rw[← hnr.1,hnl,hsi]
 obtain⟨ad,rfl⟩:∃ ad,A=some ad:=by
  cases A with
  |none=>exact absurd (hA0 rfl) hm0
  |some ad=>exact⟨ad,rfl⟩
 obtain⟨g,R,cs,hμ,hg,hcs,hle,hr,h1,_⟩:=h.blk b k hk;rw[hdv0]at hdv
 obtain⟨cap,hdev,hncap,hcapm,hR⟩:∃ cap,a.eval d= .slice (some ⟨g,0,none⟩) n cap∧n≤cap∧cap≤maxLen∧cap*(z+1)=R:=by
  generalize a.eval d=q at hdv
  cases hdv with
  | @own _ _ _ _ _ g' R' cap hb hn hcap hR=>
  rw[hμ]at hb;cases hb
  exact⟨cap,rfl,hn,hcap,by omega⟩
 have exec:∀ (v':Value) (w':World),(Builtin.append_ #[t,t] o.type #[.slice (some ⟨g,0,none⟩) n cap,.slice (some ad) m capx]).run P w= .ok v' w'→(execOp a.eval o).run P w= .ok (.value v') w':=by
  intro v' w' hrun;simp only[execOp,ho,resolve,invoke,builtin,Sem.run_bind,Sem.run_pure,Result.andThen_ok,List.map_toArray,List.map_cons,List.map_nil,hdev,hxe,hrun]
 have hdef:∀ v,(a.put o.dst v).defers=a.defers:=fun v=>by unfold Act.put;split <;>rfl
 have hdd:∀ t,o.dst=some t→t<s.n:=fun t ht=>by rw[hdst]at ht;cases ht;exact hdn
 have hk0:(cs.toList.take k.cells.length).take (n*(z+1))=cs.toList.take (n*(z+1)):=by rw[List.take_take,Nat.min_eq_left hnk]
 have hrt:=hr.take (n*(z+1));rw[hk0]at hrt
 have hcl:(k.cells.take (n*(z+1))++news).length=(n+m)*(z+1):=by
  rw[List.length_append,List.length_take,Nat.min_eq_left hnk,hnl,Nat.add_mul]
 have hncs:n*(z+1)≤cs.size:=by rw[hcs,← hR];exact Nat.mul_le_mul_right _ hncap
 have hone:∀ u∈cs.toList.take (n*(z+1))++us,u.oneCell'=true:=by
  intro u hu;rcases List.mem_append.1 hu with hu |hu
  ·rw[← hk0]at hu;exact h1 u (List.mem_of_mem_take hu)
  ·exact hn1 u hu
 have hlt1:(cs.toList.take (n*(z+1))++us).length=(n+m)*(z+1):=by
  rw[List.length_append,List.length_take,Array.length_toList,Nat.min_eq_left hncs,hul,hsi,Nat.add_mul]
 unfold Oper.wp;by_cases hroom:n+m≤cap
 ·have hfit:n*(z+1)+us.length≤cs.size:=by rw[hul,hsi,← Nat.add_mul,hcs,← hR];exact Nat.mul_le_mul_right _ hroom
  have hrun:=run_append_room (P:=P) w t o.type e i (cP he) hi g n cap cs (by rw[← hty];exact hg) ad m capx us hul (hAc ad rfl) hn1 hroom (by rw[hsi];exact hfit);rw[hsi]at hrun
  have htk:((cs.toList.take (n*(z+1))++us++cs.toList.drop (n*(z+1)+us.length)).toArray).toList.take (k.cells.take (n*(z+1))++news).length=cs.toList.take (n*(z+1))++us:=by
   rw[hcl,← hlt1];exact List.take_left
  have hI:=h.write (cells:=k.cells.take (n*(z+1))++news) (cs':=(cs.toList.take (n*(z+1))++us++cs.toList.drop (n*(z+1)+us.length)).toArray) hk hμ hg hfz
   (by simp only[List.size_toArray,List.length_append,List.length_take,List.length_drop,Array.length_toList];omega)
   (by rw[hcl,← hlt1];simp only[List.size_toArray,List.length_append];omega)
   (by rw[htk];exact hrt.append hnr)
   (by rw[htk];exact hone)
  rw[exec _ _ hrun];simp only[Oper.upon];have hI2:=hI.putD (x:= .own b 0 (n+m) (z+1)) (v:= .slice (some ⟨g,0,none⟩) (n+m) cap) (.own hμ hroom hcapm (by omega)) hdd a.defers;have hI3:=hI2;rw[hdst]at hI3
  exact hK _ μ _ _ hB (by rw[hdst];exact hI3) (hdef _) rfl (fun _ _=>rfl)
 ·have hown:w.ownsRow 0 e (z+1) (.slice (some ⟨g,0,none⟩) n cap) n (cs.toList.take (n*(z+1))):=by
   refine⟨?_,.inr ⟨g,cap,cs,rfl,Nat.zero_le _,by rw[← hty];exact hg,hncap,hcapm,by rw[hcs,hR],rfl⟩⟩;rw[List.length_take,Array.length_toList];exact Nat.min_eq_left hncs
  have holds:∀ j u,(cs.toList.take (n*(z+1)))[j]? =some u→w.cell? ((⟨g,0,none⟩:Addr).add j)=some u:=hown.cells (g:=g) rfl;have hsmall:n+m≤9223372036854775807:=by simp only[maxLen]at hml;omega
  have hrun:=run_append_grow (P:=P) w t o.type e i zv (cP he) hi hzv ⟨g,0,none⟩ n cap (cs.toList.take (n*(z+1))) (by rw[hown.1,hsi]) holds ad m capx us hul (hAc ad rfl) (by omega) (by omega) (growslice_fits (by omega) (by rw[hbi];exact hbb));have hge:=grownCap_ge w (n+m) cap e;have hcm:grownCap w (n+m) cap e≤maxLen:=grownCap_le_maxLen w (n+m) cap e hml
  have hsz0:((cs.toList.take (n*(z+1))).toArray++us.toArray++Builtin.zeroCells zv.cells (grownCap w (n+m) cap e-(n+m))).size=grownCap w (n+m) cap e*(z+1):=by
   have e1:(cs.toList.take (n*(z+1))).length+us.length=(n+m)*(z+1):=by rw[← List.length_append];exact hlt1
   simp only[Array.size_append,List.size_toArray,size_zeroCells,hzs,hsi,e1,← Nat.add_mul];congr 1;omega
  have hgb:w.grownBy (w.drew.alloc (.cells ((cs.toList.take (n*(z+1))).toArray++us.toArray++Builtin.zeroCells zv.cells (grownCap w (n+m) cap e-(n+m))) e)) none:=⟨rfl,rfl,rfl,by simp,fun k hk _=>heap_alloc_old w.drew _ k hk⟩;have hgg:=heap_alloc_new w.drew (.cells ((cs.toList.take (n*(z+1))).toArray++us.toArray++Builtin.zeroCells zv.cells (grownCap w (n+m) cap e-(n+m))) e);generalize hcur:(cs.toList.take (n*(z+1))).toArray++us.toArray++Builtin.zeroCells zv.cells (grownCap w (n+m) cap e-(n+m))=cur at*
  have htk:cur.toList.take (k.cells.take (n*(z+1))++news).length=cs.toList.take (n*(z+1))++us:=by
   rw[hcl,← hlt1,← hcur];simp only[Array.toList_append];exact List.take_left
  have hlt:w.heap.size<(w.drew.alloc (.cells cur e)).heap.size:=(Array.getElem?_eq_some_iff.1 hgg).1
  have hI:=h.app (ob:=none) (cells:=k.cells.take (n*(z+1))++news) (ty:=e) hid (.inr ⟨rfl,rfl⟩) hgb (.inr rfl) hlt hgg hsz0 (by rw[hcl,hsz0];exact Nat.mul_le_mul_right _ hge)
   (by rw[htk];exact hrt.append hnr) (by rw[htk];exact hone)
  rw[exec _ _ hrun];simp only[Oper.upon];have hI2:=hI.putD (x:= .own id 0 (n+m) (z+1)) (v:= .slice (some ⟨w.heap.size,0,none⟩) (n+m) (grownCap w (n+m) cap e)) (.own (cH _ _ _) hge hcm (Nat.zero_add _)) hdd a.defers;have hI3:=hI2;rw[hdst]at hI3
  exact hK _ _ _ _ hA (by rw[hdst];exact hI3) (hdef _) rfl (fun b hb=>bW _ _ _ _ hb)
theorem lS {P:Program}[Laid P] {w0:World}{M St0:Nat→Prop}(hL:fO P w0 M St0) {mu:Bool}{base:Nat}{ok:Nat→Nat→Bool}{ops:Array Oper}{K:LS→Prop}{Q:Exit→Act→World→Prop}:
  ∀ (l:List Oper) (i:Nat) {s:LS}{μ:Nat→Option (Nat×Nat)}{St:Nat→Prop}{a:Act}{w:World},(∀ j,l[j]? =ops[i+j]?)→i+l.length=ops.size→lrun P mu base ok ops i l s K→Inv w0 M St0 s μ St a.tmps w→base≤s.nb→
  (∀ j,i≤j→j<ops.size→μ (base+j)=none)→(∀ b,max s.nb (base+ops.size)≤b→μ b=none)→
  (∀ s' μ' St' a' w',K s'→Inv w0 M St0 s' μ' St' a'.tmps w'→a'.defers=a.defers→s.nb≤s'.nb→(∀ b,b<base→μ' b=μ b)→(∀ b,max s'.nb (base+ops.size)≤b→μ' b=none)→Q .normal a' w')→wpOps P ops Q (List.range' i l.length) a w
 |[],i,s,μ,St,a,w,_,_,hk,h,_,_,hnb,hQ=>hQ s μ St a w hk h rfl (Nat.le_refl _) (fun _ _=>rfl) hnb
 |o::l,i,s,μ,St,a,w,hl,hlen,hr,h,hbase,hμ,hnb,hQ=>by
  rw[List.length_cons,List.range'_succ];rw[List.length_cons]at hlen
  unfold wpOps;have ho:ops[i]? =some o:=by simpa using(hl 0).symm
  simp only[ho];have hl':∀ j,l[j]? =ops[i+1+j]? :=fun j=>by have:=hl (j+1);simpa[Nat.add_assoc,Nat.add_comm 1 j]using this
  have fin:∀ (s1:LS) (μ1:Nat→Option (Nat×Nat)) (St1:Nat→Prop) (a1:Act) (w1:World),lrun P mu base ok ops (i+1) l s1 K→Inv w0 M St0 s1 μ1 St1 a1.tmps w1→a1.defers=a.defers→s.nb≤s1.nb→(∀ b,b<base→μ1 b=μ b)→(∀ j,i+1≤j→j<ops.size→μ1 (base+j)=none)→(∀ b,max s1.nb (base+ops.size)≤b→μ1 b=none)→wpOps P ops Q (List.range' (i+1) l.length) a1 w1:=by
    intro s1 μ1 St1 a1 w1 hk1 hI1 hdf1 hnb1 hm1 hm2 hm3;refine lS hL l (i+1) hl' (by omega) hk1 hI1 (by omega) hm2 hm3 ?_;intro s' μ' St' a' w' hk' hI' hdf' hnb' hm' hm2';exact hQ s' μ' St' a' w' hk' hI' (hdf'.trans hdf1) (by omega) (fun b hb=>by rw[hm' b hb,hm1 b hb]) hm2'
  have key:if Region.wanted o (yielded ops a.tmps)then o.wp P a w (wpOps P ops Q (List.range' (i+1) l.length)) Q else wpOps P ops Q (List.range' (i+1) l.length) (a.put o.dst undef) w:=by
    rcases hr with hr |⟨_,hr⟩ |⟨_,hr⟩
    · obtain⟨s1,hs,hk1⟩:=uG hr
      have hnb1:s1.nb=s.nb:=by
        obtain⟨_,b,_,hf,ht⟩:=hs
        cases b with
        |false=>rw[hf rfl];cases o.dst <;>rfl
        |true=>
         obtain⟨e,r,_,_,rfl⟩:=ht rfl;rw[hO];cases o.dst <;>rfl
      refine xO hL h (hμ i (Nat.le_refl _) (by omega)) hs (fun μ1 St1 a1 w1 hI1 hdf1 hm1=>fin s1 μ1 St1 a1 w1 hk1 hI1 hdf1 (by omega) (fun b hb=>hm1 b (by omega)) (fun j hj hj2=> ?_) (fun b hb=> ?_))
      · rw[hm1 _ (by omega)];exact hμ j (by omega) hj2
      · rw[hm1 _ (by omega)];exact hnb b (by rw[← hnb1];exact hb)
    · refine aNf hL h hnb hr (fun s1 μ1 St1 a1 w1 hk1 hI1 hdf1 hle hm1 hm2=>fin s1 μ1 St1 a1 w1 hk1 hI1 hdf1 (by omega) (fun b hb=>hm1 b (by omega)) (fun j hj hj2=> ?_) (fun b hb=>hm2 b (by omega)));rw[hm1 _ (by omega)];exact hμ j (by omega) hj2
    · refine aNg h (hμ i (Nat.le_refl _) (by omega)) hr (fun s1 μ1 a1 w1 hk1 hI1 hdf1 hnb1 hm1=>fin s1 μ1 St a1 w1 hk1 hI1 hdf1 (by omega) (fun b hb=>hm1 b (by omega)) (fun j hj hj2=> ?_) (fun b hb=> ?_))
      · rw[hm1 _ (by omega)];exact hμ j (by omega) hj2
      · rw[hm1 _ (by omega)];exact hnb b (by rw[← hnb1];exact hb)
  split
  · rename_i hw;rw[if_pos hw]at key;exact .inl key
  · rename_i hw;rw[if_neg hw]at key;exact key
def okOf (ops:Array Oper) (draw:Bool) (base i:Nat):Nat→Bool:=if draw then okD ops base i else fun _=>true
def exThen (n:LS→Prop) (Φ:Exit→LS→Prop):Exit→LS→Prop
 | .normal,s=>n s
 |e,s=>Φ e s
def exBlk (id:Nat) (Φ:Exit→LS→Prop):Exit→LS→Prop
 | .exit i,s=>if i=id then Φ .normal s else Φ (.exit i) s
 |e,s=>Φ e s
def zD (ops:Array Oper):Bool:=Nat.ble 1 ops.size && (List.range (ops.size-1)).all fun j=>(maskAt ops (ops.size-1)).testBit j
def lwp (P:Program) [Laid P] (na:Nat):Code→(Exit→LS→Prop)→LS→Prop
 | .skip,Φ,s=>Φ .normal s
 | .region _ ops draw,Φ,s=>((!draw ||aBa ops)=true∧lrun P (!draw) s.nb (okOf ops draw s.nb) ops 0 ops.toList s fun s'=>Φ .normal {s' with nb:=max s'.nb (s.nb+ops.size)})∨
   (draw=true∧aDt ops=true∧lrun P false s.nb (okX s.f ops s.nb) ops 0 ops.toList s fun s'=>Φ .normal {s' with nb:=max s'.nb (s.nb+ops.size)})∨
   (draw=true∧aBa ops=true∧zD ops=true∧lrun P false s.nb (okD ops s.nb) ops 0 (ops.toList.take (ops.size-1)) s fun s1=>lrun P true s.nb (fun _ _=>true) ops (ops.size-1) (ops.toList.drop (ops.size-1)) s1 fun s'=>Φ .normal {s' with nb:=max s'.nb (s.nb+ops.size)})
 | .seq a b,Φ,s=>lwp P na a (exThen (fun s'=>∃ t,(t=s'∨Sub na s' t)∧lwp P na b Φ t) Φ) s
 | .cond c x y,Φ,s=>∃ b,opnd s c= .lit (.bool b)∧(b=true→lwp P na x Φ s)∧(b=false→lwp P na y Φ s)
 | .block id c,Φ,s=>lwp P na c (exBlk id Φ) s
 | .loop c,Φ,s=>∃ (α:Type) (I:α→LS) (m:α→Nat) (x:α),(s=I x∨Sub na s (I x))∧∀ x,lwp P na c (exThen (fun s'=>∃ x',(s'=I x'∨Sub na s' (I x'))∧m x'<m x) Φ) (I x)
 | .exit id,Φ,s=>Φ (.exit id) s
 | .ret,Φ,s=>Φ .ret s
 |_,_,_=>False
theorem qT {P:Program}[Laid P] {mu:Bool}{base:Nat}{ok:Nat→Nat→Bool}{ops:Array Oper}{K K':LS→Prop}(hK:∀ s,K s→K' s):∀ (l:List Oper) (i:Nat) {s:LS},lrun P mu base ok ops i l s K→lrun P mu base ok ops i l s K'
 |[],i,s,h=>hK s h
 |o::l,i,s,h=>by
  have ih:∀ s,lrun P mu base ok ops (i+1) l s K→lrun P mu base ok ops (i+1) l s K':=fun s=>qT hK l (i+1)
  rcases h with⟨hd,h⟩ |⟨hm,h⟩ |⟨hm,h⟩
  · refine .inl ⟨hd,?_⟩;split at h
    · exact h
    · refine⟨fun hb=>ih _ (h.1 hb),fun hb=> ?_⟩;have h2:=h.2 hb;split at h2
      · exact h2
      · obtain⟨r,hr,hk⟩:=h2;exact⟨r,hr,ih _ hk⟩
      · exact ih _ h2
  · obtain⟨c,x,f,cs,d,r,h',nb',h1,h2,h3,h4,h5,h6,h7,h8,hk⟩:=h;exact .inr (.inl ⟨hm,c,x,f,cs,d,r,h',nb',h1,h2,h3,h4,h5,h6,h7,h8,ih _ hk⟩)
  · obtain⟨t,d,x,dd,b,n,e,z,by_,zl,k,m,news,h1,h2,h3,h4,h5,h6,h7,h8,h9,h10,h11,h12,h13,h14,h15,h16,h17,hB,hA⟩:=h;exact .inr (.inr ⟨hm,t,d,x,dd,b,n,e,z,by_,zl,k,m,news,h1,h2,h3,h4,h5,h6,h7,h8,h9,h10,h11,h12,h13,h14,h15,h16,h17,ih _ hB,ih _ hA⟩)
theorem iA {n n':LS→Prop}{Φ Φ':Exit→LS→Prop}(hn:∀ s,n s→n' s) (hΦ:∀ e s,Φ e s→Φ' e s):∀ e s,exThen n Φ e s→exThen n' Φ' e s:=by
 intro e s h
 cases e <;>first |exact hn s h |exact hΦ _ s h
theorem iB {P:Program}[Laid P] {na:Nat}:∀ (c:Code) {Φ Φ':Exit→LS→Prop}{s:LS},(∀ e s,Φ e s→Φ' e s)→lwp P na c Φ s→lwp P na c Φ' s
 | .skip,Φ,Φ',s,hΦ,h=>hΦ _ _ h
 | .region _ ops draw,Φ,Φ',s,hΦ,h=>by
   unfold lwp at h⊢;rcases h with⟨h1,h2⟩ |⟨h1,h2,h3⟩ |⟨h1,h2,h3,h4⟩
   · exact .inl ⟨h1,qT (fun _ h=>hΦ _ _ h) _ _ h2⟩
   · exact .inr (.inl ⟨h1,h2,qT (fun _ h=>hΦ _ _ h) _ _ h3⟩)
   · exact .inr (.inr ⟨h1,h2,h3,qT (fun _ h=>qT (fun _ h=>hΦ _ _ h) _ _ h) _ _ h4⟩)
 | .seq a b,Φ,Φ',s,hΦ,h=>iB a (iA (fun s ⟨t,ht,h⟩=>⟨t,ht,iB b hΦ h⟩) hΦ) h
 | .cond c x y,Φ,Φ',s,hΦ,⟨b,hb,h1,h2⟩=>⟨b,hb,fun h=>iB x hΦ (h1 h),fun h=>iB y hΦ (h2 h)⟩
 | .block id c,Φ,Φ',s,hΦ,h=>iB c (fun e s h=>by
   cases e
   case exit i=>
    simp only[exBlk]at h⊢;split
    ·rename_i hi;rw[if_pos hi]at h;exact hΦ _ _ h
    ·rename_i hi;rw[if_neg hi]at h;exact hΦ _ _ h
   all_goals exact hΦ _ _ h) h
 | .loop c,Φ,Φ',s,hΦ,⟨α,I,m,x,hs,h⟩=>⟨α,I,m,x,hs,fun x=>iB c (iA (fun _ h=>h) hΦ) (h x)⟩
 | .exit _,Φ,Φ',s,hΦ,h=>hΦ _ _ h
 | .ret,Φ,Φ',s,hΦ,h=>hΦ _ _ h
 | .rangeFunc _ _ _ _,_,_,_,_,h=>h.elim
 | .scope _,_,_,_,_,h=>h.elim
 | .label _,_,_,_,_,h=>h.elim
 | .goto _,_,_,_,_,h=>h.elim
 | .refuse _,_,_,_,_,h=>h.elim
def fP:Code→Bool
 | .region _ ops draw=> !draw ||aBa ops
 | .seq a b=>fP a && fP b
 | .cond _ x y=>fP x && fP y
 | .block _ c=>fP c
 | .loop c=>fP c
 |_=>true
theorem aCu {P:Program}[Laid P] {s:LS}{ops:Array Oper}{K:LS→Prop}(h:((!true ||aBa ops)=true∧lrun P (!true) s.nb (okOf ops true s.nb) ops 0 ops.toList s K)∨(true=true∧aDt ops=true∧lrun P false s.nb (okX s.f ops s.nb) ops 0 ops.toList s K)):
  ∃ okf:Nat→Nat→Bool,DrawFacts ops okf∧(∀ i b,okf i b=true→okD ops s.nb i b=true)∧lrun P false s.nb okf ops 0 ops.toList s K:=by
 rcases h with⟨hok,h⟩ |⟨_,hok,h⟩
 ·exact⟨okD ops s.nb,aBb (by simpa using hok),fun _ _ h=>h,h⟩
 ·exact⟨okX s.f ops s.nb,aQ7 hok,fun i b h=>by simp only[okX,Bool.and_eq_true]at h;exact h.1.1,h⟩
theorem Inv.nb_irrel {w0:World}{M St0:Nat→Prop}{s:LS}{μ:Nat→Option (Nat×Nat)}{St:Nat→Prop}{tm:Array Value}{w:World}(h:Inv w0 M St0 s μ St tm w) (k:Nat):Inv w0 M St0 {s with nb:=k} μ St tm w:=
 ⟨h.frame,h.sz,h.blk,h.inj,h.lt,h.st_lt,h.st0,h.os,h.tape,h.output,h.size,h.kept⟩
theorem Inv.drew {w0:World}{M St0:Nat→Prop}{s:LS}{μ:Nat→Option (Nat×Nat)}{St:Nat→Prop}{tm:Array Value}{w:World}(h:Inv w0 M St0 s μ St tm w):Inv w0 M St0 s μ St tm {w with drawn:=w.drawn+1}:=
 ⟨h.frame,h.sz,h.blk,h.inj,h.lt,h.st_lt,h.st0,h.os,h.tape,h.output,h.size,h.kept⟩
theorem bOg (s:LS) (id:Nat) (d:Option Nat) (e:Eff) (r:LV):(s.eff id d e r).nb=s.nb:=by
 rw[hO];cases d <;>rfl
theorem zE {P:Program}[Laid P] {base:Nat}{ok:Nat→Nat→Bool}{ops:Array Oper}:∀ (l:List Nat) {s s':LS},tV P base ok ops l s s'→s'.nb=s.nb
 |[],s,s',h=>by rw[show s=s' from h]
 |i::l,s,s',⟨o,s1,_,hs,hr⟩=>by
  rw[zE l hr];obtain⟨_,b,_,hf,ht⟩:=hs
  cases b with
  |false=>rw[hf rfl];cases o.dst <;>rfl
  |true=>
   obtain⟨e,r,_,_,rfl⟩:=ht rfl;exact bOg _ _ _ _ _
theorem uH {P:Program}[Laid P] {base:Nat}{ok:Nat→Nat→Bool}{ops:Array Oper}{K:LS→Prop}:∀ (l:List Oper) (i:Nat) {s:LS},(∀ j,j<l.length→l[j]? =ops[i+j]?)→lrun P false base ok ops i l s K→
  ∃ s',tV P base ok ops (List.range' i l.length) s s'∧K s'
 |[],i,s,_,h=>⟨s,rfl,h⟩
 |o::l,i,s,hl,h=>by
  obtain⟨s1,hs,hk⟩:=uG (h.resolve_right (by simp));obtain⟨s',hr,hk'⟩:=uH l (i+1) (fun j hj=>by have:=hl (j+1) (by simp;omega);simpa[Nat.add_assoc,Nat.add_comm 1 j]using this) hk;refine⟨s',?_,hk'⟩;rw[List.length_cons,List.range'_succ];exact⟨o,s1,by simpa using(hl 0 (by simp)).symm,hs,hr⟩
theorem xQ {P:Program}[Laid P] {w0:World}{M St0:Nat→Prop}{base:Nat}{ok:Nat→Nat→Bool}{ops:Array Oper}{Q:Exit→Act→World→Prop}(hL:fO P w0 M St0) {l2:List Nat}:
  ∀ (l:List Nat) {s s':LS}{μ:Nat→Option (Nat×Nat)}{St:Nat→Prop}{a:Act}{w:World},l.Nodup→tV P base ok ops l s s'→Inv w0 M St0 s μ St a.tmps w→(∀ i∈l,μ (base+i)=none)→
  (∀ μ' St' a' w',Inv w0 M St0 s' μ' St' a'.tmps w'→a'.defers=a.defers→(∀ b,(∀ i∈l,b≠base+i)→μ' b=μ b)→wpOps P ops Q l2 a' w')→wpOps P ops Q (l++l2) a w
 |[],s,s',μ,St,a,w,_,hr,h,_,hQ=>by
  simp only[tV]at hr;subst hr
  exact hQ μ St a w h rfl (fun _ _=>rfl)
 |i::rest,s,s',μ,St,a,w,hnd,hr,h,hμ,hQ=>by
  obtain⟨o,s1,ho,hs,hrest⟩:=hr;have hnd':=List.nodup_cons.1 hnd;rw[List.cons_append];unfold wpOps;simp only[ho]
  have key:=xO (Q:=Q) (K:=wpOps P ops Q (rest++l2)) hL h (hμ i (by simp)) hs (fun μ' St' a' w' hI hdf hm=>
    xQ hL rest hnd'.2 hrest hI (fun j hj=>by
        have hne:base+j≠base+i:=fun e=>by
          have hji:j=i:=by omega
          exact hnd'.1 (hji ▸ hj)
        rw[hm _ hne]
        exact hμ j (by simp[hj]))
      (fun μ'' St'' a'' w'' hI' hdf' hm'=>hQ μ'' St'' a'' w'' hI' (hdf'.trans hdf) (fun b hb=>by rw[hm' b (fun j hj=>hb j (by simp[hj])),hm b (hb i (by simp))])))
  split
  · rename_i hw;rw[if_pos hw]at key;exact .inl key
  · rename_i hw;rw[if_neg hw]at key;exact key
theorem fR {P:Program}[Laid P] (hmix:P.follows .mixedOrders=true) {w0:World}{M St0:Nat→Prop}(hL:fO P w0 M St0) {na:Nat}{A:Nat→Option (Nat×Nat)}:∀ (c:Code) {Φ:Exit→LS→Prop}{s:LS}{a:Act}{w:World}{Q:Exit→Act→World→Prop},
  lwp P na c Φ s→na≤s.nb→eT na A w0 M St0 s a w→(∀ e s' a' w',Φ e s'→na≤s'.nb→eT na A w0 M St0 s' a' w'→Q e a' w')→c.wp P Q a w
 | .skip,Φ,s,a,w,Q,h,hn,hs,hQ=>wp_skip (hQ _ _ _ _ h hn hs)
 | .region id ops draw,Φ,s,a,w,Q,h,hn,hs,hQ=>by
   obtain⟨hdef,μ,St,hI,hnb,hμA⟩:=hs;unfold lwp at h
   cases draw with
   |false=>
    have h:lrun P true s.nb (okOf ops false s.nb) ops 0 ops.toList s fun s'=>Φ .normal {s' with nb:=max s'.nb (s.nb+ops.size)}:=by
      rcases h with⟨_,h⟩ |⟨h,_⟩ |⟨h,_⟩
      · exact h
      · cases h
      · cases h
    refine wp_region ?_;have:=lS hL (Q:=Q) ops.toList 0 (by simp) (by simp) h hI (Nat.le_refl _) (fun j _ _=>hnb _ (by omega)) (fun b hb=>hnb _ (by omega)) (fun s' μ' St' a' w' hΦ hI' hdf hle hm hm2=> ?_)
    · rw[Array.length_toList,← List.range_eq_range']at this
      exact this
    · exact hQ _ _ _ _ hΦ (by simp only;omega) ⟨hdf.trans hdef,μ',St',hI'.nb_irrel _,hm2,fun b hb=>by rw[hm b (by omega)];exact hμA b hb⟩
   |true=>
    rcases or_assoc.2 h with h |⟨_,hok,hla,h⟩
    rotate_left
    · have hsz:1≤ops.size∧∀ j,j<ops.size-1→(maskAt ops (ops.size-1)).testBit j=true:=by
        unfold zD at hla;rw[Bool.and_eq_true,Nat.ble_eq,List.all_eq_true]at hla
        exact⟨hla.1,fun j hj=>hla.2 j (List.mem_range.2 hj)⟩
      obtain⟨last,hz⟩:∃ last,ops.size=last+1:=⟨ops.size-1,by omega⟩;have hzl:ops.size-1=last:=by omega
      rw[hzl]at h hsz
      have htl:(ops.toList.take last).length=last:=by rw[List.length_take,Array.length_toList];omega
      obtain⟨s1,hr,h⟩:=uH (ops.toList.take last) 0 (fun j hj=>by
        rw[htl]at hj
        rw[List.getElem?_take_of_lt hj,Nat.zero_add]
        simp) h
      rw[htl,← List.range_eq_range']at hr
      refine wp_region_draw fun t=> ?_
      rw[hmix];obtain⟨L,hL,hnd,hlt,hrun⟩:=aIo (P:=P) (base:=s.nb) (aBb hok) (fun _ _ h=>h) hz hsz.2 hr t;rw[hL];have hnb1:=zE _ hr;refine xQ ‹_› L hnd hrun hI.drew (fun i _=>hnb _ (by omega)) ?_;intro μ' St' a' w' hI' hdf hm
      have:=lS ‹fO P w0 M St0› (Q:=Q) (ops.toList.drop last) last (fun j=>by simp) (by simp;omega) h hI' (by omega)
        (fun j _ _=>by rw[hm _ (fun i hi=>by have:=hlt i hi;omega)];exact hnb _ (by omega))
        (fun b hb=>by rw[hm _ (fun i hi=>by have:=hlt i hi;omega)];exact hnb _ (by omega))
        (fun s' μ'' St'' a'' w'' hΦ hI'' hdf'' hle hm1 hm2=>hQ _ _ _ _ hΦ (by simp only;omega) ⟨hdf''.trans (hdf.trans hdef),μ'',St'',hI''.nb_irrel _,hm2,fun b hb=>by rw[hm1 b (by omega),hm b (fun i hi=>by omega)];exact hμA b hb⟩)
      rw[show(ops.toList.drop last).length=1 by simp;omega]at this
      exact this
    obtain⟨okf,hfa,hle,h⟩:=aCu h;obtain⟨s',hr,hΦ⟩:=xP ops.toList 0 (by simp) h;rw[Array.length_toList,← List.range_eq_range']at hr
    refine wp_region_draw fun t=> ?_
    rw[hmix];obtain⟨hnd,hlt,hrun⟩:=aIn (P:=P) (base:=s.nb) hfa hle hr t;have hnb':=zE _ hr;refine aA9 hL _ hnd hrun hI.drew (fun i _=>hnb _ (by omega)) ?_;intro μ' St' a' w' hI' hdf hm
    exact hQ _ _ _ _ hΦ (by simp only;omega) ⟨hdf.trans hdef,μ',St',hI'.nb_irrel _,fun b hb=>by
        simp only at hb
        rw[hm b (fun i hi=>by have:=hlt i hi;omega)];exact hnb b (by omega),
      fun b hb=>by rw[hm b (fun i hi=>by omega)];exact hμA b hb⟩
 | .seq x y,Φ,s,a,w,Q,h,hn,hs,hQ=>by
   unfold lwp at h;refine wp_seq (fR hmix hL x h hn hs fun e s' a' w' he hn' hs'=> ?_)
   cases e with
   |normal=>
    obtain⟨t,ht,he⟩:=he;rcases ht with rfl |ht
    · exact fR hmix hL y he hn' hs' hQ
    · exact fR hmix hL y he ht.na_le (hs'.sub ht) hQ
   |_=>exact hQ _ _ _ _ he hn' hs'
 | .cond c x y,Φ,s,a,w,Q,h,hn,hs,hQ=>by
   unfold lwp at h;obtain⟨b,hb,h⟩:=h;obtain⟨_,μ,St,hI,_⟩:=id hs;have hc:=hI.opnd c;rw[hb]at hc
   have hce:a.eval c= .bool b:=by generalize a.eval c=q at hc;cases hc;rfl
   cases b with
   |true=>exact wp_cond_true hce (fR hmix hL x (h.1 rfl) hn hs hQ)
   |false=>exact wp_cond_false hce (fR hmix hL y (h.2 rfl) hn hs hQ)
 | .block id c,Φ,s,a,w,Q,h,hn,hs,hQ=>by
   unfold lwp at h;refine wp_block (fR hmix hL c h hn hs fun e s' a' w' he hn' hs'=> ?_)
   cases e with
   |exit i=>
    simp only[exBlk]at he;simp only[Exit.inBlock];split
    · rename_i hi;rw[if_pos hi]at he;exact hQ _ _ _ _ he hn' hs'
    · rename_i hi;rw[if_neg hi]at he;exact hQ _ _ _ _ he hn' hs'
   |_=>exact hQ _ _ _ _ he hn' hs'
 | .loop c,Φ,s,a,w,Q,h,hn,hs,hQ=>by
   unfold lwp at h;obtain⟨α,I,m,x,hsub,hround⟩:=h
   have key:∀ (n:Nat) (x:α) (a:Act) (w:World),m x≤n→na≤(I x).nb→eT na A w0 M St0 (I x) a w→(Code.loop c).wp P Q a w:=by
     intro n x a w hn hnx hx;refine wp_loop (fun a w=>∃ x,na≤(I x).nb∧eT na A w0 M St0 (I x) a w) (fun a w=>Classical.epsilon fun k=>(∃ x,(na≤(I x).nb∧eT na A w0 M St0 (I x) a w)∧m x=k)∧∀ k',(∃ x,(na≤(I x).nb∧eT na A w0 M St0 (I x) a w)∧m x=k')→k≤k') ⟨x,hnx,hx⟩ ?_;rintro a w ⟨x0,hx0⟩
     have least:∀ (a:Act) (w:World),(∃ x,na≤(I x).nb∧eT na A w0 M St0 (I x) a w)→∃ k,(∃ x,(na≤(I x).nb∧eT na A w0 M St0 (I x) a w)∧m x=k)∧∀ k',(∃ x,(na≤(I x).nb∧eT na A w0 M St0 (I x) a w)∧m x=k')→k≤k':=by
       rintro a w ⟨x,hx⟩
       have:∀ (n:Nat) (x:α),m x=n→(na≤(I x).nb∧eT na A w0 M St0 (I x) a w)→∃ k,(∃ x,(na≤(I x).nb∧eT na A w0 M St0 (I x) a w)∧m x=k)∧∀ k',(∃ x,(na≤(I x).nb∧eT na A w0 M St0 (I x) a w)∧m x=k')→k≤k':=by
         intro n
         induction n using Nat.strongRecOn with
         |_ n ih=>
          intro x hm hx;by_cases hlt:∃ x',(na≤(I x').nb∧eT na A w0 M St0 (I x') a w)∧m x'<n
          · obtain⟨x',hx',hl⟩:=hlt;exact ih _ hl x' rfl hx'
          · refine⟨n,⟨x,hx,hm⟩,?_⟩;rintro k' ⟨x',hx',rfl⟩;exact Nat.le_of_not_lt fun hl=>hlt ⟨x',hx',hl⟩
       exact this _ x rfl hx
     obtain⟨⟨x,hx,hmx⟩,hleast⟩:=Classical.epsilon_spec (least a w ⟨x0,hx0⟩);refine fR hmix hL c (hround x) hx.1 hx.2 fun e s' a' w' he hn' hs'=> ?_
     cases e with
     |normal=>
      obtain⟨x',hsub',hlt⟩:=he
      have hx':na≤(I x').nb∧eT na A w0 M St0 (I x') a' w':=by
        rcases hsub' with rfl |hsub'
        · exact⟨hn',hs'⟩
        · exact⟨hsub'.na_le,hs'.sub hsub'⟩
      refine⟨⟨x',hx'⟩,?_⟩;have h2:=(Classical.epsilon_spec (least a' w' ⟨x',hx'⟩)).2 _ ⟨x',hx',rfl⟩;rw[← hmx]
      exact Nat.lt_of_le_of_lt h2 hlt
     |_=>exact hQ _ _ _ _ he hn' hs'
   rcases hsub with rfl |hsub
   · exact key _ x a w (Nat.le_refl _) hn hs
   · exact key _ x a w (Nat.le_refl _) hsub.na_le (hs.sub hsub)
 | .exit id,Φ,s,a,w,Q,h,hn,hs,hQ=>wp_exit (hQ _ _ _ _ h hn hs)
 | .ret,Φ,s,a,w,Q,h,hn,hs,hQ=>wp_ret (hQ _ _ _ _ h hn hs)
 | .rangeFunc _ _ _ _,Φ,s,a,w,Q,h,_,_,_=>h.elim
 | .scope _,Φ,s,a,w,Q,h,_,_,_=>h.elim
 | .label _,Φ,s,a,w,Q,h,_,_,_=>h.elim
 | .goto _,Φ,s,a,w,Q,h,_,_,_=>h.elim
 | .refuse _,Φ,s,a,w,Q,h,_,_,_=>h.elim
def rO (P:Program) (s:LS):ResultVar→Option LV
 | .tmp t=>some (s.f t)
 | .cell a t=>mN P (fun _=>true) s t (s.f a)
def rOs (P:Program) (s:LS):List ResultVar→Option (List LV)
 |[]=>some []
 |r::rs=>match rO P s r,rOs P s rs with
  |some x,some xs=>some (x::xs)
  |_,_=>none
def fF (P:Program) (rs:List ResultVar) (s:LS):Option LV:=
 match rs with
 |[r]=>rO P s r
 |rs=>(rOs P s rs).map .tup
def rF (tm:Array Value):ResultVar→Sem Value
 | .tmp t=>pure (tm.getD t undef)
 | .cell a t=>do loadVar t (← asAddr (tm.getD a undef))
theorem aQ9 (fn:Func) (tm:Array Value):results fn tm=(do let vs ← fn.results.mapM (rF tm);pure (if h:vs.size=1 then vs[0]else .tuple vs)):=by
 unfold results;congr 1
section
variable {P:Program}[Laid P] {fn:Func}{w0:World}{M St0:Nat→Prop}{s:LS}{μ:Nat→Option (Nat×Nat)}{St:Nat→Prop}{a:Act}{w:World}
theorem aNh (h:Inv w0 M St0 s μ St a.tmps w):∀ (r:ResultVar) {x:LV},rO P s r=some x→∃ v,(rF a.tmps r).run P w= .ok v w∧Rep St w.heap μ x v
 | .tmp t,x,hx=>by cases hx;exact⟨_,rfl,h.frame t⟩
 | .cell b t,x,hx=>by
   simp only[rO]at hx;obtain⟨u,hrun,hu⟩:=h.load (h.frame b) hx;refine⟨u,?_,hu⟩;simp only[rF];generalize a.tmps.getD b undef=q at hrun⊢
   cases q with
   |pointer p=>
    cases p with
    |some p=>simpa[Instr.loadAt,Instr.sureAddr,asAddr]using hrun
    |none=>simp[Instr.loadAt,Instr.sureAddr,stuck,Sem.run]at hrun
   |_=>simp[Instr.loadAt,Instr.sureAddr,stuck,Sem.run]at hrun
theorem aIp (h:Inv w0 M St0 s μ St a.tmps w):∀ (l:List ResultVar) {xs:List LV},rOs P s l=some xs→l.length=xs.length∧∃ vs,(l.mapM (rF a.tmps)).run P w= .ok vs w∧Reps St w.heap μ xs vs
 |[],xs,hx=>by simp only[rOs,Option.some.injEq]at hx;subst hx;exact⟨rfl,[],rfl,Reps.nil⟩
 |r::l,xs,hx=>by
  unfold rOs at hx;split at hx
  · rename_i x ys hx1 hys
    cases hx
    obtain⟨hl,vs,hvs,hR⟩:=aIp h l hys;obtain⟨v,hv,hV⟩:=aNh h r hx1;refine⟨by simp[hl],v::vs,?_,hR.cons hV⟩;rw[List.mapM_cons];simp[hv,hvs]
  · cases hx
theorem qU {x:LV}(h:Inv w0 M St0 s μ St a.tmps w) (hr:fF P fn.results.toList s=some x):
  ∃ v,(results fn a.tmps).run P w= .ok v w∧Rep St w.heap μ x v:=by
 rw[aQ9,Array.mapM_eq_mapM_toList];unfold fF at hr;split at hr
 ·rename_i r hrl;obtain⟨v,hv,hV⟩:=aNh h r hr;refine⟨v,?_,hV⟩;rw[hrl];simp[hv]
 ·rename_i rs hrs
  cases hf:rOs P s fn.results.toList with
  |none=>rw[hf]at hr;simp at hr
  |some xs=>
   rw[hf]at hr
   simp only[Option.map_some,Option.some.injEq]at hr;subst hr;obtain⟨hl,vs,hvs,hR⟩:=aIp h _ hf;refine⟨.tuple vs.toArray,?_,.tup hR.1 hR.2⟩
   have hlen:vs.length≠1:=by
     intro h1;have:fn.results.toList.length=1:=by rw[hl,hR.1,h1]
     match hl':fn.results.toList,this with
     |[r],_=>exact hrs r hl'
   simp[hvs,hlen]
end
def goodPost (P:Program) (rs:List ResultVar) (r:LV):Exit→LS→Prop
 | .ret,s=>∃ x F,fF P rs s=some x∧pv s.h (fun _=>true) 6 x=some (r,F)
 | .normal,s=>∃ x F,fF P rs s=some x∧pv s.h (fun _=>true) 6 x=some (r,F)
 |_,_=>False
theorem aA {P:Program}[Laid P] (hmix:P.follows .mixedOrders=true) {f:FuncId}{fn:Func}{c:Code}{args:List LV}{r:LV}(hf:P.funcs[f]? =some fn) (hb:fn.body=some c) (hname:fn.name≠ "runtime.NumGoroutine")
  {nt:Nat}(hnt:fn.ntmps=nt) {rs:List ResultVar}(hrs:fn.results.toList=rs) (hn:args.length≤nt)
  (h:lwp P 0 c (goodPost P rs r) ⟨nt,fun i=>args.getD i .dead,fun _=>none,0⟩):cU P f args r:=by
 subst hnt hrs;refine⟨⟨fn,hf,hname,by rw[hb];rfl⟩,fun w St vs hSt hLd hr=> ?_⟩;refine calls_of_wp hf hb (fR hmix (A:=fun _=>none) (na:=0) (w0:=w) (M:=fun _=>False) (St0:=St) (fO.of hLd fun g hg=>⟨fun h=>h,hSt _ hg⟩) c h (Nat.zero_le _) ?_ ?_)
 ·refine⟨rfl,fun _=>none,St,⟨fun i=> ?_,?_,by simp,by simp,by simp,fun g hg=>⟨hSt g hg,.inl hg⟩,fun _ h=>h,rfl,rfl,rfl,Nat.le_refl _,fun _ _ _=>rfl⟩,fun _ _=>rfl,by simp⟩
  ·simp only[List.getD_eq_getElem?_getD,Array.getD_eq_getD_getElem?]
   cases hc:args[i]? with
   |none=>exact .dead _
   |some x=>
    have hlt:i<args.length:=(List.getElem?_eq_some_iff.1 hc).1;have hlt2:i<vs.length:=by have:=hr.1;omega
    have hu:vs[i]? =some vs[i]:=List.getElem?_eq_getElem hlt2
    have:(vs.toArray++Array.replicate (fn.ntmps-vs.toArray.size) undef)[i]? =some vs[i]:=by
      rw[Array.getElem?_append_left (by simpa using hlt2)];simpa using hu
    rw[this];exact hr.2 i x vs[i] hc hu
  ·have:=hr.1;simp;omega
 ·intro e s' a' w' he _ hs';obtain⟨hdf,μ,St',hI,_⟩:=hs'
  have fin:(∃ x F,fF P fn.results.toList s'=some x∧pv s'.h (fun _=>true) 6 x=some (r,F))→bodyPost P fn (fun e w'=>∃ v St',e= .returned v∧Rep St' w'.heap (fun _=>none) r v∧(∀ g,St g→St' g)∧(∀ g,St' g→g<w'.heap.size∧(St g∨w.heap.size≤g))∧
    w'.os=w.os∧w'.tape=w.tape∧w'.output=w.output∧w.heap.size≤w'.heap.size∧∀ g,g<w.heap.size→w'.heap[g]? =w.heap[g]?) .ret a' w':=by
   rintro⟨x,F,hx,hp⟩;obtain⟨v,hv,hV⟩:=qU hI hx;obtain⟨hR,hF⟩:=qR hI 6 x r F v hp hV;have hfr:=hI.freeze F hF;refine⟨hdf,v,hv,v,yZ μ St' F,rfl,hR,fun g hg=>hfr.st0 g hg,fun g hg=> ?_,hI.os,hI.tape,hI.output,hI.size,fun g hg=>hI.kept g hg (fun h=>h)⟩;obtain⟨h1,h2⟩:=hfr.st_lt g hg;exact⟨h1,h2.imp id (fun h=>h.resolve_left (fun h=>h))⟩
  cases e with
  |ret=>exact fin he
  |normal=>exact fin he
  |_=>exact he.elim
def mutPost (P:Program) (rs:List ResultVar) (r:LV) (ty:TypeId) (cells:List LV):Exit→LS→Prop
 | .ret,s=>∃ x F,fF P rs s=some x∧pv s.h (fun b=>b !=0) 6 x=some (r,F)∧s.h 0=some ⟨ty,cells,false⟩
 | .normal,s=>∃ x F,fF P rs s=some x∧pv s.h (fun b=>b !=0) 6 x=some (r,F)∧s.h 0=some ⟨ty,cells,false⟩
 |_,_=>False
theorem aRa {P:Program}[Laid P] (hmix:P.follows .mixedOrders=true) {f:FuncId}{fn:Func}{c:Code}{args:List LV}{r:LV}{ty:TypeId}{cells cells':List LV}(hf:P.funcs[f]? =some fn) (hb:fn.body=some c) (hname:fn.name≠ "runtime.NumGoroutine")
  {nt:Nat}(hnt:fn.ntmps=nt) {rs:List ResultVar}(hrs:fn.results.toList=rs) (hn:args.length≤nt) (hpl:∀ c∈cells,aB c=true) (hpl':∀ c∈cells',aB c=true)
  (h:lwp P 1 c (mutPost P rs r ty cells') ⟨nt,fun i=>args.getD i .dead,fun b=>if b=0 then some ⟨ty,cells,false⟩else none,1⟩):zC P f args ty cells r cells':=by
 subst hnt hrs;refine⟨⟨fn,hf,hname,by rw[hb];rfl⟩,fun w St g R cs vs hSt hLd hnS hg hsz hle hrc h1 hr=> ?_⟩;have hglt:g<w.heap.size:=(Array.getElem?_eq_some_iff.1 hg).1;refine calls_of_wp hf hb (fR hmix (A:=fun _=>some (g,R)) (na:=1) (w0:=w) (M:=fun g'=>g'=g) (St0:=St) (fO.of hLd fun g' hg=>⟨fun e=>hnS (e ▸ hg),hSt _ hg⟩) c h (Nat.le_refl _) ?_ ?_)
 ·refine⟨rfl,fun b=>if b<1 then some (g,R)else none,St,⟨fun i=> ?_,?_,?_,?_,?_,fun g hg=>⟨hSt g hg,.inl hg⟩,fun _ h=>h,rfl,rfl,rfl,Nat.le_refl _,fun _ _ _=>rfl⟩,fun b hb=>if_neg (Nat.not_lt.2 hb),fun b hb=>if_pos hb⟩
  ·simp only[List.getD_eq_getElem?_getD,Array.getD_eq_getD_getElem?]
   cases hc:args[i]? with
   |none=>exact .dead _
   |some x=>
    have hlt:i<args.length:=(List.getElem?_eq_some_iff.1 hc).1;have hlt2:i<vs.length:=by have:=hr.1;omega
    have hu:vs[i]? =some vs[i]:=List.getElem?_eq_getElem hlt2
    have:(vs.toArray++Array.replicate (fn.ntmps-vs.toArray.size) undef)[i]? =some vs[i]:=by
      rw[Array.getElem?_append_left (by simpa using hlt2)];simpa using hu
    rw[this];exact hr.2 i x vs[i] hc hu
  ·have:=hr.1;simp;omega
  ·intro b k hk
   (try simp only at hk)
   split at hk
   ·rename_i hb0
    cases hk
    subst hb0;exact⟨g,R,cs,by simp,hg,hsz,by rw[hsz];exact hle,fE hpl hrc,h1,by simp,fun _=>hnS⟩
   ·cases hk
  ·intro b b' k k' g1 R1 R2 hk hk' _ _
   (try simp only at hk hk')
   split at hk
   ·split at hk'
    ·omega
    ·cases hk'
   ·cases hk
  ·intro b g1 R1 hm
   (try simp only at hm)
   split at hm
   ·cases hm;exact⟨hglt,.inl rfl⟩
   ·cases hm
 ·intro e s' a' w' he _ hs';obtain⟨hdf,μ,St',hI,_,hμA⟩:=hs';have hμ0:=hμA 0 (by omega)
  have fin:(∃ x F,fF P fn.results.toList s'=some x∧pv s'.h (fun b=>b !=0) 6 x=some (r,F)∧s'.h 0=some ⟨ty,cells',false⟩)→bodyPost P fn (fun e w'=>∃ v St' cs',e= .returned v∧Rep St' w'.heap (fun _=>none) r v∧(∀ g,St g→St' g)∧(∀ g,St' g→g<w'.heap.size∧(St g∨w.heap.size≤g))∧
    w'.os=w.os∧w'.tape=w.tape∧w'.output=w.output∧w.heap.size≤w'.heap.size∧(∀ g',g'<w.heap.size→g'≠g→w'.heap[g']? =w.heap[g']?)∧
    w'.heap[g]? =some (.cells cs' ty (0,0))∧cs'.size=R∧cells'.length≤R∧Reps St' w'.heap (fun _=>none) cells' (cs'.toList.take cells'.length)∧(∀ u∈cs'.toList.take cells'.length,u.oneCell'=true)) .ret a' w':=by
   rintro⟨x,F,hx,hp,h0⟩;obtain⟨v,hv,hV⟩:=qU hI hx;obtain⟨hR,hF⟩:=qR hI 6 x r F v hp hV;have h0F:0∉F:=fun hh=>by have:=bAz (ok:=fun b=>b !=0) 6 x r F hp 0 hh;simp at this
   have hfr:=hI.freeze F hF;have hfb:bY s'.h F 0=some ⟨ty,cells',false⟩:=by simp[bY,h0,h0F]
   obtain⟨g2,R2,cs2,hm2,hg2,hcs2,hle2,hr2,ho2,_,hn2⟩:=hfr.blk 0 _ hfb;rw[hμ0]at hm2
   cases hm2
   have hng:=hn2 rfl;refine⟨hdf,v,hv,v,yZ μ St' F,cs2,rfl,hR,fun g hg=>hfr.st0 g hg,fun g' hg'=> ?_,hI.os,hI.tape,hI.output,hI.size,fun g' hg' hne=>hI.kept g' hg' hne,hg2,hcs2,by rw[← hcs2];exact hle2,fE hpl' hr2,ho2⟩;obtain⟨h1,h2⟩:=hfr.st_lt g' hg';refine⟨h1,?_⟩;rcases h2 with h2 |h2 |h2
   ·exact .inl h2
   ·exact absurd (h2 ▸ hg') hng
   ·exact .inr h2
  cases e with
  |ret=>exact fin he
  |normal=>exact fin he
  |_=>exact he.elim
def aNi (P:Program) (rs:List ResultVar) (r:LV) (h':Nat→Option Blk) (nb':Nat):Exit→LS→Prop
 | .ret,s=>fF P rs s=some r∧s.h=h'∧s.nb≤nb'
 | .normal,s=>fF P rs s=some r∧s.h=h'∧s.nb≤nb'
 |_,_=>False
theorem lT {P:Program}[Laid P] (hmix:P.follows .mixedOrders=true) {f:FuncId}{fn:Func}{c:Code}{args:List LV}{r:LV}{h0 h':Nat→Option Blk}{nb nb':Nat}(hf:P.funcs[f]? =some fn) (hb:fn.body=some c) (hname:fn.name≠ "runtime.NumGoroutine")
  {nt:Nat}(hnt:fn.ntmps=nt) {rs:List ResultVar}(hrs:fn.results.toList=rs) (hn:args.length≤nt)
  (h:lwp P nb c (aNi P rs r h' nb') ⟨nt,fun i=>args.getD i .dead,h0,nb⟩):mP P f args h0 nb r h' nb':=by
 subst hnt hrs;refine⟨⟨fn,hf,hname,by rw[hb];rfl⟩,fun w0 M St0 μ St w vs hL hI0 hnb hr=> ?_⟩;have hL':fO P w (fun g=>(∃ b R,μ b=some (g,R))∧¬St g) St:=fO.of (hI0.laid hL) fun g hg=>⟨fun h=>h.2 hg,(hI0.st_lt _ hg).1⟩
 refine calls_of_wp hf hb (fR hmix (A:=μ) (na:=nb) (w0:=w) (M:=fun g=>(∃ b R,μ b=some (g,R))∧¬St g) (St0:=St) hL' c h (Nat.le_refl _) ?_ ?_)
 ·refine⟨rfl,μ,St,⟨fun i=> ?_,?_,hI0.blk,hI0.inj,fun b g R hm=>⟨(hI0.lt b g R hm).1,?_⟩,fun g hg=>⟨(hI0.st_lt g hg).1,.inl hg⟩,fun _ h=>h,rfl,rfl,rfl,Nat.le_refl _,fun _ _ _=>rfl⟩,hnb,fun _ _=>rfl⟩
  ·simp only[List.getD_eq_getElem?_getD,Array.getD_eq_getD_getElem?]
   cases hc:args[i]? with
   |none=>exact .dead _
   |some x=>
    have hlt:i<args.length:=(List.getElem?_eq_some_iff.1 hc).1;have hlt2:i<vs.length:=by have:=hr.1;omega
    have hu:vs[i]? =some vs[i]:=List.getElem?_eq_getElem hlt2
    have:(vs.toArray++Array.replicate (fn.ntmps-vs.toArray.size) undef)[i]? =some vs[i]:=by
      rw[Array.getElem?_append_left (by simpa using hlt2)];simpa using hu
    rw[this];exact hr.2 i x vs[i] hc hu
  ·have:=hr.1;simp;omega
  ·by_cases hs:St g
   ·exact .inr (.inr hs)
   ·exact .inl ⟨⟨b,R,hm⟩,hs⟩
 ·intro e s' a' w' he _ hs';obtain⟨hdf,μ',St',hI,hnb',hμA⟩:=hs'
  have fin:(fF P fn.results.toList s'=some r∧s'.h=h'∧s'.nb≤nb')→bodyPost P fn (fun e w'=>∃ v μ' St',e= .returned v∧Inv w0 M St0 ⟨0,fun _=> .dead,h',0⟩ μ' St' #[] w'∧Rep St' w'.heap μ' r v∧(∀ b,b<nb→μ' b=μ b)∧(∀ b,nb'≤b→μ' b=none)∧(∀ g,St g→St' g)∧(∀ g,St g→w'.heap[g]? =w.heap[g]?)) .ret a' w':=by
   rintro⟨hx,rfl,hle⟩;obtain⟨v,hv,hV⟩:=qU hI hx;have hkeep:∀ g,St g→w'.heap[g]? =w.heap[g]? :=fun g hg=>hI.kept g (hI0.st_lt g hg).1 (fun h=>h.2 hg)
   refine⟨hdf,v,hv,v,μ',St',rfl,⟨fun _=> .dead _,rfl,hI.blk,hI.inj,fun b g R hm=>⟨(hI.lt b g R hm).1,?_⟩,fun g hg=>⟨(hI.st_lt g hg).1,?_⟩,fun g hg=>hI.st0 g (hI0.st0 g hg),hI.os.trans hI0.os,hI.tape.trans hI0.tape,hI.output.trans hI0.output,Nat.le_trans hI0.size hI.size,fun g hlt hM=> ?_⟩,hV,hμA,fun b hb=>hnb' b (by omega),fun g hg=>hI.st0 g hg,hkeep⟩
   ·rcases(hI.lt b g R hm).2 with⟨⟨b1,R1,hh⟩,hns⟩ |hh |hh
    ·rcases(hI0.lt _ _ _ hh).2 with h1 |h1 |h1
     ·exact .inl h1
     ·exact .inr (.inl h1)
     ·exact .inr (.inr (hI.st0 g h1))
    ·exact .inr (.inl (Nat.le_trans hI0.size hh))
    ·exact .inr (.inr hh)
   ·rcases(hI.st_lt g hg).2 with hh |⟨⟨b1,R1,hh⟩,hns⟩ |hh
    ·exact(hI0.st_lt g hh).2
    ·rcases(hI0.lt _ _ _ hh).2 with h1 |h1 |h1
     ·exact .inr (.inl h1)
     ·exact .inr (.inr h1)
     ·exact absurd h1 hns
    ·exact .inr (.inr (Nat.le_trans hI0.size hh))
   ·rw[hI.kept g (Nat.lt_of_lt_of_le hlt hI0.size) (fun h=> ?_)]
    ·exact hI0.kept g hlt hM
    ·obtain⟨⟨b1,R1,hh⟩,hns⟩:=h;rcases(hI0.lt _ _ _ hh).2 with h1 |h1 |h1
     ·exact hM h1
     ·omega
     ·exact hns h1
  cases e with
  |ret=>exact fin he
  |normal=>exact fin he
  |_=>exact he.elim
end
section
open Go
section
variable {P:Program}[Laid P] {na:Nat}{Φ:Exit→LS→Prop}{s:LS}
theorem bOh (h:Φ .normal s):lwp P na .skip Φ s:=h
theorem bOi {id:Nat}(h:Φ (.exit id) s):lwp P na (.exit id) Φ s:=h
theorem bXn (h:Φ .ret s):lwp P na .ret Φ s:=h
theorem aUh {a b:Code}(h:lwp P na a (exThen (lwp P na b Φ) Φ) s):lwp P na (.seq a b) Φ s:=by
 unfold lwp;exact iB a (iA (fun s h=>⟨s,.inl rfl,h⟩) (fun _ _ h=>h)) h
theorem aEu {a b:Code}{α:Type}(J:α→LS) (h1:lwp P na a (exThen (fun s'=>∃ x,Sub na s' (J x)) Φ) s) (h2:∀ x,lwp P na b Φ (J x)):lwp P na (.seq a b) Φ s:=by
 unfold lwp;exact iB a (iA (fun s ⟨x,hx⟩=>⟨J x,.inr hx,h2 x⟩) (fun _ _ h=>h)) h1
theorem aEv {id:Nat}{c b:Code}(h:False):lwp P na (.seq (.block id (.loop c)) b) Φ s:=h.elim
theorem vY {id:Nat}{c:Code}(h:lwp P na c (exBlk id Φ) s):lwp P na (.block id c) Φ s:=h
theorem bOj {c:Operand}{x y:Code}(hc:opnd s c= .lit (.bool true)) (h:lwp P na x Φ s):lwp P na (.cond c x y) Φ s:=⟨true,hc,fun _=>h,by simp⟩
theorem bH0 {c:Operand}{x y:Code}(hc:opnd s c= .lit (.bool false)) (h:lwp P na y Φ s):lwp P na (.cond c x y) Φ s:=⟨false,hc,by simp,fun _=>h⟩
theorem aG {c:Code}{α:Type}(I:α→LS) (m:α→Nat) (x:α) (h0:Sub na s (I x)) (h:∀ x,lwp P na c (exThen (fun s'=>∃ x',Sub na s' (I x')∧m x'<m x) Φ) (I x)):lwp P na (.loop c) Φ s:=⟨α,I,m,x,.inr h0,fun x=>iB c (iA (fun _ ⟨x',h1,h2⟩=>⟨x',.inr h1,h2⟩) (fun _ _ h=>h)) (h x)⟩
theorem bOk {n:LS→Prop}(h:n s):exThen n Φ .normal s:=h
theorem aNj {n:LS→Prop}{i:Nat}(h:Φ (.exit i) s):exThen n Φ (.exit i) s:=h
theorem aRb {n:LS→Prop}(h:Φ .ret s):exThen n Φ .ret s:=h
theorem bM5 {id:Nat}(h:Φ .normal s):exBlk id Φ .normal s:=h
theorem aXw {id:Nat}(h:Φ .ret s):exBlk id Φ .ret s:=h
theorem aRc {id:Nat}(h:Φ .normal s):exBlk id Φ (.exit id) s:=by simp only[exBlk,if_true];exact h
theorem bA4 {id i:Nat}(hi:i≠id) (h:Φ (.exit i) s):exBlk id Φ (.exit i) s:=by simp only[exBlk,if_neg hi];exact h
end
theorem aRd {P:Program}[Laid P] {f:FuncId}{r:LV}(h1:cU P f [.lit (.slice none 0 0)] r) (h2:∀ a c,cU P f [.lit (.slice (some a) 0 c)] r):cU P f [.sl 0 []] r:=by
 refine⟨h1.1,fun w St vs hSt hL hr=> ?_⟩;obtain⟨v,vs',rfl,hv,hvs⟩:=hr.head;have:vs'=[]:=List.eq_nil_of_length_eq_zero hvs.1.symm;subst this
 cases hv with
 |snil=>exact h1.2 w St _ hSt hL (Reps.nil.cons (.lit _))
 |sl _ _ _ _ _ _ _=>exact(h2 _ _).2 w St _ hSt hL (Reps.nil.cons (.lit _))
theorem bOl {ops:Array Oper}{base i b:Nat}(h:b<base):okD ops base i b=true:=by simp[okD,h]
theorem bXo {A:Nat→LV}{ops:Array Oper}{base i b:Nat}(h:okX A ops base i b=true):okX A ops base i b=true:=h
theorem bXp {ops:Array Oper}{base i b:Nat}(h:okD ops base i b=true):okD ops base i b=true:=h
def dY:Op→Bool
 | .call c=>match c.callee with
   | .value _=>true
   |_=>false
 |_=>false
abbrev st (n:Nat) (f:Nat→LV) (h:Nat→Option Blk) (nb:Nat):LS:=⟨n,f,h,nb⟩
def aHo (s:LS) (id:Nat) (d:Option Nat) (e:Eff):Option LS:=
 match e,d with
 | .val v,some d=>some ⟨s.n,dE s.f d v,s.h,s.nb⟩
 | .new v k,some d=>some ⟨s.n,dE s.f d v,dE s.h id (some k),s.nb⟩
 | .wr b k,none=>some ⟨s.n,s.f,dE s.h b (some k),s.nb⟩
 | .wr b k,some d=>some ⟨s.n,dE s.f d .dead,dE s.h b (some k),s.nb⟩
 | .app v ob k,some d=>some ⟨s.n,dE s.f d v,dE (jS s.h ob) id (some k),s.nb⟩
 |_,_=>none
theorem aRe {s s':LS}{id:Nat}{d:Option Nat}{e:Eff}(h:aHo s id d e=some s'):(∀ f args fz,e≠ .call f args fz)∧s'=s.eff id d e .dead:=by
 unfold aHo at h;split at h <;>first |(cases h;exact⟨by simp,rfl⟩) |cases h
def tM (P:Program) [Laid P] (id:Nat) (ok:Nat→Bool) (ops:Array Oper) (o:Oper) (s:LS):Option LS:=
 match nR o s.n,cS ops o s with
 |true,some true=>(aF P id ok o.op s).bind (aHo s id o.dst)
 |true,some false=>match o.dst with
  |some d=>some ⟨s.n,dE s.f d bP,s.h,s.nb⟩
  |none=>some s
 |_,_=>none
theorem aCv {P:Program}[Laid P] {id:Nat}{ok:Nat→Bool}{ops:Array Oper}{o:Oper}{s s':LS}{K:LS→Prop}(h:tM P id ok ops o s=some s') (hk:K s'):bA2 P id ok ops o s K:=by
 unfold tM at h;split at h
 ·rename_i hd hw;obtain⟨e,hc,he⟩:=Option.bind_eq_some_iff.1 h;obtain⟨hn,rfl⟩:=aRe he;refine⟨hd,?_⟩;rw[hw];refine⟨by simp,fun _=> ?_⟩;rw[hc]
  cases e with
  |call f args fz=>exact absurd rfl (hn f args fz)
  |_=>exact hk
 ·rename_i hd hw;refine⟨hd,?_⟩;rw[hw];refine⟨fun _=> ?_,by simp⟩
  cases ho:o.dst with
  |none=>rw[ho]at h;cases h;exact hk
  |some d=>rw[ho]at h;cases h;exact hk
 ·cases h
def xR (P:Program) [Laid P] (base:Nat) (ok:Nat→Nat→Bool) (ops:Array Oper):Nat→List Oper→Option LS→Nat×List Oper×Option LS
 |i,[],s=>(i,[],s)
 |i,o::rest,none=>(i,o::rest,none)
 |i,o::rest,some s=>if dY o.op then(i,o::rest,some s)else xR P base ok ops (i+1) rest (tM P (base+i) (ok i) ops o s)
theorem aEw {P:Program}[Laid P] {base:Nat}{mu:Bool}{ok:Nat→Nat→Bool}{ops:Array Oper}{K:LS→Prop}:∀ (l:List Oper) (i:Nat) {s:LS}{j:Nat}{l':List Oper}{s':LS},xR P base ok ops i l (some s)=(j,l',some s')→
  lrun P mu base ok ops j l' s' K→lrun P mu base ok ops i l s K
 |[],i,s,j,l',s',h,hk=>by simp only[xR,Prod.mk.injEq,Option.some.injEq]at h;obtain⟨rfl,rfl,rfl⟩:=h;exact hk
 |o::rest,i,s,j,l',s',h,hk=>by
  unfold xR at h;split at h
  · simp only[Prod.mk.injEq,Option.some.injEq]at h;obtain⟨rfl,rfl,rfl⟩:=h;exact hk
  · cases hs:tM P (base+i) (ok i) ops o s with
    |none=>
     rw[hs]at h
     exfalso
     cases rest <;>simp[xR]at h
    |some s1=>
     rw[hs]at h
     exact .inl (aCv hs (aEw rest (i+1) h hk))
def keep (Φ:Exit→LS→Prop) (m:Nat):LS→Prop:=fun s=>Φ .normal ⟨s.n,s.f,s.h,max s.nb m⟩
theorem bA5 {P:Program}[Laid P] {na:Nat}{Φ:Exit→LS→Prop}{n nb id:Nat}{f:Nat→LV}{h:Nat→Option Blk}{l:List Oper}{draw:Bool}
  (hdr:(!draw ||aBa l.toArray)=true) (hr:lrun P (!draw) nb (okOf l.toArray draw nb) l.toArray 0 l ⟨n,f,h,nb⟩ (keep Φ (nb+l.length))):lwp P na (.region id l.toArray draw) Φ ⟨n,f,h,nb⟩:=by
 unfold lwp;simp only[List.size_toArray];exact .inl ⟨hdr,hr⟩
theorem aXx {P:Program}[Laid P] {na:Nat}{Φ:Exit→LS→Prop}{n nb id:Nat}{f:Nat→LV}{h:Nat→Option Blk}{l:List Oper}
  (hdr:aDt l.toArray=true) (hr:lrun P false nb (okX f l.toArray nb) l.toArray 0 l ⟨n,f,h,nb⟩ (keep Φ (nb+l.length))):lwp P na (.region id l.toArray true) Φ ⟨n,f,h,nb⟩:=by
 unfold lwp;simp only[List.size_toArray];exact .inr (.inl ⟨by trivial,hdr,hr⟩)
theorem bXq {P:Program}[Laid P] {base i:Nat}{mu:Bool}{ok:Nat→Nat→Bool}{ops:Array Oper}{Φ:Exit→LS→Prop}{n nb k:Nat}{f:Nat→LV}{h:Nat→Option Blk}(hh:Φ .normal ⟨n,f,h,nb+k⟩):
  lrun P mu base ok ops i [] ⟨n,f,h,nb⟩ (keep Φ (nb+k)):=by
 show Φ .normal ⟨n,f,h,max nb (nb+k)⟩;rw[Nat.max_eq_right (Nat.le_add_right _ _)];exact hh
theorem bA6 {P:Program}[Laid P] {base i:Nat}{mu:Bool}{ok:Nat→Nat→Bool}{ops:Array Oper}{Φ:Exit→LS→Prop}{n nb m:Nat}{f:Nat→LV}{h:Nat→Option Blk}(hle:m≤nb) (hh:Φ .normal ⟨n,f,h,nb⟩):
  lrun P mu base ok ops i [] ⟨n,f,h,nb⟩ (keep Φ m):=by
 show Φ .normal ⟨n,f,h,max nb m⟩;rw[Nat.max_eq_left hle];exact hh
theorem rY {P:Program}[Laid P] {base i:Nat}{mu:Bool}{ok:Nat→Nat→Bool}{ops:Array Oper}{o:Oper}{rest:List Oper}{n nb d:Nat}{F:Nat→LV}{H:Nat→Option Blk}{K:LS→Prop}{f:FuncId}{args:List LV}{fz:List Nat}{r:LV}
  (hd:o.dst=some d) (hn:d<n) (hw:cS ops o ⟨n,F,H,nb⟩=some true) (hc:aF P (base+i) (ok i) o.op ⟨n,F,H,nb⟩=some (.call f args fz)) (hg:cU P f args r)
  (hk:lrun P mu base ok ops (i+1) rest ⟨n,dE F d r,if fz=[]then H else bY H fz,nb⟩ K):lrun P mu base ok ops i (o::rest) ⟨n,F,H,nb⟩ K:=by
 refine .inl ⟨by simp[nR,hd,hn],?_⟩;rw[hw];refine⟨by simp,fun _=> ?_⟩;rw[hc];refine⟨r,hg,?_⟩
 have:(⟨n,F,H,nb⟩:LS).eff (base+i) o.dst (.call f args fz) r=⟨n,dE F d r,if fz=[]then H else bY H fz,nb⟩:=by
  rw[hO,hd];rfl
 rw[this];exact hk
theorem bH1 {P:Program}[Laid P] {base i:Nat}{ok:Nat→Nat→Bool}{ops:Array Oper}{o:Oper}{rest:List Oper}{n nb d:Nat}{F:Nat→LV}{H H':Nat→Option Blk}{K:LS→Prop}{c:Call}{x:Operand}{f:FuncId}{cs:List LV}{r:LV}{nb':Nat}
  (hop:o.op= .call c) (hcal:c.callee= .value x) (hx:opnd ⟨n,F,H,nb⟩ x= .fn f cs) (hd:o.dst=some d) (hn:d<n) (hw:cS ops o ⟨n,F,H,nb⟩=some true)
  (hg:mP P f (c.args.toList.map (opnd ⟨n,F,H,nb⟩)++cs) H (max nb (base+ops.size)) r H' nb') (hle:max nb (base+ops.size)≤nb')
  (hk:lrun P true base ok ops (i+1) rest ⟨n,dE F d r,H',nb'⟩ K):lrun P true base ok ops i (o::rest) ⟨n,F,H,nb⟩ K:=
 .inr (.inl ⟨rfl,c,x,f,cs,d,r,H',nb',hop,hcal,hx,hd,hn,hw,hg,hle,hk⟩)
theorem bH2 {P:Program}[Laid P] {base i:Nat}{ok:Nat→Nat→Bool}{ops:Array Oper}{o:Oper}{rest:List Oper}{n nb d:Nat}{F:Nat→LV}{H:Nat→Option Blk}{K:LS→Prop}{c:Call}{f:FuncId}{args:List LV}{r:LV}{ty:TypeId}{cells cells':List LV}(b:Nat)
  (hop:o.op= .call c) (hcal:c.callee= .value (.func f)) (hd:o.dst=some d) (hn:d<n) (hw:cS ops o ⟨n,F,H,nb⟩=some true) (hb:H b=some ⟨ty,cells,false⟩) (hg:zC P f args ty cells r cells') (hren:renLs 1 (fun _=>b) args=some (c.args.toList.map (opnd ⟨n,F,H,nb⟩)))
  (hpl:∀ c∈cells,aB c=true) (hpl':∀ c∈cells',aB c=true)
  (hk:lrun P true base ok ops (i+1) rest ⟨n,dE F d r,dE H b (some ⟨ty,cells',false⟩),max nb (base+ops.size)⟩ K):lrun P true base ok ops i (o::rest) ⟨n,F,H,nb⟩ K:=
 .inr (.inl ⟨rfl,c,.func f,f,[],d,r,_,_,hop,hcal,rfl,hd,hn,hw,by rw[List.append_nil];exact bA3 hg hb hren hpl hpl',Nat.le_refl _,hk⟩)
def lk (l:List (Nat×LV)) (i:Nat):LV:=
 match l with
 |[]=> .dead
 |(j,v)::l=>if i=j then v else lk l i
def cG (l:List (Nat×Blk)) (i:Nat):Option Blk:=
 match l with
 |[]=>none
 |(j,v)::l=>if i=j then some v else cG l i
theorem bJ {α:Type}(f:Nat→α) (i:Nat) (v:α) (j:Nat):dE f i v j=if j=i then v else f j:=rfl
theorem zF (j:Nat) (v:LV) (l:List (Nat×LV)) (i:Nat):lk ((j,v)::l) i=if i=j then v else lk l i:=rfl
theorem aEx (i:Nat):lk [] i= .dead:=rfl
theorem aNk (j:Nat) (v:Blk) (l:List (Nat×Blk)) (i:Nat):cG ((j,v)::l) i=if i=j then some v else cG l i:=rfl
theorem aUi (i:Nat):cG [] i=none:=rfl
theorem aXy (h:Nat→Option Blk):jS h none=h:=rfl
theorem aXz (h:Nat→Option Blk) (b:Nat):jS h (some b)=dE h b none:=rfl
theorem cN (h:Nat→Option Blk) (fz:List Nat) (b:Nat):bY h fz b=(h b).map fun k=>if b∈fz then{k with fz:=true}else k:=rfl
theorem aBc {Q:Nat→LV→Prop}(h0:∀ i,Q i .dead):∀ (l:List (Nat×LV)),(∀ p∈l,Q p.1 p.2)→∀ i,Q i (lk l i)
 |[],_,i=>h0 i
 |(j,v)::l,h,i=>by
  unfold lk;split
  · rename_i hi;subst hi;exact h (i,v) (by simp)
  · exact aBc h0 l (fun p hp=>h p (by simp[hp])) i
theorem mT:∀ (l:List (Nat×Blk)) {b:Nat}{k:Blk},cG l b=some k→(b,k)∈l
 |[],b,k,h=>by simp[cG]at h
 |(j,v)::l,b,k,h=>by
  unfold cG at h;split at h
  · rename_i hb;cases h;subst hb;simp
  · exact List.mem_cons_of_mem _ (mT l h)
theorem Sub.plain {na:Nat}{n:Nat}{f:Nat→LV}{h:Nat→Option Blk}{nb nb':Nat}{l:List (Nat×LV)}(hf:∀ p∈l,f p.1=p.2∧renL nb' id p.2=some p.2) (ha:na≤nb':=by decide):
  Sub na ⟨n,f,h,nb⟩ ⟨n,lk l,cG [],nb'⟩:=
 ⟨rfl,id,fun i=>aBc (Q:=fun i v=>v= .dead∨renL nb' id v=some (f i)) (fun _=> .inl rfl) l (fun p hp=> .inr (by rw[(hf p hp).1];exact(hf p hp).2)) i,by simp[cG],by simp[cG],ha,fun _ _=>rfl⟩
theorem Sub.heap {na:Nat}{n:Nat}{f:Nat→LV}{h:Nat→Option Blk}{nb nb':Nat}{l:List (Nat×LV)}{hl:List (Nat×Blk)}(ρ:Nat→Nat) (hf:∀ p∈l,renL nb' ρ p.2=some (f p.1))
  (hb:∀ p∈hl,p.1<nb'∧∃ cs,h (ρ p.1)=some ⟨p.2.ty,cs,p.2.fz⟩∧renLs nb' ρ p.2.cells=some cs) (hi:∀ p∈hl,∀ q∈hl,ρ p.1=ρ q.1→p.1=q.1) (ha:na≤nb'∧∀ b,b<na→ρ b=b:=by decide):
  Sub na ⟨n,f,h,nb⟩ ⟨n,lk l,cG hl,nb'⟩:=by
 refine⟨rfl,ρ,fun i=>aBc (Q:=fun i v=>v= .dead∨renL nb' ρ v=some (f i)) (fun _=> .inl rfl) l (fun p hp=> .inr (hf p hp)) i,fun b k hk=> ?_,fun b b' k k' hk hk' e=> ?_,ha⟩
 ·obtain⟨h1,cs,h2,h3⟩:=hb _ (mT hl hk);exact⟨h1,_,h2,rfl,rfl,h3⟩
 ·exact hi _ (mT hl hk) _ (mT hl hk') e
theorem aX0 {nb:Nat}{ρ:Nat→Nat}{x:LV}(h:aB x=true):renL nb ρ x=some x:=by cases x <;>simp_all [aB,renL]
theorem cM {nb:Nat}{ρ:Nat→Nat}:∀ {cs:List LV},(∀ c∈cs,aB c=true)→renLs nb ρ cs=some cs
 |[],_=>rfl
 |c::cs,h=>by simp[renLs,aX0 (h c (by simp)),cM (cs:=cs) (fun c hc=>h c (by simp[hc]))]
theorem Sub.heap1 {na:Nat}{n:Nat}{f:Nat→LV}{h:Nat→Option Blk}{nb ty:Nat}{cs cs':List LV}{fz:Bool}{l:List (Nat×LV)}(b0:Nat) (hf:∀ p∈l,renL 1 (fun _=>b0) p.2=some (f p.1))
  (hb:h b0=some ⟨ty,cs',fz⟩) (hc:cs'=cs) (hp:∀ c∈cs,aB c=true) (ha:na=0∨na=1∧b0=0:=by decide):Sub na ⟨n,f,h,nb⟩ ⟨n,lk l,cG [(0,⟨ty,cs,fz⟩)],1⟩:=by
 subst hc;refine Sub.heap (fun _=>b0) hf ?_ ?_ ⟨by omega,fun b hb=>by omega⟩
 ·intro p hp';simp only[List.mem_cons,List.not_mem_nil,or_false]at hp';subst hp';exact⟨by simp,cs',hb,cM hp⟩
 ·intro p hp' q hq _;simp only[List.mem_cons,List.not_mem_nil,or_false]at hp' hq;subst hp';subst hq;rfl
def fK:LV→Bool
 | .lit (.slice none 0 0)=>false
 | .lit _ | .sl _ _=>true
 |_=>false
theorem rZ {h:Nat→Option Blk}{ok:Nat→Bool}{k:Nat}{x:LV}(hx:fK x=true):pv h ok (k+1) x=some (x,[]):=by
 cases x with
 |lit v=>
  cases v with
  |slice a l c=>cases a <;>cases l <;>cases c <;>first |rfl |simp[fK]at hx
  |_=>rfl
 |sl n cs=>rfl
 |_=>simp[fK]at hx
theorem bH3 {h:Nat→Option Blk}{ok:Nat→Bool}{k:Nat}:fM h ok k []=some ([],[]):=rfl
theorem jU {h:Nat→Option Blk}{ok:Nat→Bool}{k:Nat}{c:LV}{cs:List LV}:fM h ok k (c::cs)=(fM h ok k cs).bind fun r=>(pv h ok k c).map fun p=>(p.1::r.1,p.2++r.2):=rfl
theorem jC {h:Nat→Option Blk}{ok:Nat→Bool}{k:Nat}:∀ {cs:List LV},(∀ c∈cs,fK c=true)→fM h ok (k+1) cs=some (cs,[])
 |[],_=>rfl
 |c::cs,hc=>by rw[jU,jC (cs:=cs) (fun c h=>hc c (by simp[h])),rZ (hc c (by simp))];rfl
theorem bOm {h:Nat→Option Blk}{ok:Nat→Bool}{k:Nat}{kd:IntKind}{n:Int}:pv h ok (k+1) (.lit (.int kd n))=some (.lit (.int kd n),[]):=rfl
theorem zG {h:Nat→Option Blk}{ok:Nat→Bool}{k:Nat}{b:Bool}:pv h ok (k+1) (.lit (.bool b))=some (.lit (.bool b),[]):=rfl
theorem aKi {h:Nat→Option Blk}{ok:Nat→Bool}{k:Nat}:pv h ok (k+1) (.lit (.slice none 0 0))=some (.sl 0 [],[]):=rfl
theorem bXr {h:Nat→Option Blk}{ok:Nat→Bool}{k n:Nat}{cs:List LV}:pv h ok (k+1) (.sl n cs)=some (.sl n cs,[]):=rfl
theorem bXs {h:Nat→Option Blk}{ok:Nat→Bool}{k f:Nat}:pv h ok (k+1) (.fn f [])=some (.fn f [],[]):=rfl
theorem bOn {h:Nat→Option Blk}{ok:Nat→Bool}{k:Nat}{cs:List LV}:pv h ok (k+1) (.agg cs)=(fM h ok k cs).map fun r=>(.agg r.1,r.2):=rfl
theorem bOo {h:Nat→Option Blk}{ok:Nat→Bool}{k:Nat}{cs:List LV}:pv h ok (k+1) (.tup cs)=(fM h ok k cs).map fun r=>(.tup r.1,r.2):=rfl
theorem bOp {h:Nat→Option Blk}{ok:Nat→Bool}{k b off n sz:Nat}:pv h ok (k+1) (.own b off n sz)=match h b with
  |some blk=>if ok b=true∧off+n*sz≤blk.cells.length then(fM h ok k ((blk.cells.drop off).take (n*sz))).map fun r=>(.sl n r.1,b::r.2)else none
  |none=>none:=by rw[pv];rfl
end
section
open Go
theorem dI {P:Program}[Laid P] {rs:List ResultVar}{r x:LV}{s:LS}(hres:fF P rs s=some x) (hpv:(pv s.h (fun _=>true) 6 x).map (·.1)=some r):goodPost P rs r .ret s:=by
 obtain⟨p,hp,rfl⟩:=Option.map_eq_some_iff.1 hpv;exact⟨x,p.2,hres,hp⟩
theorem dK {P:Program}[Laid P] {rs:List ResultVar}{r x:LV}{s:LS}(hres:fF P rs s=some x) (hpv:(pv s.h (fun _=>true) 6 x).map (·.1)=some r):goodPost P rs r .normal s:=by
 obtain⟨p,hp,rfl⟩:=Option.map_eq_some_iff.1 hpv;exact⟨x,p.2,hres,hp⟩
theorem bM6 {P:Program}[Laid P] {rs:List ResultVar}{r x:LV}{ty:TypeId}{cells cells':List LV}{s:LS}(hres:fF P rs s=some x) (hpv:(pv s.h (fun b=>b !=0) 6 x).map (·.1)=some r) (h0:s.h 0=some ⟨ty,cells',false⟩) (hc:cells'=cells):mutPost P rs r ty cells .ret s:=by
 obtain⟨p,hp,rfl⟩:=Option.map_eq_some_iff.1 hpv;subst hc;exact⟨x,p.2,hres,hp,h0⟩
theorem bOq {P:Program}[Laid P] {na:Nat}{Φ:Exit→LS→Prop}{s:LS}{c:Operand}{x y:Code}(hc:opnd s c= .lit (.bool true)) (hnext:lwp P na x Φ s):lwp P na (.cond c x y) Φ s:=bOj hc hnext
theorem bH4 {P:Program}[Laid P] {na:Nat}{Φ:Exit→LS→Prop}{s:LS}{c:Operand}{x y:Code}(hc:opnd s c= .lit (.bool false)) (hnext:lwp P na y Φ s):lwp P na (.cond c x y) Φ s:=bH0 hc hnext
end
section
open Go
section
variable {P:Program}[Laid P] {id:Nat}{ok:Nat→Bool}{s:LS}
theorem bOr (x:Operand):aF P id ok (.move x) s=some (.val (opnd s x)):=rfl
theorem bA7 (x:Operand):aF P id ok (.assign x) s=some (.val (opnd s x)):=rfl
theorem bOs (c a b:Operand):aF P id ok (.pick c a b) s=match opnd s c with
  | .lit (.bool t)=>some (.val (if t=true then opnd s a else opnd s b))
  |_=>none:=rfl
theorem bH5 (e:TypeId):aF P id ok (.alloc e) s=(bT P e).map fun cs=> .new (.ptr id 0) ⟨e,cs,false⟩:=rfl
theorem bXt (e:TypeId) (x:Operand):aF P id ok (.box e x) s=(cellsOf (opnd s x)).map fun cs=> .new (.ptr id 0) ⟨e,cs,false⟩:=rfl
theorem bH6 (t:TypeId) (parts:List (Nat×Operand)):aF P id ok (.build t parts.toArray) s=(buildL P t (parts.map fun p=>(p.1,opnd s p.2))).map .val:=rfl
theorem aKj (t:TypeId) (len:Nat) (parts:List (Nat×Operand)):aF P id ok (.buildSlice t len parts.toArray) s=(aZ P t).bind fun e=>match aL P e,bT P e with
  |some sz,some z=>if len*sz≤16777216∧len≤maxLen then(fillL (fun i=>some (i*sz,sz)) (yV z (len*sz)) (parts.map fun p=>(p.1,opnd s p.2))).map fun cs=> .new (.own id 0 len sz) ⟨e,cs,false⟩else none
  |_,_=>none:=rfl
theorem bOt (t:TypeId) (a:Operand):aF P id ok (.load t a) s=(mN P ok s t (opnd s a)).map .val:=rfl
theorem bH7 (t:TypeId) (a x:Operand):aF P id ok (.store t a x) s=nO P ok s t (opnd s a) (opnd s x):=rfl
theorem bH8 (op:BinOp) (xt yt:TypeId) (x y:Operand):aF P id ok (.binOp op xt x y yt) s=match opnd s x,opnd s y with
  | .lit a,.lit b=>(xN P op xt a b).map fun v=> .val (.lit v)
  | .sl n _,.lit (.slice none 0 0)=>(kO P op xt n).map fun v=> .val (.lit v)
  | .own _ _ _ _,.lit (.slice none 0 0)=>(kO P op xt 1).map fun v=> .val (.lit v)
  |_,_=>none:=rfl
theorem bOu (op:UnOp) (xt:TypeId) (x:Operand):aF P id ok (.unOp op xt x) s=match opnd s x with
  | .lit a=>(unV op a).map fun v=> .val (.lit v)
  |_=>none:=rfl
theorem aX1 (src dst:TypeId) (x:Operand):aF P id ok (.convert src dst x) s=match bF P src,mM P dst,opnd s x with
  |some _,some k,.lit (.int _ n)=>some (.val (.lit (.int k (k.wrap n))))
  |_,_,_=>none:=rfl
theorem bOv (t:TypeId) (l c:Operand):aF P id ok (.makeSlice t l c) s=(aZ P t).bind fun e=>match aL P e,bI P e,bT P e,opnd s l,opnd s c with
  |some sz,some by_,some z,.lit (.int _ n),.lit (.int _ m)=>if 0≤n∧n≤m∧by_*m.toNat≤281474976710656∧m.toNat≤maxLen then some (.new (.own id 0 n.toNat sz) ⟨e,yV z (m.toNat*sz),false⟩)else none
  |_,_,_,_,_=>none:=rfl
theorem bH9 (t:TypeId) (x:Operand) (lo hi:Option Operand):aF P id ok (.slice t x lo hi none) s=(mF P t (opnd s x) (lo.map (opnd s)) (hi.map (opnd s))).map .val:=rfl
theorem aNl (t:TypeId) (x:Operand) (f:Nat):aF P id ok (.fieldAddr t x f) s=(fieldAddrL P t (opnd s x) f).map .val:=rfl
theorem bIa (t:TypeId) (x:Operand) (f:Nat):aF P id ok (.field t x f) s=match opnd s x with
  | .agg cs=>(aX P t f).bind fun p=>(partL P p.2 cs p.1).map .val
  |_=>none:=rfl
theorem aNm (t:TypeId) (x:Nat) (ix:Operand):aF P id ok (.indexAddr t (.tmp x) ix) s=(jI P t (s.f x) (opnd s ix)).map .val:=rfl
theorem aKk (t:TypeId) (g:Nat) (ix:Operand):aF P id ok (.indexAddr t (.global g) ix) s=(jI P t (xC P s (.global g)) (opnd s ix)).map .val:=rfl
theorem bIb (t:TypeId) (x ix:Operand):aF P id ok (.index t x ix) s=match opnd s x,opnd s ix with
  | .agg cs,.lit (.int _ i)=>(dA P t).bind fun e=>(aL P e.2).bind fun sz=>if 0≤i∧i<(e.1:Int)then(partL P e.2 cs (i.toNat*sz)).map .val else none
  |_,_=>none:=rfl
theorem aX2 (t:Operand) (ix:Nat):aF P id ok (.extract t ix) s=match opnd s t with
  | .tup vs=>(vs[ix]?).map .val
  |_=>none:=rfl
theorem bM7 (t:TypeId) (x:Operand):aF P id ok (.call {callee:= .builtin .len,args:= #[x],argTypes:= #[t]}) s=match aZ P t with
  |some _=>(wZ s (opnd s x)).map fun(n:Nat)=>Eff.val (.lit (.int .i64 (n:Int)))
  |none=>match dA P t with
   |some p=>some (.val (.lit (.int .i64 (p.1:Int))))
   |none=>none:=rfl
theorem bA8 (t t':TypeId) (d x:Operand):aF P id ok (.call {callee:= .builtin .append,args:= #[d,x],argTypes:= #[t,t']}) s=if t'=t then appendL P id ok s t (opnd s d) (opnd s x)else none:=rfl
theorem bXu (ts:Array TypeId) (x y:Operand):aF P id ok (.call {callee:= .builtin .max,args:= #[x,y],argTypes:=ts}) s=(lR [opnd s x,opnd s y]).bind fun vs=>(aM3 vs).map fun v=> .val (.lit v):=rfl
theorem bOw (ts:Array TypeId) (x y z:Operand):aF P id ok (.call {callee:= .builtin .max,args:= #[x,y,z],argTypes:=ts}) s=(lR [opnd s x,opnd s y,opnd s z]).bind fun vs=>(aM3 vs).map fun v=> .val (.lit v):=rfl
theorem bOx (ts:Array TypeId) (x y z:Operand):aF P id ok (.call {callee:= .builtin .min,args:= #[x,y,z],argTypes:=ts}) s=(lR [opnd s x,opnd s y,opnd s z]).bind fun vs=>(aM4 vs).map fun v=> .val (.lit v):=rfl
theorem bXv (x:Operand):aF P id ok (.nilCheck x) s=match opnd s x with
  | .ptr b off=>some (.val (.ptr b off))
  |_=>none:=rfl
theorem bXw (ts:Array TypeId) (x y:Operand):aF P id ok (.call {callee:= .builtin .min,args:= #[x,y],argTypes:=ts}) s=(lR [opnd s x,opnd s y]).bind fun vs=>(aM4 vs).map fun v=> .val (.lit v):=rfl
theorem bOy (f:FuncId) (args:List Operand) (ts:Array TypeId):aF P id ok (.call {callee:= .value (.func f),args:=args.toArray,argTypes:=ts}) s=(fM s.h ok 5 (args.map (opnd s))).map fun r=> .call f r.1 r.2:=by
 simp[aF,tJ,opnd]
theorem bIc (t:Nat) (args:List Operand) (ts:Array TypeId):aF P id ok (.call {callee:= .value (.tmp t),args:=args.toArray,argTypes:=ts}) s=match s.f t with
  | .fn g cs=>(fM s.h ok 5 (args.map (opnd s)++cs)).map fun r=> .call g r.1 r.2
  |_=>none:=rfl
theorem bXx (t:Nat):opnd s (.tmp t)=s.f t:=rfl
theorem bId (v:Value):opnd s (.const v)=tI v:=rfl
theorem bXy (k:IntKind) (n:Int):opnd s (.const (.int k n))= .lit (.int k n):=rfl
theorem bOz (b:Bool):opnd s (.const (.bool b))= .lit (.bool b):=rfl
theorem bXz:opnd s (.const (.slice none 0 0))= .lit (.slice none 0 0):=rfl
theorem bO0 (f:FuncId):opnd s (.func f)= .fn f []:=rfl
theorem bA9 {base i:Nat}{okk:Nat→Nat→Bool}{ops:Array Oper}{x:Option LS}:xR P base okk ops i [] x=(i,[],x):=rfl
theorem aX3 {base i:Nat}{okk:Nat→Nat→Bool}{ops:Array Oper}{o:Oper}{rest:List Oper}:xR P base okk ops i (o::rest) (some s)=if dY o.op=true then(i,o::rest,some s)else xR P base okk ops (i+1) rest (tM P (base+i) (okk i) ops o s):=by
 rw[xR]
theorem cIt {f:Operand}{args:Array Operand}{ts:Array TypeId}:dY (.call {callee:= .value f,args:=args,argTypes:=ts})=true:=rfl
theorem cIu {b:Builtin}{args:Array Operand}{ts:Array TypeId}:dY (.call {callee:= .builtin b,args:=args,argTypes:=ts})=false:=rfl
theorem aNn {okk:Nat→Bool}{ops:Array Oper}{d:Nat}{op:Op}{t:TypeId}{p:String}{a:Array Edge}{n nb:Nat}{f:Nat→LV}{h:Nat→Option Blk}(hd:d<n):
  tM P id okk ops ⟨some d,op,t,p,a,none⟩ ⟨n,f,h,nb⟩=(aF P id okk op ⟨n,f,h,nb⟩).bind (aHo ⟨n,f,h,nb⟩ id (some d)):=by
 simp[tM,nR,cS,hd]
theorem aRf {okk:Nat→Bool}{ops:Array Oper}{op:Op}{t:TypeId}{p:String}{a:Array Edge}:
  tM P id okk ops ⟨none,op,t,p,a,none⟩ s=(aF P id okk op s).bind (aHo s id none):=by
 simp[tM,nR,cS]
theorem aNo {okk:Nat→Bool}{ops:Array Oper}{d j:Nat}{w:Bool}{op:Op}{t:TypeId}{p:String}{a:Array Edge}{n nb:Nat}{f:Nat→LV}{h:Nat→Option Blk}(hd:d<n):
  tM P id okk ops ⟨some d,op,t,p,a,some (j,w)⟩ ⟨n,f,h,nb⟩=match(ops[j]?).bind (·.dst)with
   |some g=>match f g with
    | .lit (.bool b)=>if b=w then(aF P id okk op ⟨n,f,h,nb⟩).bind (aHo ⟨n,f,h,nb⟩ id (some d))else some ⟨n,dE f d bP,h,nb⟩
    | .lit (.tuple _)=>some ⟨n,dE f d bP,h,nb⟩
    |_=>none
   |none=>none:=by
 simp only[tM,nR,hd,cS,decide_true]
 cases (ops[j]?).bind (·.dst)with
 |none=>rfl
 |some g=>
  simp only
  cases f g with
  |lit v=>
   cases v with
   |bool b=>cases b <;>cases w <;>rfl
   |_=>rfl
  |_=>rfl
theorem bX0 {n nb d:Nat}{f:Nat→LV}{h:Nat→Option Blk}{v:LV}:aHo ⟨n,f,h,nb⟩ id (some d) (.val v)=some ⟨n,dE f d v,h,nb⟩:=rfl
theorem bX1 {n nb d:Nat}{f:Nat→LV}{h:Nat→Option Blk}{v:LV}{k:Blk}:aHo ⟨n,f,h,nb⟩ id (some d) (.new v k)=some ⟨n,dE f d v,dE h id (some k),nb⟩:=rfl
theorem cIv {n nb b:Nat}{f:Nat→LV}{h:Nat→Option Blk}{k:Blk}:aHo ⟨n,f,h,nb⟩ id none (.wr b k)=some ⟨n,f,dE h b (some k),nb⟩:=rfl
theorem bX2 {n nb d:Nat}{f:Nat→LV}{h:Nat→Option Blk}{v:LV}{ob:Option Nat}{k:Blk}:aHo ⟨n,f,h,nb⟩ id (some d) (.app v ob k)=some ⟨n,dE f d v,dE (jS h ob) id (some k),nb⟩:=rfl
end
end
section
open Go
theorem wrap_i64 {n:Int}(h: -9223372036854775808≤n∧n≤9223372036854775807):IntKind.i64.wrap n=n:=by
 rw[IntKind.wrap_i64];omega
theorem aEy {n:Int}(h:0≤n∧n≤18446744073709551615):IntKind.u64.wrap n=n:=by
 simp only[IntKind.wrap,IntKind.signed,IntKind.bits];simp only[Bool.false_and,Bool.false_eq_true,if_false];omega
theorem aEz {n:Int}(h:0≤n∧n≤4294967295):IntKind.u32.wrap n=n:=by
 simp only[IntKind.wrap,IntKind.signed,IntKind.bits];simp only[Bool.false_and,Bool.false_eq_true,if_false];omega
theorem bIe {n:Int}(h:0≤n∧n≤255):IntKind.u8.wrap n=n:=by
 simp only[IntKind.wrap,IntKind.signed,IntKind.bits];simp only[Bool.false_and,Bool.false_eq_true,if_false];omega
theorem aN (n:Int):IntKind.u32.wrap n=n % 4294967296:=by
 simp only[IntKind.wrap,IntKind.signed,IntKind.bits];simp
theorem dT (n:Int):IntKind.u64.wrap n=n % 18446744073709551616:=by
 simp only[IntKind.wrap,IntKind.signed,IntKind.bits];simp
theorem nS {p:Prop}[Decidable p] (h:p):decide p=true:=decide_eq_true h
theorem nT {p:Prop}[Decidable p] (h:¬p):decide p=false:=decide_eq_false h
theorem bX3 {a b:Int}(h:a=b):(a==b)=true:=by simp[h]
theorem bX4 {a b:Int}(h:¬a=b):(a==b)=false:=by simp[h]
theorem bX5 {a b:Int}(h:¬a=b):(a !=b)=true:=by simp[h]
theorem bX6 {a b:Int}(h:a=b):(a !=b)=false:=by simp[h]
theorem bIf {α:Type}{i n:Int}{x y:α}(h:0≤i∧i<n):(if 0≤i∧i<n then x else y)=x:=if_pos h
theorem bO1 {α:Type}{i n:Int}{x y:α}(h:0≤i∧i≤n):(if 0≤i∧i≤n then x else y)=x:=if_pos h
theorem bO2 {α:Type}{i n:Nat}{x y:α}(h:i≤n):(if i≤n then x else y)=x:=if_pos h
theorem bIg {α:Type}{i n j m:Nat}{x y:α}(h:i≤n∧j≤m):(if i≤n∧j≤m then x else y)=x:=if_pos h
theorem bIh {α:Type}{i n j m k l:Nat}{x y:α}(h:i≤n∧j≤m∧k≤l):(if i≤n∧j≤m∧k≤l then x else y)=x:=if_pos h
theorem bO3 {α:Type}{i n:Nat}{x y:α}(h:i<n):(if i<n then x else y)=x:=if_pos h
theorem bO4 {α:Type}{i:Int}{x y:α}(h:¬i=0):(if¬i=0 then x else y)=x:=if_pos h
theorem bIi {α:Type}{i:Int}{x y:α}(h:0≤i):(if 0≤i then x else y)=x:=if_pos h
theorem bO5 {α:Type}{i j:Int}{n m k l:Nat}{x y:α}(h:0≤i∧i≤j∧n≤m∧k≤l):(if 0≤i∧i≤j∧n≤m∧k≤l then x else y)=x:=if_pos h
theorem bBa {a b:Int}(h:0≤b):a.fdiv b=a / b:=Int.fdiv_eq_ediv_of_nonneg a h
theorem bBb {a b:Int}(h:0≤a):a.tdiv b=a / b:=Int.tdiv_eq_ediv_of_nonneg h
theorem bBc {a b:Int}(h:0≤a):a.tmod b=a % b:=Int.tmod_eq_emod_of_nonneg h
theorem bBd (a b:Nat):(a:Int) / (b:Int)=((a / b:Nat):Int):=rfl
theorem bBe (a b:Nat):(a:Int) % (b:Int)=((a % b:Nat):Int):=rfl
theorem bX7 {a b:Nat}(h:a≤b):min a b=a:=Nat.min_eq_left h
theorem bX8 {a b:Nat}(h:b≤a):min a b=b:=Nat.min_eq_right h
theorem bIj (k:Nat):((k:Int)-1).toNat=k-1:=by omega
theorem bIk (k:Nat):((k:Int)+1).toNat=k+1:=by omega
theorem bO6 (k l:Nat):((k:Int)+(l:Int)).toNat=k+l:=by omega
theorem bO7 (k l:Nat):((k:Int)-(l:Int)).toNat=k-l:=by omega
theorem aRg (k l:Nat):((k:Int)+(l:Int)-1).toNat=k+l-1:=by omega
theorem bIl {hi lo:Nat}(h1:hi<4294967296) (h2:lo<4294967296):
  IntKind.u64.wrap (BitVec.ofInt 64 ((hi:Int)*4294967296) |||BitVec.ofInt 64 (lo:Int)).toNat=((hi*4294967296+lo:Nat):Int):=by
 have e1:BitVec.ofInt 64 ((hi:Int)*4294967296)=BitVec.ofNat 64 (hi*4294967296):=by
  rw[show((hi:Int)*4294967296)=((hi*4294967296:Nat):Int)by omega];exact BitVec.ofInt_natCast ..
 have e2:BitVec.ofInt 64 (lo:Int)=BitVec.ofNat 64 lo:=BitVec.ofInt_natCast ..;rw[e1,e2,BitVec.toNat_or,BitVec.toNat_ofNat,BitVec.toNat_ofNat,Nat.mod_eq_of_lt (by omega),Nat.mod_eq_of_lt (by omega)]
 have e3:hi*4294967296 |||lo=hi*4294967296+lo:=by
  have:=Nat.shiftLeft_add_eq_or_of_lt (b:=lo) (i:=32) (by simpa using h2) hi;rw[Nat.shiftLeft_eq]at this
  exact this.symm
 rw[e3];exact aEy (by omega)
theorem aNp {hi lo:Nat}(h1:hi<4294967296) (h2:lo<4294967296):orI .u64 ((hi:Int)*4294967296) (lo:Int)=((hi*4294967296+lo:Nat):Int):=bIl h1 h2
theorem bBf {hi lo:Nat}(h1:hi<4294967296) (h2:lo<4294967296):orI .u64 (lo:Int) ((hi:Int)*4294967296)=((hi*4294967296+lo:Nat):Int):=by
 rw[← aNp h1 h2];unfold orI;rw[BitVec.or_comm]
def dB (ds:List Nat):List LV:=ds.map fun(d:Nat)=>LV.lit (.int .u32 (d:Int))
def dg (ds:List Nat):LV:= .sl ds.length (dB ds)
theorem bX9:(false==true)=false:=rfl
theorem bYa:(true==false)=false:=rfl
theorem bBg {α:Type}(a:α):List.replicate 0 a=[]:=rfl
theorem cIw {α:Type}(a:α):List.replicate 1 a=[a]:=rfl
theorem cIx {α:Type}(a:α):List.replicate 2 a=[a,a]:=rfl
theorem cIy {α:Type}(a:α):List.replicate 3 a=[a,a,a]:=rfl
theorem bM8 (z:List LV):yV z 0=[]:=by simp[yV]
theorem bYb (a b:LV):yV [a,b] 2=[a,b]:=rfl
theorem bYc (a b c d:LV):yV [a,b,c,d] 4=[a,b,c,d]:=rfl
theorem cIz (z:LV) (n:Nat):yV [z] n=List.replicate n z:=bHx z n
theorem iR (n:Nat):List.replicate n (LV.lit (.int .u32 0))=dB (List.replicate n 0):=by simp[dB]
theorem aBd:maxLen=9223372036854775807:=rfl
theorem aE0 (ds:List Nat):(dB ds).length=ds.length:=by simp[dB]
theorem bO8 {ds:List Nat}{i:Nat}(h:i<ds.length):(dB ds)[i]? =some (.lit (.int .u32 ((ds.getD i 0:Nat):Int))):=by
 simp[dB,h]
theorem bO9 {ds:List Nat}{i:Nat}(h:i<ds.length):(dB (ds.drop i)).head? =some (.lit (.int .u32 ((ds.getD i 0:Nat):Int))):=by
 simp[dB,h]
theorem bIm {ds:List Nat}(h:0<ds.length):(dB ds).head? =some (.lit (.int .u32 ((ds.getD 0 0:Nat):Int))):=by
 cases ds with
 |nil=>simp at h
 |cons d ds=>rfl
theorem bBh (ds:List Nat) (k:Nat):(dB ds).take k=dB (ds.take k):=by simp[dB]
theorem bBi (ds:List Nat) (k:Nat):(dB ds).drop k=dB (ds.drop k):=by simp[dB]
theorem aDu (ds:List Nat) (k d:Nat):(dB ds).set k (.lit (.int .u32 (d:Int)))=dB (ds.set k d):=by simp[dB]
theorem aNq (ds:List Nat):∀ c∈dB ds,fK c=true:=by simp[dB,fK]
theorem aE (ds:List Nat):∀ c∈dB ds,aB c=true:=by simp[dB,aB]
theorem aRh (a b:List Nat):dB a++dB b=dB (a++b):=by simp[dB]
theorem bBj (a:Nat) (b:List Nat):dB (a::b)= .lit (.int .u32 (a:Int))::dB b:=rfl
theorem bIn:dB []=[]:=rfl
theorem bIo {h:Nat→Option Blk}{ok:Nat→Bool}{k:Nat}(ds:List Nat):fM h ok (k+1) (dB ds)=some (dB ds,[]):=jC (aNq ds)
theorem aNr {w:Nat}(v:BitVec w):BitVec.ofInt w (v.toNat:Int)=v:=by
 rw[BitVec.ofInt_natCast,BitVec.ofNat_toNat,BitVec.setWidth_eq]
theorem bIp (v:BitVec 32):((v.toNat:Int) / 2147483648)=if v.msb=true then 1 else 0:=by
 have:=v.isLt;rw[BitVec.msb_eq_decide];simp only[decide_eq_true_eq];split <;>omega
theorem bBk:(BitVec.ofInt 32 (if IntKind.u32.signed=true then -1 else IntKind.u32.max))=BitVec.allOnes 32:=by decide
theorem aBe (n:Nat) (h:n<4294967296):(BitVec.ofInt 32 (n:Int)).msb=decide (2147483648≤n):=by
 rw[BitVec.ofInt_natCast,BitVec.msb_eq_decide,BitVec.toNat_ofNat,Nat.mod_eq_of_lt h]
theorem aRi {x y c:Nat}(hx:x<4294967296) (hy:y<4294967296) (hc:c≤1) {d:Int}(hd:d=(((x+8589934592-y-c) % 4294967296:Nat):Int)):
  (((BitVec.ofInt 32 ((BitVec.ofInt 32 ((BitVec.ofInt 32 (if IntKind.u32.signed=true then -1 else IntKind.u32.max)^^^BitVec.ofInt 32 (x:Int)).toNat:Int) &&& BitVec.ofInt 32 (y:Int)).toNat:Int) |||
    BitVec.ofInt 32 ((BitVec.ofInt 32 ((BitVec.ofInt 32 (if IntKind.u32.signed=true then -1 else IntKind.u32.max)^^^BitVec.ofInt 32 ((BitVec.ofInt 32 (x:Int)^^^BitVec.ofInt 32 (y:Int)).toNat:Int)).toNat:Int) &&& BitVec.ofInt 32 d).toNat:Int)).toNat:Nat):Int) / 2147483648=((if x<y+c then 1 else 0:Nat):Int):=by
 subst hd;simp only[aNr,bBk];rw[bIp];simp only[BitVec.msb_or,BitVec.msb_and,BitVec.msb_xor,aBe _ hx,aBe _ hy,aBe _ (show(x+8589934592-y-c) % 4294967296<4294967296 by omega),BitVec.msb_allOnes (show 0<32 by omega)];have hm:(x+8589934592-y-c) % 4294967296<4294967296:=by omega
 have h5:(x+8589934592-y-c) % 4294967296+y+c=x+if x<y+c then 4294967296 else 0:=by split <;>omega
 generalize (x+8589934592-y-c) % 4294967296=m at*;by_cases h4:x<y+c
 ·rw[if_pos h4]at h5
  by_cases h1:2147483648≤x <;>by_cases h2:2147483648≤y <;>by_cases h3:2147483648≤m <;>simp[h1,h2,h3,h4] <;>omega
 ·rw[if_neg h4]at h5
  by_cases h1:2147483648≤x <;>by_cases h2:2147483648≤y <;>by_cases h3:2147483648≤m <;>simp[h1,h2,h3,h4] <;>omega
theorem aNs {x y c:Nat}(hx:x<4294967296) (hy:y<4294967296) (hc:c≤1):IntKind.u32.wrap (IntKind.u32.wrap ((x:Int)-y)-c)=(((x+8589934592-y-c) % 4294967296:Nat):Int):=by
 rw[aN,aN];omega
theorem bBl (ds:List Nat) (k:Nat) {v:Int}(h:0≤v):(dB ds).set k (.lit (.int .u32 v))=dB (ds.set k v.toNat):=by
 obtain⟨m,hm⟩:∃ m:Nat,v=m:=⟨v.toNat,by omega⟩;subst hm;rw[aDu,Int.toNat_natCast]
theorem aKl (ds:List Nat) (k:Nat) (v:Int):(dB ds).set k (.lit (.int .u32 (IntKind.u32.wrap v)))=dB (ds.set k (v % 4294967296).toNat):=by
 rw[aN];exact bBl _ _ (by omega)
theorem bIq {lo s x:Nat}(h1:lo<2^s) (h2:lo+2^s*x<4294967296):orI .u32 (lo:Int) ((2^s*x:Nat):Int)=((lo+2^s*x:Nat):Int):=by
 unfold orI;have e1:BitVec.ofInt 32 (lo:Int)=BitVec.ofNat 32 lo:=BitVec.ofInt_natCast ..;have e2:BitVec.ofInt 32 ((2^s*x:Nat):Int)=BitVec.ofNat 32 (2^s*x):=BitVec.ofInt_natCast ..;show IntKind.u32.wrap (((BitVec.ofInt 32 (lo:Int) |||BitVec.ofInt 32 ((2^s*x:Nat):Int)).toNat:Nat):Int)=_;rw[e1,e2,BitVec.toNat_or,BitVec.toNat_ofNat,BitVec.toNat_ofNat,Nat.mod_eq_of_lt (by omega),Nat.mod_eq_of_lt (by omega)]
 have e3:lo |||2^s*x=lo+2^s*x:=by
  have:=Nat.shiftLeft_add_eq_or_of_lt (b:=lo) (i:=s) h1 x;rw[Nat.shiftLeft_eq,Nat.mul_comm]at this
  rw[Nat.or_comm,← this,Nat.add_comm]
 rw[e3];exact aEz (by omega)
theorem qV (s:Nat):(2:Int)^s=((2^s:Nat):Int):=by simp
theorem eF (a b:Nat):(a:Int).fdiv (b:Int)=((a / b:Nat):Int):=by
 rw[Int.fdiv_eq_ediv_of_nonneg _ (by omega)];rfl
end
section
open Go
def smA:=
 (And.intro (And.intro (And.intro (And.intro (And.intro (And.intro @bA9 @aX3) (And.intro @cIt @cIu)) (And.intro (And.intro @aNn @aRf) (And.intro @aNo @bX0))) (And.intro (And.intro (And.intro @bX1 @cIv) (And.intro @bX2 @bOr)) (And.intro (And.intro @bA7 @bOs) (And.intro @bH5 @bXt)))) (And.intro (And.intro (And.intro (And.intro @bH6 @aKj) (And.intro @bOt @bH7)) (And.intro (And.intro @bH8 @bOu) (And.intro @aX1 @bOv))) (And.intro (And.intro (And.intro @bH9 @aNl) (And.intro @bIa @aNm)) (And.intro (And.intro @aKk @bIb) (And.intro @aX2 @bM7))))) (And.intro (And.intro (And.intro (And.intro (And.intro @bA8 @bXu) (And.intro @bXw @bOw)) (And.intro (And.intro @bOx @bXv) (And.intro @bOy @bIc))) (And.intro (And.intro (And.intro @bXx @bXy) (And.intro @bOz @bXz)) (And.intro (And.intro @bO0 @bId) (And.intro @jU @bH3)))) (And.intro (And.intro (And.intro (And.intro @bXr @bOm) (And.intro @zG @aKi)) (And.intro (And.intro @bOn @bOo) (And.intro @bXs @bOp))) (And.intro (And.intro (And.intro @bIo @bJ) (And.intro @zF @aEx)) (And.intro (And.intro @aNk @aUi) (And.intro @aXy (And.intro @aXz @cN)))))))
def smB:=
 (And.intro (And.intro (And.intro (And.intro (And.intro @Option.isSome_some.{0} (And.intro @Option.isNone_some.{0} @Option.isNone_none.{0})) (And.intro @List.getD_cons_zero.{0} (And.intro @List.getD_cons_succ.{0} @List.getD_nil.{0}))) (And.intro (And.intro @Option.bind_some.{0,0} (And.intro @Option.map_some.{0,0} @Option.bind_none.{0,0})) (And.intro @Option.map_none.{0,0} (And.intro @List.map_cons.{0,0} @List.map_nil.{0,0})))) (And.intro (And.intro (And.intro @List.head?_cons.{0} (And.intro @List.getElem?_toArray.{0} @List.getElem?_cons_succ.{0})) (And.intro @List.getElem?_cons_zero.{0} (And.intro @List.all_cons.{0} @List.all_nil.{0}))) (And.intro (And.intro @List.take_succ_cons.{0} (And.intro @List.take_zero.{0} @List.drop_succ_cons.{0})) (And.intro (And.intro @List.drop_zero.{0} @List.set_cons_succ.{0}) (And.intro @List.set_cons_zero.{0} @List.length_cons.{0}))))) (And.intro (And.intro (And.intro (And.intro @List.length_nil.{0} (And.intro @List.cons_append.{0} @List.nil_append.{0})) (And.intro @Nat.zero_add (And.intro @Nat.add_zero @Nat.one_mul))) (And.intro (And.intro @Nat.mul_one (And.intro @Int.toNat_natCast @Int.toNat_zero)) (And.intro (And.intro @decide_eq_true_eq @Bool.and_true) (And.intro @Bool.true_and @Bool.and_false)))) (And.intro (And.intro (And.intro @Bool.false_and (And.intro @Bool.not_true @Bool.not_false)) (And.intro @Bool.false_eq_true (And.intro @and_true @true_and))) (And.intro (And.intro @and_self (And.intro @not_true_eq_false @not_false_eq_true)) (And.intro (And.intro @List.mem_cons.{0} @List.not_mem_nil.{0}) (And.intro @or_false @false_or))))))
def smC:=
 (And.intro (And.intro (And.intro (And.intro (And.intro (And.intro @wrap_i64 @aEy) (And.intro @aEz @bIe)) (And.intro (And.intro @nS @nT) (And.intro @bX3 @bX4))) (And.intro (And.intro (And.intro @bX5 @bX6) (And.intro @bIf @bO1)) (And.intro (And.intro @bO2 @bIg) (And.intro @bIh @bO3)))) (And.intro (And.intro (And.intro (And.intro @bO4 @bIi) (And.intro @bO5 @bX9)) (And.intro (And.intro @bYa @bBg) (And.intro @cIw @cIx))) (And.intro (And.intro (And.intro @cIy @bM8) (And.intro @bYb @bYc)) (And.intro (And.intro @cIz @aBd) (And.intro @bIj @bIk))))) (And.intro (And.intro (And.intro (And.intro (And.intro @bO6 @bO7) (And.intro @aRg @aNp)) (And.intro (And.intro @bBf @aE0) (And.intro @bO8 @bO9))) (And.intro (And.intro (And.intro @bIm @Nat.add_sub_cancel) (And.intro @Nat.sub_zero @bX7)) (And.intro (And.intro @bX8 @bBa) (And.intro @bBb @bBc)))) (And.intro (And.intro (And.intro (And.intro @bBd @bBe) (And.intro @Int.natCast_zero @Int.natCast_one)) (And.intro (And.intro @bBh @bBi) (And.intro @aDu @aKl))) (And.intro (And.intro (And.intro @aRh @List.head?_drop.{0}) (And.intro @List.drop_drop.{0} @List.take_take.{0})) (And.intro (And.intro @List.length_take.{0} @List.length_drop.{0}) (And.intro @List.length_set.{0} (And.intro @List.length_append.{0} @List.length_replicate.{0})))))))
section
variable {P:Program}[Laid P]
theorem x1 (k:IntKind) (n:Int):tI (.int k n)= .lit (.int k n):=rfl
theorem x2 (b:Bool):tI (.bool b)= .lit (.bool b):=rfl
theorem x3 (a:Option Addr) (n c:Nat):tI (.slice a n c)= .lit (.slice a n c):=rfl
theorem x4 (a:Option Addr):tI (.pointer a)= .lit (.pointer a):=rfl
theorem x5 (v:Value):cellsOf (.lit v)=if one (.lit v)=true then some [.lit v]else none:=rfl
theorem x6 (n:Nat) (cs:List LV):cellsOf (.sl n cs)=some [.sl n cs]:=rfl
theorem x7 (cs:List LV):cellsOf (.ro cs)=some [.ro cs]:=rfl
theorem x8 (b off n sz:Nat):cellsOf (.own b off n sz)=some [.own b off n sz]:=rfl
theorem x9 (b off:Nat):cellsOf (.ptr b off)=some [.ptr b off]:=rfl
theorem x10 (f:FuncId) (cs:List LV):cellsOf (.fn f cs)=some [.fn f cs]:=rfl
theorem x11 (op:BinOp) (t:TypeId) (k:IntKind) (a:Int) (k':IntKind) (b:Int):xN P op t (.int k a) (.int k' b)=jA op (.int k a) (.int k' b):=by cases op <;>rfl
theorem x12 (t:TypeId) (n:Nat) (cs:List LV) (lo hi:Option LV):mF P t (.sl n cs) lo hi=(aZ P t).bind fun e=>(aL P e).bind fun sz=>(dO hi n n).bind fun h=>(dO lo 0 h).bind fun l=>some (.sl (h-l) ((cs.drop (l*sz)).take ((h-l)*sz))):=by
 cases he:aZ P t <;>simp[mF,he]
theorem x13 (t:TypeId) (b off n sz':Nat) (lo hi:Option LV):mF P t (.own b off n sz') lo hi=(aZ P t).bind fun e=>(aL P e).bind fun sz=>if sz'=sz then(dO hi n n).bind fun h=>match lo with
  |none=>some (.own b off h sz)
  |some val=>(dO lo 0 h).bind fun l=>if l<h then some (.own b (off+l*sz) (h-l) sz)else some (.sl 0 [])else none:=by
 cases he:aZ P t <;>simp[mF,he]
 rfl
theorem x23 (t:TypeId) (lo hi:Option LV):mF P t (.lit (.slice none 0 0)) lo hi=(aZ P t).bind fun e=>(aL P e).bind fun _=>(dO hi 0 0).bind fun h=>(dO lo 0 h).bind fun _=>some (.lit (.slice none 0 0)):=by
 cases he:aZ P t <;>simp[mF,he,nilL]
theorem x14 (k:IntKind) (n:Int):(Value.int k n).oneCell'=true:=rfl
theorem x15 (b:Bool):(Value.bool b).oneCell'=true:=rfl
theorem x16 (a:Option Addr) (n c:Nat):(Value.slice a n c).oneCell'=true:=rfl
theorem x17 (a:Option Addr):(Value.pointer a).oneCell'=true:=rfl
theorem x18 (cells:List LV) (off:Nat) (x:LV):jH cells off [x]=cells.set off x:=rfl
theorem x19 (cells:List LV) (off:Nat):jH cells off []=cells.take off++[]++cells.drop (off+0):=rfl
theorem x20 (cells:List LV) (off:Nat) (x y:LV) (l:List LV):jH cells off (x::y::l)=cells.take off++(x::y::l)++cells.drop (off+(x::y::l).length):=rfl
theorem x21 {α:Type}{i n:Int}{x y:α}(h:i<n):(if i<n then x else y)=x:=if_pos h
theorem x22 {α:Type}{i n:Int}{x y:α}(h:i≤n):(if i≤n then x else y)=x:=if_pos h
theorem y0 {x}:dY (.move x)=false:=rfl
theorem y1 {x}:dY (.assign x)=false:=rfl
theorem y2 {x}{y}{z}:dY (.pick x y z)=false:=rfl
theorem y3 {t}:dY (.alloc t)=false:=rfl
theorem y4 {t}{x}:dY (.load t x)=false:=rfl
theorem y5 {t}{p}:dY (.build t p)=false:=rfl
theorem y6 {t}{n}{p}:dY (.buildSlice t n p)=false:=rfl
theorem y7 {t}{x}{y}:dY (.store t x y)=false:=rfl
theorem y8 {t}{x}:dY (.box t x)=false:=rfl
theorem y9 {o}{t}{x}{y}{u}:dY (.binOp o t x y u)=false:=rfl
theorem y10 {o}{t}{x}:dY (.unOp o t x)=false:=rfl
theorem y11 {t}{u}{x}:dY (.convert t u x)=false:=rfl
theorem y12 {t}{x}{y}:dY (.makeSlice t x y)=false:=rfl
theorem y13 {t}{x}{l}{h}{m}:dY (.slice t x l h m)=false:=rfl
theorem y14 {t}{x}{n}:dY (.fieldAddr t x n)=false:=rfl
theorem y15 {t}{x}{n}:dY (.field t x n)=false:=rfl
theorem y16 {t}{x}{y}:dY (.indexAddr t x y)=false:=rfl
theorem y17 {t}{x}{y}:dY (.index t x y)=false:=rfl
theorem y18 {x}{n}:dY (.extract x n)=false:=rfl
end
def smF:=
 (And.intro (And.intro (And.intro (And.intro @List.forall_mem_cons.{0} (And.intro @List.not_mem_nil.{0} @false_imp_iff)) (And.intro @implies_true.{0} (And.intro @implies_true.{1} @and_true))) (And.intro (And.intro @bJ (And.intro @zF @aEx)) (And.intro @aNk (And.intro @aUi @List.getD_cons_zero.{0})))) (And.intro (And.intro (And.intro @List.getD_cons_succ.{0} (And.intro @List.take_length.{0} @Option.some.injEq.{0})) (And.intro @Option.map_some.{0,0} (And.intro @Int.natCast_zero @Int.natCast_add))) (And.intro (And.intro @Int.natCast_one (And.intro @x1 @x2)) (And.intro @x3 (And.intro @nilL.eq_1 @id_eq.{1})))))
def smD:=
 (And.intro (And.intro (And.intro (And.intro (And.intro (And.intro @Go.Lg.fetch.eq_1 (And.intro @Go.Lg.fieldAddrL.eq_1 @Go.Lg.one.eq_1)) (And.intro (And.intro @Go.Lg.one.eq_2 @Go.Lg.one.eq_3) (And.intro @Go.Lg.one.eq_4 @Go.Lg.one.eq_5))) (And.intro (And.intro (And.intro @Go.Lg.one.eq_6 @Go.Lg.one.eq_7) (And.intro @Go.Lg.one.eq_8 @Go.Lg.one.eq_9)) (And.intro (And.intro @Go.Lg.nilL.eq_1 @Go.Lg.appendL.eq_1) (And.intro @Go.Lg.buildL.eq_1 @Go.Lg.fillL.eq_1)))) (And.intro (And.intro (And.intro (And.intro @Go.Lg.fillL.eq_2 @Go.Lg.partL.eq_1) (And.intro @Go.Lg.okOf.eq_1 @Go.Lg.dg.eq_1)) (And.intro (And.intro @Go.IntKind.bits.eq_1 @Go.IntKind.bits.eq_2) (And.intro @Go.IntKind.bits.eq_3 @Go.IntKind.bits.eq_4))) (And.intro (And.intro (And.intro @Go.IntKind.bits.eq_5 @Go.IntKind.bits.eq_6) (And.intro @Go.IntKind.bits.eq_7 @Go.IntKind.bits.eq_8)) (And.intro (And.intro @bOl @bXp) (And.intro @bXo @decide_true))))) (And.intro (And.intro (And.intro (And.intro (And.intro @decide_false @beq_self_eq_true.{0}) (And.intro @ne_eq.{1} @id_eq.{1})) (And.intro (And.intro @x1 @x2) (And.intro @x3 @x4))) (And.intro (And.intro (And.intro @x5 @x6) (And.intro @x7 @x8)) (And.intro (And.intro @x9 @x10) (And.intro @x11 @x12)))) (And.intro (And.intro (And.intro (And.intro @x13 @x14) (And.intro @x15 @x16)) (And.intro (And.intro @x17 @x18) (And.intro @x19 @x20))) (And.intro (And.intro (And.intro @x21 @x22) (And.intro @x23 @y0)) (And.intro (And.intro @y1 @y2) (And.intro @y3 @y4)))))) (And.intro (And.intro (And.intro (And.intro (And.intro @y5 (And.intro @y6 @y7)) (And.intro (And.intro @y8 @y9) (And.intro @y10 @y11))) (And.intro (And.intro (And.intro @y12 @y13) (And.intro @y14 @y15)) (And.intro (And.intro @y16 @y17) (And.intro @y18 @dY.eq_1)))) (And.intro (And.intro (And.intro (And.intro @mN.eq_1 @mN.eq_2) (And.intro @nO.eq_1 @jI.eq_1)) (And.intro (And.intro @jI.eq_2 @jI.eq_3) (And.intro @jI.eq_4 @xN.eq_1))) (And.intro (And.intro (And.intro @xN.eq_2 @xN.eq_3) (And.intro @xN.eq_4 @kO.eq_1)) (And.intro (And.intro @kO.eq_2 @unV.eq_1) (And.intro @unV.eq_2 @unV.eq_3))))) (And.intro (And.intro (And.intro (And.intro (And.intro @cellsOf.eq_1 @aDh.eq_1) (And.intro @aDh.eq_2 @aDh.eq_3)) (And.intro (And.intro @lR.eq_1 @lR.eq_2) (And.intro @aM3.eq_1 @aM4.eq_1))) (And.intro (And.intro (And.intro @aM3.eq_2 @aM4.eq_2) (And.intro @dO.eq_1 @dO.eq_2)) (And.intro (And.intro @wZ.eq_1 @wZ.eq_2) (And.intro @wZ.eq_3 @jA.eq_1)))) (And.intro (And.intro (And.intro (And.intro @jA.eq_2 @jA.eq_3) (And.intro @jA.eq_4 @jA.eq_5)) (And.intro (And.intro @jA.eq_6 @jA.eq_7) (And.intro @jA.eq_8 @jA.eq_9))) (And.intro (And.intro (And.intro @jA.eq_10 @jA.eq_11) (And.intro @jA.eq_12 @jA.eq_13)) (And.intro (And.intro @jA.eq_14 @jA.eq_15) (And.intro @jA.eq_16 @jA.eq_17)))))))
def smZ:=And.intro smA (And.intro smB (And.intro smC smD))
def zI:= @bM5
def zO:= @bA5
def zP:= @aXx
theorem kD {ops:Array Oper}{base i b:Nat}(h:okD ops base i b=true):okD ops base i b=true:=h
theorem kX {A:Nat→LV}{ops:Array Oper}{base i b:Nat}(h:decide (okX A ops base i b=true)=true):okX A ops base i b=true:=of_decide_eq_true h
section
variable {P:Program}[Laid P] {na:Nat}{Φ:Exit→LS→Prop}{s:LS}
theorem aS {c:Operand}{x y:Code}{b:Bool}(hs:opnd s c= .lit (.bool b)) (hnext:lwp P na (bif b then x else y) Φ s):lwp P na (.cond c x y) Φ s:=by
 cases b with
 |true=>exact bOq hs hnext
 |false=>exact bH4 hs hnext
theorem bZ {x y:Code}(h:lwp P na x Φ s):lwp P na (bif true then x else y) Φ s:=h
theorem cA {x y:Code}(h:lwp P na y Φ s):lwp P na (bif false then x else y) Φ s:=h
theorem cB {base:Nat}{mu:Bool}{ok:Nat→Nat→Bool}{ops:Array Oper}{K:LS→Prop}{o:Oper}{l:List Oper}{i:Nat}{j:Nat}{l':List Oper}{s':LS}(hne:dY o.op=false) (hs:xR P base ok ops i (o::l) (some s)=(j,l',some s'))
  (hnext:lrun P mu base ok ops j l' s' K):lrun P mu base ok ops i (o::l) s K:=aEw (o::l) i hs hnext
end
section
inductive Stp:Prop→Prop→Prop
 |a {P:Program}[Laid P] {na:Nat}{x y:Code}{Φ:Exit→LS→Prop}{s:LS}:Stp (lwp P na (.seq x y) Φ s) (lwp P na x (exThen (lwp P na y Φ) Φ) s)
 |b {P:Program}[Laid P] {na:Nat}{id:Nat}{c:Code}{Φ:Exit→LS→Prop}{s:LS}:Stp (lwp P na (.block id c) Φ s) (lwp P na c (exBlk id Φ) s)
 |f {n:LS→Prop}{Φ:Exit→LS→Prop}{s:LS}:Stp (exThen n Φ .normal s) (n s)
 |g {n:LS→Prop}{Φ:Exit→LS→Prop}{s:LS}{i:Nat}:Stp (exThen n Φ (.exit i) s) (Φ (.exit i) s)
 |h {n:LS→Prop}{Φ:Exit→LS→Prop}{s:LS}:Stp (exThen n Φ .ret s) (Φ .ret s)
 |i {id:Nat}{Φ:Exit→LS→Prop}{s:LS}:Stp (exBlk id Φ .normal s) (Φ .normal s)
 |j {id:Nat}{Φ:Exit→LS→Prop}{s:LS}:Stp (exBlk id Φ .ret s) (Φ .ret s)
 |k {id:Nat}{Φ:Exit→LS→Prop}{s:LS}:Stp (exBlk id Φ (.exit id) s) (Φ .normal s)
 |l {id i:Nat}{Φ:Exit→LS→Prop}{s:LS}(hi:i≠id):Stp (exBlk id Φ (.exit i) s) (Φ (.exit i) s)
 |m {P:Program}[Laid P] {base i:Nat}{mu:Bool}{ok:Nat→Nat→Bool}{ops:Array Oper}{Φ:Exit→LS→Prop}{n nb k:Nat}{f:Nat→LV}{h:Nat→Option Blk}:Stp (lrun P mu base ok ops i [] ⟨n,f,h,nb⟩ (keep Φ (nb+k))) (Φ .normal ⟨n,f,h,nb+k⟩)
 |n {P:Program}[Laid P] {base i:Nat}{mu:Bool}{ok:Nat→Nat→Bool}{ops:Array Oper}{Φ:Exit→LS→Prop}{n nb m:Nat}{f:Nat→LV}{h:Nat→Option Blk}(hle:m≤nb):Stp (lrun P mu base ok ops i [] ⟨n,f,h,nb⟩ (keep Φ m)) (Φ .normal ⟨n,f,h,nb⟩)
 |d {P:Program}[Laid P] {na:Nat}{Φ:Exit→LS→Prop}{s:LS}:Stp (lwp P na .skip Φ s) (Φ .normal s)
 |c {P:Program}[Laid P] {na:Nat}{Φ:Exit→LS→Prop}{s:LS}:Stp (lwp P na .ret Φ s) (Φ .ret s)
 |e {P:Program}[Laid P] {na:Nat}{Φ:Exit→LS→Prop}{s:LS}{id:Nat}:Stp (lwp P na (.exit id) Φ s) (Φ (.exit id) s)
theorem zS {G H:Prop}(h:Stp G H) (hk:H):G:=by
 cases h with
 |a=>exact aUh hk
 |b=>exact vY hk
 |f=>exact bOk hk
 |g=>exact aNj hk
 |h=>exact aRb hk
 |i=>exact bM5 hk
 |j=>exact aXw hk
 |k=>exact aRc hk
 |l hi=>exact bA4 hi hk
 |m=>exact bXq hk
 |n hle=>exact bA6 hle hk
 |d=>exact bOh hk
 |c=>exact bXn hk
 |e=>exact bOi hk
theorem zq {P:Program}[Laid P] {base i:Nat}{mu:Bool}{ok:Nat→Nat→Bool}{ops:Array Oper}{l:List Oper}{s:LS}{K:LS→Prop}(h:lrun P mu base ok ops i l s K):lrun P mu base ok ops i l s K:=h
theorem zT {P:Program}[Laid P] {base i:Nat}{mu:Bool}{ok:Nat→Nat→Bool}{ops:Array Oper}{o:Oper}{rest:List Oper}{n nb d:Nat}{F:Nat→LV}{H:Nat→Option Blk}{K:LS→Prop}{f:FuncId}{args:List LV}{fz:List Nat}{r:LV}
  (hd:o.dst=some d) (hn:d<n) (hw:cS ops o ⟨n,F,H,nb⟩=some true) (hs:aF P (base+i) (ok i) o.op ⟨n,F,H,nb⟩=some (.call f args fz)) (hg:cU P f args r)
  (hk:lrun P mu base ok ops (i+1) rest ⟨n,dE F d r,if fz=[]then H else bY H fz,nb⟩ K):lrun P mu base ok ops i (o::rest) ⟨n,F,H,nb⟩ K:=rY hd hn hw hs hg hk
end
def smL:=And.intro @List.forall_mem_cons.{0} (And.intro @List.not_mem_nil.{0} (And.intro @false_imp_iff (And.intro @implies_true.{0} (And.intro @implies_true.{1} @and_true))))
theorem aW {n m:Nat}(h:Nat.ble n m=true):n≤m:=Nat.le_of_ble_eq_true h
def gW:=And.intro @fF.eq_1 (And.intro @fF.eq_2 (And.intro @rOs.eq_1 (And.intro @rOs.eq_2 (And.intro @rO.eq_1 (And.intro @rO.eq_2 @Option.map_some.{0,0})))))
section
variable {P:Program}[Laid P] {na base i j d n nb id:Nat}{mu draw b:Bool}{ok:Nat→Nat→Bool}{ops:Array Oper}{o:Oper}{l l':List Oper}{F:Nat→LV}{H:Nat→Option Blk}{Φ:Exit→LS→Prop}{K:LS→Prop}{s s':LS}{f:FuncId}{args:List LV}{fz:List Nat}{r v:LV}{rs:List ResultVar}{e:Exit}{G G':Prop}
theorem nd {a b:Prop}(x:a) (y:b):a∧b:=⟨x,y⟩
structure Bq (G:Prop):Prop where
  g:G
theorem zTs (hd:o.dst=some d) (hn:d<n) (hw:cS ops o ⟨n,F,H,nb⟩=some true) (hs:aF P (base+i) (ok i) o.op ⟨n,F,H,nb⟩=some (.call f args fz)) (hg:cU P f args r) (k:lrun P mu base ok ops (i+1) l ⟨n,dE F d r,if fz=[]then H else bY H fz,nb⟩ K):lrun P mu base ok ops i (o::l) ⟨n,F,H,nb⟩ K:=rY hd hn hw hs hg k
theorem zRs (he:e= .ret∨e= .normal) (h:fF P rs s=some v) (k:(pv s.h (fun _=>true) 6 v).map (·.1)=some r):goodPost P rs r e s:=by
  rcases he with rfl |rfl
  · exact dI h k
  · exact dK h k
end
section
variable {P:Program}[Laid P] {na base i j d n nb nb' ty:Nat}{mu b fz0:Bool}{ok:Nat→Nat→Bool}{ops:Array Oper}{o:Oper}{F f:Nat→LV}{H h:Nat→Option Blk}{Φ:Exit→LS→Prop}{K:LS→Prop}{s s':LS}{l:List (Nat×LV)}{hl:List (Nat×Blk)}{cs cs':List LV}{fn:FuncId}{args:List LV}{fz:List Nat}{r v:LV}{rs:List ResultVar}{e:Exit}{A G G':Prop}{lo:List Oper}
theorem dP (k:G') (h:Bq G'→G:=by intro k;(repeat(first|apply zO (by decide+kernel)|apply zP (by decide+kernel)|(apply zS;(case h=>constructor<;>decide))|((first|apply cB rfl|apply aS|apply zT rfl (by decide) rfl);(case hs=>(simp(disch:=first|omega|exact kD rfl|exact kX rfl) only[smY,simprocAttr,bl,i64,smT];exact rfl));first|refine bZ ?_|refine cA ?_|refine zq ?_|(case hg=>assumption))));exact k.g):G:=h ⟨k⟩
theorem sA (k:G') (h:Bq G'→G:=by intro k;(repeat(first|apply zO (by decide+kernel)|apply zP (by decide+kernel)|(apply zS;(case h=>constructor<;>decide))|((first|apply cB rfl|apply aS|apply zT rfl (by decide) rfl);(case hs=>(simp(disch:=first|omega|exact kD rfl|exact kX rfl) only[smY,simprocAttr,bl,i64,smE];exact rfl));first|refine bZ ?_|refine cA ?_|refine zq ?_|(case hg=>assumption))));exact k.g):G:=h ⟨k⟩
theorem bIr (k:G') (h:Bq G'→G:=by intro k;(repeat(first|apply zO (by decide+kernel)|apply zP (by decide+kernel)|(apply zS;(case h=>constructor<;>decide))|((first|apply cB rfl|apply aS|apply zT rfl (by decide) rfl);(case hs=>(simp(disch:=first|omega|exact kD rfl|exact kX rfl) only[smY,simprocAttr,bl,i64,smE,hg];exact rfl));first|refine bZ ?_|refine cA ?_|refine zq ?_|(case hg=>assumption))));exact k.g):G:=h ⟨k⟩
theorem bIs (k:G') (h:Bq G'→G:=by intro k;(repeat(first|apply zO (by decide+kernel)|apply zP (by decide+kernel)|(apply zS;(case h=>constructor<;>decide))|((first|apply cB rfl|apply aS|apply zT rfl (by decide) rfl);(case hs=>(simp(disch:=first|omega|exact kD rfl|exact kX rfl) only[smY,simprocAttr,bl,i64,smT,smO,smM];exact rfl));first|refine bZ ?_|refine cA ?_|refine zq ?_|(case hg=>assumption))));exact k.g):G:=h ⟨k⟩
theorem bIt (k:G') (h:Bq G'→G:=by intro k;(repeat(first|apply zO (by decide+kernel)|apply zP (by decide+kernel)|(apply zS;(case h=>constructor<;>decide))|((first|apply cB rfl|apply aS|apply zT rfl (by decide) rfl);(case hs=>(simp(disch:=first|omega|exact kD rfl|exact kX rfl) only[smY,simprocAttr,bl,i64,smT,smO,smM,op_len,@op_td,oqp_none,oqp_some];exact rfl));first|refine bZ ?_|refine cA ?_|refine zq ?_|(case hg=>assumption))));exact k.g):G:=h ⟨k⟩
theorem bPa (k:G') (h:Bq G'→G:=by intro k;(repeat(first|apply zO (by decide+kernel)|apply zP (by decide+kernel)|(apply zS;(case h=>constructor<;>decide))|((first|apply cB rfl|apply aS|apply zT rfl (by decide) rfl);(case hs=>(simp(disch:=first|omega|exact kD rfl|exact kX rfl) only[smY,simprocAttr,bl,i64,smE,bne_self_eq_false];exact rfl));first|refine bZ ?_|refine cA ?_|refine zq ?_|(case hg=>assumption))));exact k.g):G:=h ⟨k⟩
theorem bPb (k:G') (h:Bq G'→G:=by intro k;(repeat(first|apply zO (by decide+kernel)|apply zP (by decide+kernel)|(apply zS;(case h=>constructor<;>decide))|((first|apply cB rfl|apply aS|apply zT rfl (by decide) rfl);(case hs=>(simp(disch:=first|omega|exact kD rfl|exact kX rfl) only[smY,simprocAttr,bl,i64,smT,@op_take,op_len];exact rfl));first|refine bZ ?_|refine cA ?_|refine zq ?_|(case hg=>assumption))));exact k.g):G:=h ⟨k⟩
theorem bPc (k:G') (h:Bq G'→G:=by intro k;(repeat(first|apply zO (by decide+kernel)|apply zP (by decide+kernel)|(apply zS;(case h=>constructor<;>decide))|((first|apply cB rfl|apply aS|apply zT rfl (by decide) rfl);(case hs=>(simp(disch:=first|omega|exact kD rfl|exact kX rfl) only[smY,simprocAttr,bl,i64,u64,smS];exact rfl));first|refine bZ ?_|refine cA ?_|refine zq ?_|(case hg=>assumption))));exact k.g):G:=h ⟨k⟩
theorem vZ (k:G') (h:Bq G'→G:=by intro k;(repeat(first|apply zO (by decide+kernel)|apply zP (by decide+kernel)|(apply zS;(case h=>constructor<;>decide))|((first|apply cB rfl|apply aS|apply zT rfl (by decide) rfl);(case hs=>(simp(disch:=first|omega|exact kD rfl|exact kX rfl) only[smY,simprocAttr,bl,u32,u64,i64];exact rfl));first|refine bZ ?_|refine cA ?_|refine zq ?_|(case hg=>assumption))));exact k.g):G:=h ⟨k⟩
theorem zA3 (k:G') (h:Bq G'→G:=by intro k;(repeat(first|apply zO (by decide+kernel)|apply zP (by decide+kernel)|(apply zS;(case h=>constructor<;>decide))|((first|apply cB rfl|apply aS|apply zT rfl (by decide) rfl);(case hs=>(simp(disch:=first|omega|exact kD rfl|exact kX rfl) only[smY,simprocAttr,bl,i64];exact rfl));first|refine bZ ?_|refine cA ?_|refine zq ?_|(case hg=>assumption))));exact k.g):G:=h ⟨k⟩
theorem zA4 (k:G') (h:Bq G'→G:=by intro k;(repeat(first|apply zO (by decide+kernel)|apply zP (by decide+kernel)|(apply zS;(case h=>constructor<;>decide))|((first|apply cB rfl|apply aS|apply zT rfl (by decide) rfl);(case hs=>(simp(disch:=first|omega|exact kD rfl|exact kX rfl) only[smY,simprocAttr,bl,i64,smT,smO];exact rfl));first|refine bZ ?_|refine cA ?_|refine zq ?_|(case hg=>assumption))));exact k.g):G:=h ⟨k⟩
theorem zA5 (k:G') (h:Bq G'→G:=by intro k;(repeat(first|apply zO (by decide+kernel)|apply zP (by decide+kernel)|(apply zS;(case h=>constructor<;>decide))|((first|apply cB rfl|apply aS|apply zT rfl (by decide) rfl);(case hs=>(simp(disch:=first|omega|exact kD rfl|exact kX rfl) only[smY,simprocAttr,bl,i64,smS];exact rfl));first|refine bZ ?_|refine cA ?_|refine zq ?_|(case hg=>assumption))));exact k.g):G:=h ⟨k⟩
theorem zA6 (k:G') (h:Bq G'→G:=by intro k;(repeat(first|apply zO (by decide+kernel)|apply zP (by decide+kernel)|(apply zS;(case h=>constructor<;>decide))|((first|apply cB rfl|apply aS|apply zT rfl (by decide) rfl);(case hs=>(simp(disch:=first|omega|exact kD rfl|exact kX rfl) only[smY,simprocAttr,bl,i64,bP,undef];exact rfl));first|refine bZ ?_|refine cA ?_|refine zq ?_|(case hg=>assumption))));exact k.g):G:=h ⟨k⟩
theorem zA7 (k:G') (h:Bq G'→G:=by intro k;(repeat(first|apply zO (by decide+kernel)|apply zP (by decide+kernel)|(apply zS;(case h=>constructor<;>decide))|((first|apply cB rfl|apply aS|apply zT rfl (by decide) rfl);(case hs=>(simp(disch:=first|omega|exact kD rfl|exact kX rfl) only[smY,simprocAttr,bl,i64,smE,bP,undef];exact rfl));first|refine bZ ?_|refine cA ?_|refine zq ?_|(case hg=>assumption))));exact k.g):G:=h ⟨k⟩
theorem zA8 (k:G') (h:Bq G'→G:=by intro k;(repeat(first|apply zO (by decide+kernel)|apply zP (by decide+kernel)|(apply zS;(case h=>constructor<;>decide))|((first|apply cB rfl|apply aS|apply zT rfl (by decide) rfl);(case hs=>(simp(disch:=first|omega|exact kD rfl|exact kX rfl) only[smY,simprocAttr,bl,i64,smT,smO,smE];exact rfl));first|refine bZ ?_|refine cA ?_|refine zq ?_|(case hg=>assumption))));exact k.g):G:=h ⟨k⟩
theorem zA9 (k:G') (h:Bq G'→G:=by intro k;(repeat(first|apply zO (by decide+kernel)|apply zP (by decide+kernel)|(apply zS;(case h=>constructor<;>decide))|((first|apply cB rfl|apply aS|apply zT rfl (by decide) rfl);(case hs=>(simp(disch:=first|omega|exact kD rfl|exact kX rfl) only[smY,simprocAttr,bl,i64,smT,smO,smE,F0,F1,F2];exact rfl));first|refine bZ ?_|refine cA ?_|refine zq ?_|(case hg=>assumption))));exact k.g):G:=h ⟨k⟩
theorem cZ (hX:A) (k:G') (h:A→Bq G'→G:=by intro hX k;(repeat(first|apply zO (by decide+kernel)|apply zP (by decide+kernel)|(apply zS;(case h=>constructor<;>decide))|((first|apply cB rfl|apply aS|apply zT rfl (by decide) rfl);(case hs=>(simp(disch:=first|omega|exact kD rfl|exact kX rfl) only[smY,simprocAttr,bl,i64,smT,hX];exact rfl));first|refine bZ ?_|refine cA ?_|refine zq ?_|(case hg=>assumption))));exact k.g):G:=h hX ⟨k⟩
theorem jR (hX:A) (k:G') (h:A→Bq G'→G:=by intro hX k;(repeat(first|apply zO (by decide+kernel)|apply zP (by decide+kernel)|(apply zS;(case h=>constructor<;>decide))|((first|apply cB rfl|apply aS|apply zT rfl (by decide) rfl);(case hs=>(simp(disch:=first|omega|exact kD rfl|exact kX rfl) only[smY,simprocAttr,bl,i64,smE,hX];exact rfl));first|refine bZ ?_|refine cA ?_|refine zq ?_|(case hg=>assumption))));exact k.g):G:=h hX ⟨k⟩
theorem bBn (hX:A) (k:G') (h:A→Bq G'→G:=by intro hX k;(repeat(first|apply zO (by decide+kernel)|apply zP (by decide+kernel)|(apply zS;(case h=>constructor<;>decide))|((first|apply cB rfl|apply aS|apply zT rfl (by decide) rfl);(case hs=>(simp(disch:=first|omega|exact kD rfl|exact kX rfl) only[smY,simprocAttr,bl,i64,smE,bne_self_eq_false,hX];exact rfl));first|refine bZ ?_|refine cA ?_|refine zq ?_|(case hg=>assumption))));exact k.g):G:=h hX ⟨k⟩
theorem bBo (hX:A) (k:G') (h:A→Bq G'→G:=by intro hX k;(repeat(first|apply zO (by decide+kernel)|apply zP (by decide+kernel)|(apply zS;(case h=>constructor<;>decide))|((first|apply cB rfl|apply aS|apply zT rfl (by decide) rfl);(case hs=>(simp(disch:=first|omega|exact kD rfl|exact kX rfl) only[smY,simprocAttr,bl,i64,smT,smO,smM,op_len,@op_td,oqp_none,oqp_some,op_drop,hX];exact rfl));first|refine bZ ?_|refine cA ?_|refine zq ?_|(case hg=>assumption))));exact k.g):G:=h hX ⟨k⟩
theorem bBp (hX:A) (k:G') (h:A→Bq G'→G:=by intro hX k;(repeat(first|apply zO (by decide+kernel)|apply zP (by decide+kernel)|(apply zS;(case h=>constructor<;>decide))|((first|apply cB rfl|apply aS|apply zT rfl (by decide) rfl);(case hs=>(simp(disch:=first|omega|exact kD rfl|exact kX rfl) only[smY,simprocAttr,bl,u32,u64,i64,hX];exact rfl));first|refine bZ ?_|refine cA ?_|refine zq ?_|(case hg=>assumption))));exact k.g):G:=h hX ⟨k⟩
theorem kK (hX:A) (k:G') (h:A→Bq G'→G:=by intro hX k;(repeat(first|apply zO (by decide+kernel)|apply zP (by decide+kernel)|(apply zS;(case h=>constructor<;>decide))|((first|apply cB rfl|apply aS|apply zT rfl (by decide) rfl);(case hs=>(simp(disch:=first|omega|exact kD rfl|exact kX rfl) only[smY,simprocAttr,bl,i64,smT,smO,smE,hX];exact rfl));first|refine bZ ?_|refine cA ?_|refine zq ?_|(case hg=>assumption))));exact k.g):G:=h hX ⟨k⟩
theorem tW (hX:A) (k:G') (h:A→Bq G'→G:=by intro hX k;(repeat(first|apply zO (by decide+kernel)|apply zP (by decide+kernel)|(apply zS;(case h=>constructor<;>decide))|((first|apply cB rfl|apply aS|apply zT rfl (by decide) rfl);(case hs=>(simp(disch:=first|omega|exact kD rfl|exact kX rfl) only[smY,simprocAttr,bl,i64,smT,smO,hX];exact rfl));first|refine bZ ?_|refine cA ?_|refine zq ?_|(case hg=>assumption))));exact k.g):G:=h hX ⟨k⟩
theorem xA (hX:A) (k:G') (h:A→Bq G'→G:=by intro hX k;(repeat(first|apply zO (by decide+kernel)|apply zP (by decide+kernel)|(apply zS;(case h=>constructor<;>decide))|((first|apply cB rfl|apply aS|apply zT rfl (by decide) rfl);(case hs=>(simp(disch:=first|omega|exact kD rfl|exact kX rfl) only[smY,simprocAttr,bl,i64,bP,undef,hX];exact rfl));first|refine bZ ?_|refine cA ?_|refine zq ?_|(case hg=>assumption))));exact k.g):G:=h hX ⟨k⟩
theorem aBf (hX:A) (k:G') (h:A→Bq G'→G:=by intro hX k;(repeat(first|apply zO (by decide+kernel)|apply zP (by decide+kernel)|(apply zS;(case h=>constructor<;>decide))|((first|apply cB rfl|apply aS|apply zT rfl (by decide) rfl);(case hs=>(simp(disch:=first|omega|exact kD rfl|exact kX rfl) only[smY,simprocAttr,bl,i64,hX];exact rfl));first|refine bZ ?_|refine cA ?_|refine zq ?_|(case hg=>assumption))));exact k.g):G:=h hX ⟨k⟩
theorem aBg (hX:A) (k:G') (h:A→Bq G'→G:=by intro hX k;(repeat(first|apply zO (by decide+kernel)|apply zP (by decide+kernel)|(apply zS;(case h=>constructor<;>decide))|((first|apply cB rfl|apply aS|apply zT rfl (by decide) rfl);(case hs=>(simp(disch:=first|omega|exact kD rfl|exact kX rfl) only[smY,simprocAttr,bl,i64,smE,bP,undef,hX];exact rfl));first|refine bZ ?_|refine cA ?_|refine zq ?_|(case hg=>assumption))));exact k.g):G:=h hX ⟨k⟩
theorem aNu (hX:A) (k:G') (h:A→Bq G'→G:=by intro hX k;(repeat(first|apply zO (by decide+kernel)|apply zP (by decide+kernel)|(apply zS;(case h=>constructor<;>decide))|((first|apply cB rfl|apply aS|apply zT rfl (by decide) rfl);(case hs=>(simp(disch:=first|omega|exact kD rfl|exact kX rfl) only[smY,simprocAttr,bl,i64,smT,smO,smE,F0,F1,F2,hX];exact rfl));first|refine bZ ?_|refine cA ?_|refine zq ?_|(case hg=>assumption))));exact k.g):G:=h hX ⟨k⟩
theorem bIu (hX:A) (k:G') (h:A→Bq G'→G:=by intro hX k;(repeat(first|apply zO (by decide+kernel)|apply zP (by decide+kernel)|(apply zS;(case h=>constructor<;>decide))|((first|apply cB rfl|apply aS|apply zT rfl (by decide) rfl);(case hs=>(simp(disch:=first|omega|exact kD rfl|exact kX rfl) only[smY,simprocAttr,bl,i64,smT,smO,@rx_take,rx_plainT,@ren_rx,hX];exact rfl));first|refine bZ ?_|refine cA ?_|refine zq ?_|(case hg=>assumption))));exact k.g):G:=h hX ⟨k⟩
theorem bIv (hX:A) (k:G') (h:A→Bq G'→G:=by intro hX k;(repeat(first|apply zO (by decide+kernel)|apply zP (by decide+kernel)|(apply zS;(case h=>constructor<;>decide))|((first|apply cB rfl|apply aS|apply zT rfl (by decide) rfl);(case hs=>(simp(disch:=first|omega|exact kD rfl|exact kX rfl) only[smY,simprocAttr,bl,i64,smT,smO,smE,hg,hX];exact rfl));first|refine bZ ?_|refine cA ?_|refine zq ?_|(case hg=>assumption))));exact k.g):G:=h hX ⟨k⟩
theorem aM (k:G') (h:Bq G'→G:=by intro k;(repeat(first|apply zO (by decide+kernel)|apply zP (by decide+kernel)|(apply zS;(case h=>constructor<;>decide))|((first|apply cB rfl|apply aS);(case hs=>(simp(disch:=first|omega|exact kD rfl|exact kX rfl) only[smY,simprocAttr,bl,u32,u64,i64];exact rfl));first|refine bZ ?_|refine cA ?_|refine zq ?_)));exact k.g):G:=h ⟨k⟩
theorem zG1 (k:G') (h:Bq G'→G:=by intro k;(repeat(first|apply zO (by decide+kernel)|apply zP (by decide+kernel)|(apply zS;(case h=>constructor<;>decide))|((first|apply cB rfl|apply aS);(case hs=>(simp(disch:=first|omega|exact kD rfl|exact kX rfl) only[smY,simprocAttr,bl,u32,u64,i64,tn_sub2];exact rfl));first|refine bZ ?_|refine cA ?_|refine zq ?_)));exact k.g):G:=h ⟨k⟩
theorem zG2 (k:G') (h:Bq G'→G:=by intro k;(repeat(first|apply zO (by decide+kernel)|apply zP (by decide+kernel)|(apply zS;(case h=>constructor<;>decide))|((first|apply cB rfl|apply aS);(case hs=>(simp(disch:=first|omega|exact kD rfl|exact kX rfl) only[smY,simprocAttr,bl,u32,u64,i64,bne_self_eq_false];exact rfl));first|refine bZ ?_|refine cA ?_|refine zq ?_)));exact k.g):G:=h ⟨k⟩
theorem tX (hX:A) (k:G') (h:A→Bq G'→G:=by intro hX k;(repeat(first|apply zO (by decide+kernel)|apply zP (by decide+kernel)|(apply zS;(case h=>constructor<;>decide))|((first|apply cB rfl|apply aS);(case hs=>(simp(disch:=first|omega|exact kD rfl|exact kX rfl) only[smY,simprocAttr,bl,u32,u64,i64,hX];exact rfl));first|refine bZ ?_|refine cA ?_|refine zq ?_)));exact k.g):G:=h hX ⟨k⟩
theorem aE1 (hX:A) (k:G') (h:A→Bq G'→G:=by intro hX k;(repeat(first|apply zO (by decide+kernel)|apply zP (by decide+kernel)|(apply zS;(case h=>constructor<;>decide))|((first|apply cB rfl|apply aS);(case hs=>(simp(disch:=first|omega|exact kD rfl|exact kX rfl) only[smY,simprocAttr,bl,u32,u64,i64,eF,hX];exact rfl));first|refine bZ ?_|refine cA ?_|refine zq ?_)));exact k.g):G:=h hX ⟨k⟩
theorem cQ (a:o.dst=some d:=by exact rfl) (q:d<n:=by decide) (w:cS ops o ⟨n,F,H,nb⟩=some true:=by exact rfl) (h:aF P (base+i) (ok i) o.op ⟨n,F,H,nb⟩=some (.call fn args fz):=by simp(disch:=first|omega|exact kD rfl|exact kX rfl) only[smY,simprocAttr,bl,u32,u64,i64];exact rfl) (g:cU P fn args r) (k:lrun P mu base ok ops (i+1) lo ⟨n,dE F d r,if fz=[]then H else bY H fz,nb⟩ K):lrun P mu base ok ops i (o::lo) ⟨n,F,H,nb⟩ K:=zTs a q w h g k
theorem zH1 (a:o.dst=some d:=by exact rfl) (q:d<n:=by decide) (w:cS ops o ⟨n,F,H,nb⟩=some true:=by exact rfl) (h:aF P (base+i) (ok i) o.op ⟨n,F,H,nb⟩=some (.call fn args fz):=by simp(disch:=first|omega|exact kD rfl|exact kX rfl) only[smY,simprocAttr,bl,u32,u64,i64,tn_sub2];exact rfl) (g:cU P fn args r) (k:lrun P mu base ok ops (i+1) lo ⟨n,dE F d r,if fz=[]then H else bY H fz,nb⟩ K):lrun P mu base ok ops i (o::lo) ⟨n,F,H,nb⟩ K:=zTs a q w h g k
theorem aHq (hX:A) (a:o.dst=some d:=by exact rfl) (q:d<n:=by decide) (w:cS ops o ⟨n,F,H,nb⟩=some true:=by exact rfl) (h:A→aF P (base+i) (ok i) o.op ⟨n,F,H,nb⟩=some (.call fn args fz):=by intro hX;simp(disch:=first|omega|exact kD rfl|exact kX rfl) only[smY,simprocAttr,bl,u32,u64,i64,hX];exact rfl) (g:cU P fn args r) (k:lrun P mu base ok ops (i+1) lo ⟨n,dE F d r,if fz=[]then H else bY H fz,nb⟩ K):lrun P mu base ok ops i (o::lo) ⟨n,F,H,nb⟩ K:=zTs a q w (h hX) g k
theorem zO0 (b0:Nat) (hb:h b0=some ⟨ty,cs',fz0⟩:=by simp only[smF,dg,renL,renLs,simprocAttr,bl,u32,u64,i64];exact rfl) (q:(∀ p∈l,renL 1 (fun _=>b0) p.2=some (f p.1))∧cs'=cs∧∀ c∈cs,aB c=true:=by refine⟨?_,?_,?_⟩<;>(first|exact aE _|with_reducible rfl|(simp only[smF,dg,renL,renLs,simprocAttr,bl,u32,u64,i64];done)|(simp only[smF,dg,renL,renLs,simprocAttr,bl,u32,u64,i64];(repeat' apply And.intro);all_goals(first|trivial|rfl|(simp;done)))|((repeat' apply And.intro);all_goals(first|trivial|rfl|(simp;done))))) (ha:na=0∨na=1∧b0=0:=by decide):Sub na ⟨n,f,h,nb⟩ ⟨n,lk l,cG [(0,⟨ty,cs,fz0⟩)],1⟩:=Sub.heap1 b0 q.1 hb q.2.1 q.2.2 ha
theorem zO1 (b0:Nat) (hb:h b0=some ⟨ty,cs',fz0⟩:=by simp only[smF,dg,renL,renLs,simprocAttr,bl,i64];exact rfl) (q:(∀ p∈l,renL 1 (fun _=>b0) p.2=some (f p.1))∧cs'=cs∧∀ c∈cs,aB c=true:=by refine⟨?_,?_,?_⟩<;>(first|exact aE _|with_reducible rfl|(simp only[smF,dg,renL,renLs,simprocAttr,bl,i64];done)|(simp only[smF,dg,renL,renLs,simprocAttr,bl,i64];(repeat' apply And.intro);all_goals(first|trivial|rfl|(simp;done)))|((repeat' apply And.intro);all_goals(first|trivial|rfl|(simp;done))))) (ha:na=0∨na=1∧b0=0:=by decide):Sub na ⟨n,f,h,nb⟩ ⟨n,lk l,cG [(0,⟨ty,cs,fz0⟩)],1⟩:=Sub.heap1 b0 q.1 hb q.2.1 q.2.2 ha
theorem zO2 (b0:Nat) (hb:h b0=some ⟨ty,cs',fz0⟩:=by simp only[smF,dg,renL,renLs,simprocAttr,bl,i64,smE];exact rfl) (q:(∀ p∈l,renL 1 (fun _=>b0) p.2=some (f p.1))∧cs'=cs∧∀ c∈cs,aB c=true:=by refine⟨?_,?_,?_⟩<;>(first|exact aE _|with_reducible rfl|(simp only[smF,dg,renL,renLs,simprocAttr,bl,i64,smE];done)|(simp only[smF,dg,renL,renLs,simprocAttr,bl,i64,smE];(repeat' apply And.intro);all_goals(first|trivial|rfl|(simp;done)))|((repeat' apply And.intro);all_goals(first|trivial|rfl|(simp;done))))) (ha:na=0∨na=1∧b0=0:=by decide):Sub na ⟨n,f,h,nb⟩ ⟨n,lk l,cG [(0,⟨ty,cs,fz0⟩)],1⟩:=Sub.heap1 b0 q.1 hb q.2.1 q.2.2 ha
theorem zO3 (b0:Nat) (hb:h b0=some ⟨ty,cs',fz0⟩:=by simp only[smF,dg,renL,renLs,simprocAttr,bl,u32,u64,i64,tn_sub2];exact rfl) (q:(∀ p∈l,renL 1 (fun _=>b0) p.2=some (f p.1))∧cs'=cs∧∀ c∈cs,aB c=true:=by refine⟨?_,?_,?_⟩<;>(first|exact aE _|with_reducible rfl|(simp only[smF,dg,renL,renLs,simprocAttr,bl,u32,u64,i64,tn_sub2];done)|(simp only[smF,dg,renL,renLs,simprocAttr,bl,u32,u64,i64,tn_sub2];(repeat' apply And.intro);all_goals(first|trivial|rfl|(simp;done)))|((repeat' apply And.intro);all_goals(first|trivial|rfl|(simp;done))))) (ha:na=0∨na=1∧b0=0:=by decide):Sub na ⟨n,f,h,nb⟩ ⟨n,lk l,cG [(0,⟨ty,cs,fz0⟩)],1⟩:=Sub.heap1 b0 q.1 hb q.2.1 q.2.2 ha
theorem zO4 (b0:Nat) (hb:h b0=some ⟨ty,cs',fz0⟩:=by simp only[smF,dg,renL,renLs,simprocAttr,bl,i64,smT];exact rfl) (q:(∀ p∈l,renL 1 (fun _=>b0) p.2=some (f p.1))∧cs'=cs∧∀ c∈cs,aB c=true:=by refine⟨?_,?_,?_⟩<;>(first|exact aE _|with_reducible rfl|(simp only[smF,dg,renL,renLs,simprocAttr,bl,i64,smT];done)|(simp only[smF,dg,renL,renLs,simprocAttr,bl,i64,smT];(repeat' apply And.intro);all_goals(first|trivial|rfl|(simp;done)))|((repeat' apply And.intro);all_goals(first|trivial|rfl|(simp;done))))) (ha:na=0∨na=1∧b0=0:=by decide):Sub na ⟨n,f,h,nb⟩ ⟨n,lk l,cG [(0,⟨ty,cs,fz0⟩)],1⟩:=Sub.heap1 b0 q.1 hb q.2.1 q.2.2 ha
theorem zP0 (hf:∀ p∈l,f p.1=p.2∧renL nb' id p.2=some p.2:=by simp only[smF,dg,renL,renLs,simprocAttr,bl,u32,u64,i64]) (ha:na≤nb':=by decide):Sub na ⟨n,f,h,nb⟩ ⟨n,lk l,cG [],nb'⟩:=Sub.plain hf ha
theorem zP1 (hf:∀ p∈l,f p.1=p.2∧renL nb' id p.2=some p.2:=by simp only[smF,dg,renL,renLs,simprocAttr,bl,i64]) (ha:na≤nb':=by decide):Sub na ⟨n,f,h,nb⟩ ⟨n,lk l,cG [],nb'⟩:=Sub.plain hf ha
theorem zP2 (hf:∀ p∈l,f p.1=p.2∧renL nb' id p.2=some p.2:=by simp only[smF,dg,renL,renLs,simprocAttr,bl,i64,smT]) (ha:na≤nb':=by decide):Sub na ⟨n,f,h,nb⟩ ⟨n,lk l,cG [],nb'⟩:=Sub.plain hf ha
theorem lU (a:e= .ret∨e= .normal:=by first|exact .inl rfl|exact .inr rfl) (h:fF P rs s=some v:=by simp only[gW];simp(disch:=first|omega|exact kD rfl|exact kX rfl) only[smY,simprocAttr,bl,i64,smT];exact rfl) (k:(pv s.h (fun _=>true) 6 v).map (·.1)=some r:=by simp(disch:=first|omega|exact kD rfl|exact kX rfl) only[smY,simprocAttr,bl,i64,smT]):goodPost P rs r e s:=zRs a h k
theorem lV (a:e= .ret∨e= .normal:=by first|exact .inl rfl|exact .inr rfl) (h:fF P rs s=some v:=by simp only[gW];simp(disch:=first|omega|exact kD rfl|exact kX rfl) only[smY,simprocAttr,bl,u32,u64,i64];exact rfl) (k:(pv s.h (fun _=>true) 6 v).map (·.1)=some r:=by simp(disch:=first|omega|exact kD rfl|exact kX rfl) only[smY,simprocAttr,bl,u32,u64,i64]):goodPost P rs r e s:=zRs a h k
theorem zQ2 (a:e= .ret∨e= .normal:=by first|exact .inl rfl|exact .inr rfl) (h:fF P rs s=some v:=by simp only[gW];simp(disch:=first|omega|exact kD rfl|exact kX rfl) only[smY,simprocAttr,bl,i64,smE];exact rfl) (k:(pv s.h (fun _=>true) 6 v).map (·.1)=some r:=by simp(disch:=first|omega|exact kD rfl|exact kX rfl) only[smY,simprocAttr,bl,i64,smE]):goodPost P rs r e s:=zRs a h k
theorem zQ3 (a:e= .ret∨e= .normal:=by first|exact .inl rfl|exact .inr rfl) (h:fF P rs s=some v:=by simp only[gW];simp(disch:=first|omega|exact kD rfl|exact kX rfl) only[smY,simprocAttr,bl,i64,smS];exact rfl) (k:(pv s.h (fun _=>true) 6 v).map (·.1)=some r:=by simp(disch:=first|omega|exact kD rfl|exact kX rfl) only[smY,simprocAttr,bl,i64,smS]):goodPost P rs r e s:=zRs a h k
theorem zQ4 (a:e= .ret∨e= .normal:=by first|exact .inl rfl|exact .inr rfl) (h:fF P rs s=some v:=by simp only[gW];simp(disch:=first|omega|exact kD rfl|exact kX rfl) only[smY,simprocAttr,bl,i64,bP,undef];exact rfl) (k:(pv s.h (fun _=>true) 6 v).map (·.1)=some r:=by simp(disch:=first|omega|exact kD rfl|exact kX rfl) only[smY,simprocAttr,bl,i64,bP,undef]):goodPost P rs r e s:=zRs a h k
theorem zQ5 (a:e= .ret∨e= .normal:=by first|exact .inl rfl|exact .inr rfl) (h:fF P rs s=some v:=by simp only[gW];simp(disch:=first|omega|exact kD rfl|exact kX rfl) only[smY,simprocAttr,bl,i64,smT,smO];exact rfl) (k:(pv s.h (fun _=>true) 6 v).map (·.1)=some r:=by simp(disch:=first|omega|exact kD rfl|exact kX rfl) only[smY,simprocAttr,bl,i64,smT,smO]):goodPost P rs r e s:=zRs a h k
theorem zQ6 (a:e= .ret∨e= .normal:=by first|exact .inl rfl|exact .inr rfl) (h:fF P rs s=some v:=by simp only[gW];simp(disch:=first|omega|exact kD rfl|exact kX rfl) only[smY,simprocAttr,bl,i64,smE,bP,undef];exact rfl) (k:(pv s.h (fun _=>true) 6 v).map (·.1)=some r:=by simp(disch:=first|omega|exact kD rfl|exact kX rfl) only[smY,simprocAttr,bl,i64,smE,bP,undef]):goodPost P rs r e s:=zRs a h k
theorem zQ7 (a:e= .ret∨e= .normal:=by first|exact .inl rfl|exact .inr rfl) (h:fF P rs s=some v:=by simp only[gW];simp(disch:=first|omega|exact kD rfl|exact kX rfl) only[smY,simprocAttr,bl,i64];exact rfl) (k:(pv s.h (fun _=>true) 6 v).map (·.1)=some r:=by simp(disch:=first|omega|exact kD rfl|exact kX rfl) only[smY,simprocAttr,bl,i64]):goodPost P rs r e s:=zRs a h k
theorem zQ8 (a:e= .ret∨e= .normal:=by first|exact .inl rfl|exact .inr rfl) (h:fF P rs s=some v:=by simp only[gW];simp(disch:=first|omega|exact kD rfl|exact kX rfl) only[smY,simprocAttr,bl,i64,smT,smO,smM];exact rfl) (k:(pv s.h (fun _=>true) 6 v).map (·.1)=some r:=by simp(disch:=first|omega|exact kD rfl|exact kX rfl) only[smY,simprocAttr,bl,i64,smT,smO,smM]):goodPost P rs r e s:=zRs a h k
theorem zQ9 (a:e= .ret∨e= .normal:=by first|exact .inl rfl|exact .inr rfl) (h:fF P rs s=some v:=by simp only[gW];simp(disch:=first|omega|exact kD rfl|exact kX rfl) only[smY,simprocAttr,bl,i64,smT,smO,smE];exact rfl) (k:(pv s.h (fun _=>true) 6 v).map (·.1)=some r:=by simp(disch:=first|omega|exact kD rfl|exact kX rfl) only[smY,simprocAttr,bl,i64,smT,smO,smE]):goodPost P rs r e s:=zRs a h k
theorem aDi (hX:A) (a:e= .ret∨e= .normal:=by first|exact .inl rfl|exact .inr rfl) (h:A→fF P rs s=some v:=by intro hX;simp only[gW];simp(disch:=first|omega|exact kD rfl|exact kX rfl) only[smY,simprocAttr,bl,i64,bP,undef,hX];exact rfl) (k:A→(pv s.h (fun _=>true) 6 v).map (·.1)=some r:=by intro hX;simp(disch:=first|omega|exact kD rfl|exact kX rfl) only[smY,simprocAttr,bl,i64,bP,undef,hX]):goodPost P rs r e s:=zRs a (h hX) (k hX)
theorem aE2 (hX:A) (a:e= .ret∨e= .normal:=by first|exact .inl rfl|exact .inr rfl) (h:A→fF P rs s=some v:=by intro hX;simp only[gW];simp(disch:=first|omega|exact kD rfl|exact kX rfl) only[smY,simprocAttr,bl,i64,smE,hX];exact rfl) (k:A→(pv s.h (fun _=>true) 6 v).map (·.1)=some r:=by intro hX;simp(disch:=first|omega|exact kD rfl|exact kX rfl) only[smY,simprocAttr,bl,i64,smE,hX]):goodPost P rs r e s:=zRs a (h hX) (k hX)
theorem aHr (hX:A) (a:e= .ret∨e= .normal:=by first|exact .inl rfl|exact .inr rfl) (h:A→fF P rs s=some v:=by intro hX;simp only[gW];simp(disch:=first|omega|exact kD rfl|exact kX rfl) only[smY,simprocAttr,bl,i64,smE,bP,undef,hX];exact rfl) (k:A→(pv s.h (fun _=>true) 6 v).map (·.1)=some r:=by intro hX;simp(disch:=first|omega|exact kD rfl|exact kX rfl) only[smY,simprocAttr,bl,i64,smE,bP,undef,hX]):goodPost P rs r e s:=zRs a (h hX) (k hX)
theorem aKn (hX:A) (a:e= .ret∨e= .normal:=by first|exact .inl rfl|exact .inr rfl) (h:A→fF P rs s=some v:=by intro hX;simp only[gW];simp(disch:=first|omega|exact kD rfl|exact kX rfl) only[smY,simprocAttr,bl,i64,smT,hX];exact rfl) (k:A→(pv s.h (fun _=>true) 6 v).map (·.1)=some r:=by intro hX;simp(disch:=first|omega|exact kD rfl|exact kX rfl) only[smY,simprocAttr,bl,i64,smT,hX]):goodPost P rs r e s:=zRs a (h hX) (k hX)
theorem aRl (hX:A) (a:e= .ret∨e= .normal:=by first|exact .inl rfl|exact .inr rfl) (h:A→fF P rs s=some v:=by intro hX;simp only[gW];simp(disch:=first|omega|exact kD rfl|exact kX rfl) only[smY,simprocAttr,bl,i64,hX];exact rfl) (k:A→(pv s.h (fun _=>true) 6 v).map (·.1)=some r:=by intro hX;simp(disch:=first|omega|exact kD rfl|exact kX rfl) only[smY,simprocAttr,bl,i64,hX]):goodPost P rs r e s:=zRs a (h hX) (k hX)
theorem aX4 (hX:A) (a:e= .ret∨e= .normal:=by first|exact .inl rfl|exact .inr rfl) (h:A→fF P rs s=some v:=by intro hX;simp only[gW];simp(disch:=first|omega|exact kD rfl|exact kX rfl) only[smY,simprocAttr,bl,i64,smT,smO,smE,hX];exact rfl) (k:A→(pv s.h (fun _=>true) 6 v).map (·.1)=some r:=by intro hX;simp(disch:=first|omega|exact kD rfl|exact kX rfl) only[smY,simprocAttr,bl,i64,smT,smO,smE,hX]):goodPost P rs r e s:=zRs a (h hX) (k hX)
theorem bIw (hX:A) (a:e= .ret∨e= .normal:=by first|exact .inl rfl|exact .inr rfl) (h:A→fF P rs s=some v:=by intro hX;simp only[gW];simp(disch:=first|omega|exact kD rfl|exact kX rfl) only[smY,simprocAttr,bl,u32,u64,i64,hX];exact rfl) (k:A→(pv s.h (fun _=>true) 6 v).map (·.1)=some r:=by intro hX;simp(disch:=first|omega|exact kD rfl|exact kX rfl) only[smY,simprocAttr,bl,u32,u64,i64,hX]):goodPost P rs r e s:=zRs a (h hX) (k hX)
theorem gZ (k:(pv s.h (fun _=>true) 6 v).map (·.1)=some r) (a:e= .ret∨e= .normal:=by first|exact .inl rfl|exact .inr rfl) (h:fF P rs s=some v:=by simp only[gW];simp(disch:=first|omega|exact kD rfl|exact kX rfl) only[smY,simprocAttr,bl,u32,u64,i64];exact rfl):goodPost P rs r e s:=zRs a h k
theorem zR1 (k:(pv s.h (fun _=>true) 6 v).map (·.1)=some r) (a:e= .ret∨e= .normal:=by first|exact .inl rfl|exact .inr rfl) (h:fF P rs s=some v:=by simp only[gW];simp(disch:=first|omega|exact kD rfl|exact kX rfl) only[smY,simprocAttr,bl,i64,smT];exact rfl):goodPost P rs r e s:=zRs a h k
theorem zR2 (k:(pv s.h (fun _=>true) 6 v).map (·.1)=some r) (a:e= .ret∨e= .normal:=by first|exact .inl rfl|exact .inr rfl) (h:fF P rs s=some v:=by simp only[gW];simp(disch:=first|omega|exact kD rfl|exact kX rfl) only[smY,simprocAttr,bl,i64];exact rfl):goodPost P rs r e s:=zRs a h k
theorem zR3 (k:(pv s.h (fun _=>true) 6 v).map (·.1)=some r) (a:e= .ret∨e= .normal:=by first|exact .inl rfl|exact .inr rfl) (h:fF P rs s=some v:=by simp only[gW];simp(disch:=first|omega|exact kD rfl|exact kX rfl) only[smY,simprocAttr,bl,u32,u64,i64,bne_self_eq_false];exact rfl):goodPost P rs r e s:=zRs a h k
theorem iQ (k:G') (h:Bq G'→G:=by intro k;simp(disch:=first|omega|exact kD rfl|exact kX rfl) only[smY,simprocAttr,bl,u32,u64,i64];exact k.g):G:=h ⟨k⟩
theorem zV1 (k:G') (h:Bq G'→G:=by intro k;simp(disch:=first|omega|exact kD rfl|exact kX rfl) only[smY,simprocAttr,bl,i64];exact k.g):G:=h ⟨k⟩
theorem zV2 (k:G') (h:Bq G'→G:=by intro k;simp(disch:=first|omega|exact kD rfl|exact kX rfl) only[smY,simprocAttr,bl,i64,smT];exact k.g):G:=h ⟨k⟩
end
def aI:=And.intro (And.intro (And.intro smF (And.intro @dg.eq_1 @renL.eq_1)) (And.intro @renL.eq_2 (And.intro @renL.eq_3 @renL.eq_4))) (And.intro (And.intro @renL.eq_5 (And.intro @renL.eq_6 @renL.eq_7)) (And.intro (And.intro @renL.eq_8 @renL.eq_9) (And.intro @renLs.eq_1 @renLs.eq_2)))
end
end Go.Lg
