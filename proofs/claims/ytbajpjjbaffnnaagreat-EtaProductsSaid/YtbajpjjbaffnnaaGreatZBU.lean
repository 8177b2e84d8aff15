/- Contracts of functions of the program, and what proves them (texts: Lg26). -/
import Derived.Test.YtbajpjjbaffnnaaGreatZBS
set_option linter.all false
namespace Go.Lg
open Go
def shp (a b : Int) (x : LV) : LV := .tup [.agg [.lit (.int .i64 a),x],.lit (.int .i64 b)]
theorem rep_shp {St St' : Nat → Prop} {hp hp' : Array Obj} {μ μ' : Nat → Option (Nat × Nat)} {a b : Int} {x x' : LV} {v : Value} (h : Rep St hp μ (shp a b x) v) (hx : ∀ u,u.oneCell' = true → Rep St hp μ x u → Rep St' hp' μ' x' u) : Rep St' hp' μ' (shp a b x') v := by
 unfold shp at h ⊢
 cases h with
 | @tup _ _ us hl hr =>
   match us,hl with
   | [u1,u2],_ =>
     have r1 := hr 0 _ u1 rfl rfl
     have r2 := hr 1 _ u2 rfl rfl
     refine .tup rfl fun j c u hc hu => ?_
     match j with
     | 0 =>
       cases hc;cases hu
       obtain ⟨ws,rfl,hl2,h1,hr2⟩ : ∃ ws : List Value,u1 = .agg ws.toArray ∧ [LV.lit (.int .i64 a),x].length = ws.length ∧ (∀ u ∈ ws,u.oneCell' = true) ∧ ∀ (j : Nat) (c : LV) (u : Value),[LV.lit (.int .i64 a),x][j]? = some c → ws[j]? = some u → Rep St hp μ c u := by
         cases r1 with
         | agg a1 a2 a3 => exact ⟨_,rfl,a1,a2,a3⟩
       match ws,hl2 with
       | [w1, w2], _ =>
           refine .agg rfl h1 fun j c u hc hu => ?_
           match j with
           | 0 =>
             cases hc;cases hu
             cases hr2 0 _ w1 rfl rfl
             exact .lit _
           | 1 =>
             cases hc;cases hu
             exact hx w2 (h1 w2 (by simp)) (hr2 1 _ w2 rfl rfl)
           | j + 2 => simp at hc
     | 1 =>
       cases hc;cases hu
       cases r2
       exact .lit _
     | j + 2 => simp at hc
def NewS (P : Program) [Laid P] (f : FuncId) (args : List LV) (a b : Int) (n : Nat) (ty : TypeId) (cells : List LV) : Prop :=
 Enter P f ∧ (∀ c ∈ cells,plainC c = true) ∧ ∀ (w : World) (St : Nat → Prop) (vs : List Value),(∀ g,St g → g < w.heap.size) → LaidOk P St w.heap → Reps St w.heap (fun _ => none) args vs →
  Calls P f vs.toArray w fun e w' => ∃ v St' g cs,e = .returned v ∧ Rep St' w'.heap (fun b => if b = 0 then some (g,cs.size) else none) (shp a b (.own 0 0 n 1)) v ∧ w.heap.size ≤ g ∧ g < w'.heap.size ∧ ¬ St' g ∧ w'.heap[g]? = some (.cells cs ty (0,0)) ∧ cells.length ≤ cs.size ∧
   Reps St' w'.heap (fun _ => none) cells (cs.toList.take cells.length) ∧ (∀ u ∈ cs.toList.take cells.length,u.oneCell' = true) ∧ (∀ g,St g → St' g) ∧ (∀ g,St' g → g < w'.heap.size ∧ (St g ∨ w.heap.size ≤ g)) ∧
   w'.os = w.os ∧ w'.tape = w.tape ∧ w'.output = w.output ∧ w.heap.size ≤ w'.heap.size ∧ ∀ g,g < w.heap.size → w'.heap[g]? = w.heap[g]?
def newSPost (P : Program) (rs : List ResultVar) (a b : Int) (n : Nat) (ty : TypeId) (cells : List LV) : Exit → LS → Prop
 | .ret,s => ∃ bk,resL P rs s = some (shp a b (.own bk 0 n 1)) ∧ s.h bk = some ⟨ty,cells,false⟩
 | .normal,s => ∃ bk,resL P rs s = some (shp a b (.own bk 0 n 1)) ∧ s.h bk = some ⟨ty,cells,false⟩
 | _,_ => False
theorem newS_of_lwp {P : Program} [Laid P] (hmix : P.follows .mixedOrders = true) {f : FuncId} {fn : Func} {c : Code} {args : List LV} {a b : Int} {n : Nat} {ty : TypeId} {cells : List LV} (hf : P.funcs[f]? = some fn) (hb : fn.body = some c) (hname : fn.name ≠ "runtime.NumGoroutine")
  {nt : Nat} (hnt : fn.ntmps = nt) {rs : List ResultVar} (hrs : fn.results.toList = rs) (hn : args.length ≤ nt) (hpl : ∀ c ∈ cells,plainC c = true)
  (h : lwp P 0 c (newSPost P rs a b n ty cells) ⟨nt,fun i => args.getD i .dead,fun _ => none,0⟩) : NewS P f args a b n ty cells := by
 subst hnt hrs
 refine ⟨⟨fn,hf,hname,by rw [hb];rfl⟩,hpl,fun w St vs hSt hLd hr => ?_⟩
 refine calls_of_wp hf hb (lwp_sound hmix (A := fun _ => none) (na := 0) (w0 := w) (M := fun _ => False) (St0 := St) (Laid0.of hLd fun g hg => ⟨fun h => h,hSt _ hg⟩) c h (Nat.zero_le _) ?_ ?_)
 ·refine ⟨rfl,fun _ => none,St,⟨fun i => ?_,?_,by simp,by simp,by simp,fun g hg => ⟨hSt g hg,.inl hg⟩,fun _ h => h,rfl,rfl,rfl,Nat.le_refl _,fun _ _ _ => rfl⟩,fun _ _ => rfl,by simp⟩
  ·simp only [List.getD_eq_getElem?_getD,Array.getD_eq_getD_getElem?]
   cases hc : args[i]? with
   | none => exact .dead _
   | some x =>
     have hlt : i < args.length := (List.getElem?_eq_some_iff.1 hc).1
     have hlt2 : i < vs.length := by have := hr.1;omega
     have hu : vs[i]? = some vs[i] := List.getElem?_eq_getElem hlt2
     have : (vs.toArray ++ Array.replicate (fn.ntmps - vs.toArray.size) undef)[i]? = some vs[i] := by
       rw [Array.getElem?_append_left (by simpa using hlt2)]
       simpa using hu
     rw [this]
     exact hr.2 i x vs[i] hc hu
  ·have := hr.1
   simp;omega
 ·intro e s' a' w' he _ hs'
  obtain ⟨hdf,μ,St',hI,_⟩ := hs'
  have fin : (∃ bk,resL P fn.results.toList s' = some (shp a b (.own bk 0 n 1)) ∧ s'.h bk = some ⟨ty,cells,false⟩) → bodyPost P fn (fun e w' => ∃ v St' g cs,e = .returned v ∧ Rep St' w'.heap (fun b => if b = 0 then some (g,cs.size) else none) (shp a b (.own 0 0 n 1)) v ∧ w.heap.size ≤ g ∧ g < w'.heap.size ∧ ¬ St' g ∧ w'.heap[g]? = some (.cells cs ty (0,0)) ∧ cells.length ≤ cs.size ∧
   Reps St' w'.heap (fun _ => none) cells (cs.toList.take cells.length) ∧ (∀ u ∈ cs.toList.take cells.length,u.oneCell' = true) ∧ (∀ g,St g → St' g) ∧ (∀ g,St' g → g < w'.heap.size ∧ (St g ∨ w.heap.size ≤ g)) ∧
   w'.os = w.os ∧ w'.tape = w.tape ∧ w'.output = w.output ∧ w.heap.size ≤ w'.heap.size ∧ ∀ g,g < w.heap.size → w'.heap[g]? = w.heap[g]?) .ret a' w' := by
   rintro ⟨bk,hx,hbk⟩
   obtain ⟨v,hv,hV⟩ := res_sound hI hx
   obtain ⟨g,R,cs,hm,hg,hsz,hle,hrc,h1,_,hnS⟩ := hI.blk bk _ hbk
   have hns := hnS rfl
   refine ⟨hdf,v,hv,v,St',g,cs,rfl,?_,?_,(hI.lt bk g R hm).1,hns,hg,hle,reps_plain hpl hrc,h1,fun g hg => hI.st0 g hg,fun g hg => ?_,hI.os,hI.tape,hI.output,hI.size,fun g hg => hI.kept g hg (fun h => h)⟩
   ·refine rep_shp hV fun u _ hU => ?_
    cases hU with
    | own hb' hn hc hR =>
      rw [hm] at hb'
      cases hb'
      exact .own (by rw [if_pos rfl]) hn hc (by rw [hR,← hsz])
   ·rcases (hI.lt bk g R hm).2 with hh | hh | hh
    ·exact hh.elim
    ·exact hh
    ·exact absurd hh hns
   ·obtain ⟨h1,h2⟩ := hI.st_lt g hg
    exact ⟨h1,h2.imp id (fun h => h.resolve_left (fun h => h))⟩
  cases e with
  | ret => exact fin he
  | normal => exact fin he
  | _ => exact he.elim
theorem h_of_newS {P : Program} [Laid P] {f : FuncId} {args : List LV} {a b : Int} {n : Nat} {ty : TypeId} {cells : List LV} {h : Nat → Option Blk} {nb : Nat} (hg : NewS P f args a b n ty cells) (ha : ∀ c ∈ args, plainD c = true) (hnb : h nb = none) :
  HGood P f args h nb (shp a b (.own nb 0 n 1)) (upd h nb (some ⟨ty,cells,false⟩)) (nb + 1) := by
 obtain ⟨hen,hpl,hgood⟩ := hg
 refine ⟨hen,fun w0 M St0 μ St w vs hL h0 hμ hvs => ?_⟩
 refine (hgood w St _ (fun g hg => (h0.st_lt g hg).1) (h0.laid hL) (reps_plainD ha hvs)).mono ?_
 rintro e w' ⟨v,St',g,cs,rfl,hv,hge,hlt,hns,hg,hle,hr,h1,hs1,hs2,hos,htp,hout,hsize,hkept⟩
 have hS : ∀ g,St g → w'.heap[g]? = w.heap[g]? := fun g hg => hkept g (h0.st_lt g hg).1
 have hup : ∀ b r,μ b = some r → upd μ nb (some (g,cs.size)) b = some r := fun b r hb => by
  by_cases hbn : b = nb
  ·subst hbn;rw [hμ b (Nat.le_refl _)] at hb;cases hb
  ·rw [upd_ne _ _ _ _ hbn];exact hb
 refine ⟨v,upd μ nb (some (g,cs.size)),St',rfl,?_,?_,fun b hb => upd_ne _ _ _ _ (by omega),fun b hb => by rw [upd_ne _ _ _ _ (by omega)];exact hμ b (by omega),hs1,hS⟩
 ·refine ⟨fun _ => .dead _,rfl,?_,?_,?_,fun g' hg' => ⟨(hs2 g' hg').1,?_⟩,fun g hg => hs1 g (h0.st0 g hg),hos.trans h0.os,htp.trans h0.tape,hout.trans h0.output,Nat.le_trans h0.size hsize,fun g' hg' hM => (hkept g' (Nat.lt_of_lt_of_le hg' h0.size)).trans (h0.kept g' hg' hM)⟩
  ·intro b k hb
   by_cases hbn : b = nb
   ·subst hbn
    simp only [upd_same] at hb ⊢
    cases hb
    exact ⟨g,cs.size,cs,rfl,hg,rfl,hle,reps_plain hpl hr,h1,by simp,fun _ => hns⟩
   ·simp only [upd_ne _ _ _ _ hbn] at hb ⊢
    obtain ⟨g2,R2,cs2,hm2,hg2,hcs2,hle2,hr2,ho2,hfz2,hnfz2⟩ := h0.blk b k hb
    have hlt2 := (h0.lt b g2 R2 hm2).1
    refine ⟨g2,R2,cs2,hm2,by rw [hkept g2 hlt2];exact hg2,hcs2,hle2,hr2.mono hs1 hS hup,ho2,fun hh => hs1 g2 (hfz2 hh),fun hh hst => ?_⟩
    rcases (hs2 g2 hst).2 with h3 | h3
    ·exact hnfz2 hh h3
    ·omega
  ·intro b b' k k' g1 R1 R2 hb hb' hm hm'
   by_cases hbn : b = nb <;> by_cases hbn' : b' = nb
   ·rw [hbn,hbn']
   ·subst hbn
    simp only [upd_same,upd_ne _ _ _ _ hbn'] at *
    cases hm
    have := (h0.lt _ _ _ hm').1
    omega
   ·subst hbn'
    simp only [upd_same,upd_ne _ _ _ _ hbn] at *
    cases hm'
    have := (h0.lt _ _ _ hm).1
    omega
   ·simp only [upd_ne _ _ _ _ hbn,upd_ne _ _ _ _ hbn'] at *
    exact h0.inj b b' k k' g1 R1 R2 hb hb' hm hm'
  ·intro b g1 R1 hm
   by_cases hbn : b = nb
   ·subst hbn
    rw [upd_same] at hm
    cases hm
    exact ⟨hlt,.inr (.inl (Nat.le_trans h0.size hge))⟩
   ·rw [upd_ne _ _ _ _ hbn] at hm
    exact ⟨Nat.lt_of_lt_of_le (h0.lt _ _ _ hm).1 hsize,(h0.lt _ _ _ hm).2.imp id (Or.imp id (hs1 _))⟩
  ·rcases (hs2 g' hg').2 with hh | hh
   ·exact (h0.st_lt g' hh).2
   ·exact .inr (.inr (Nat.le_trans h0.size hh))
 ·refine rep_shp hv fun u _ hU => ?_
  cases hU with
  | own hb' hn hc hR =>
    simp only [if_true,Option.some.injEq,Prod.mk.injEq] at hb'
    obtain ⟨rfl,rfl⟩ := hb'
    exact .own (upd_same _ _ _) hn hc hR
theorem good_of_newS {P : Program} [Laid P] {f : FuncId} {args : List LV} {a b : Int} {n : Nat} {ty : TypeId} {cells : List LV} (hg : NewS P f args a b n ty cells) (hl : cells.length = n) (hp : ∀ c ∈ cells,pureC c = true) : PureGood P f args (shp a b (.sl n cells)) := by
 obtain ⟨hen,hpl,hgood⟩ := hg
 refine ⟨hen,fun w St vs hSt hLd hvs => ?_⟩
 refine (hgood w St vs hSt hLd hvs).mono ?_
 rintro e w' ⟨v,St',g,cs,rfl,hv,hge,hlt,hns,hg,hle,hr,h1,hs1,hs2,hos,htp,hout,hsize,hkept⟩
 refine ⟨v,fun g' => St' g' ∨ g' = g,rfl,?_,fun g hg => .inl (hs1 g hg),fun g' hg' => ?_,hos,htp,hout,hsize,hkept⟩
 ·refine rep_shp hv fun u _ hU => ?_
  cases hU with
  | own hb' hn hc hR =>
    simp only [if_true,Option.some.injEq,Prod.mk.injEq] at hb'
    obtain ⟨rfl,rfl⟩ := hb'
    refine .sl hn hc rfl hr.1 (fun j u hu => ⟨.inr rfl,?_⟩) h1 (fun j c u hc hu => (hr.2 j c u hc hu).mono (fun _ h => .inl h) (fun _ _ => rfl) (fun _ _ h => h))
    simp only [cellAt,hg,Nat.zero_add]
    have hj : j < (cs.toList.take cells.length).length := (List.getElem?_eq_some_iff.1 hu).1
    rw [List.getElem?_take] at hu
    split at hu
    · simpa using hu
    · cases hu
 ·rcases hg' with hg' | rfl
  ·exact hs2 g' hg'
  ·exact ⟨hlt,.inr hge⟩
theorem ns_ret {P : Program} [Laid P] {rs : List ResultVar} {a b : Int} {n bk : Nat} {ty : TypeId} {cells cells' : List LV} {fz : Bool} {s : LS} (hres : resL P rs s = some (shp a b (.own bk 0 n 1))) (h0 : s.h bk = some ⟨ty,cells',fz⟩) (hc : cells' = cells) (hf : fz = false) : newSPost P rs a b n ty cells .ret s := by
 subst hc hf
 exact ⟨bk,hres,h0⟩
theorem l_scall {P : Program} [Laid P] {base i : Nat} {ok : Nat → Nat → Bool} {ops : Array Oper} {o : Oper} {rest : List Oper} {n nb d m : Nat} {F : Nat → LV} {H : Nat → Option Blk} {K : LS → Prop} {c : Call} {f : FuncId} {args : List LV} {a b : Int} {k : Nat} {ty : TypeId} {cells : List LV}
  (hm : max nb (base + ops.size) = m) (hop : o.op = .call c) (hcal : c.callee = .value (.func f)) (hd : o.dst = some d) (hn : d < n) (hw : wantedL ops o ⟨n,F,H,nb⟩ = some true) (hargs : c.args.toList.map (opnd ⟨n,F,H,nb⟩) = args) (hg : NewS P f args a b k ty cells) (ha : ∀ c ∈ args,plainD c = true) (hnb : H m = none)
  (hk : lrun P true base ok ops (i + 1) rest ⟨n,upd F d (shp a b (.own m 0 k 1)),upd H m (some ⟨ty,cells,false⟩),m + 1⟩ K) : lrun P true base ok ops i (o :: rest) ⟨n,F,H,nb⟩ K := by
 subst hm
 exact .inr (.inl ⟨rfl,c,.func f,f,[],d,_,_,_,hop,hcal,rfl,hd,hn,hw,by rw [List.append_nil,hargs];exact h_of_newS hg ha hnb,Nat.le_succ _,hk⟩)
end Go.Lg