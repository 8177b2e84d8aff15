/- Contracts of functions of the program, and what proves them (texts: Lg25). -/
import Derived.MapKept
import Derived.Deep.LoopGhost
import Derived.Test.YtbajpjjbaffnnaaGreatZAE
import Derived.Test.YtbajpjjbaffnnaaGreatZAP
set_option linter.all false
namespace Go.Lg
open Go
@[reducible] def laidW (P : Program) (L : Laid P) (mp : List (Nat × List (Int × Int))) : Laid P := { mem := L.mem,maps := mp }
def At (w0 : World) (St0 : Nat → Prop) (mp : Option (Nat × List (Int × Int))) (s : LS) (a : Act) (w : World) : Prop :=
 a.defers = [] ∧ ∃ μ St,Inv w0 (fun _ => False) St0 s μ St a.tmps w ∧ (∀ b,s.nb ≤ b → μ b = none) ∧ ∀ g es,mp = some (g,es) → MapIs w.heap g es ∧ w0.heap.size ≤ g ∧ ¬ St g ∧ ∀ b R,μ b ≠ some (g,R)
theorem MapIs.lt {hp : Array Obj} {g : Nat} {es : List (Int × Int)} (h : MapIs hp g es) : g < hp.size := by
 obtain ⟨a,c,h1,_⟩ := h
 exact (Array.getElem?_eq_some_iff.1 h1).1
section
variable {P : Program} [L : Laid P] {w0 : World} {St0 : Nat → Prop} {mp : Option (Nat × List (Int × Int))} {s : LS} {a : Act} {w : World} {Q : Exit → Act → World → Prop} {μ : Nat → Option (Nat × Nat)} {St : Nat → Prop} {tm : Array Value}
theorem At.seg (hmix : P.follows .mixedOrders = true) (hL : LaidOk P St0 w0.heap) (hSt : ∀ g, St0 g → g < w0.heap.size) {c : Code} {Φ : Exit → LS → Prop} (h : At w0 St0 mp s a w) (hl : lwp P 0 c Φ s)
  (hQ : ∀ e s' a' w',Φ e s' → At w0 St0 mp s' a' w' → Q e a' w') : c.wp P Q a w := by
 obtain ⟨hd,μ,St,hI,hnb,hmp⟩ := h
 have hA := hI.at (w' := w) (Nat.le_refl _) (fun _ _ _ => rfl)
 have hL0 : Laid0 P w0 (fun _ => False) St0 := Laid0.of hL fun g hg => ⟨fun h => h,hSt g hg⟩
 refine lwp_sound hmix (w0 := w) (M := Mv μ St) (St0 := St) (A := fun _ => none) (na := 0) (Laid0.of (hI.laid hL0) fun g hg => ⟨fun h => h.2 hg,(hI.st_lt g hg).1⟩) c hl (Nat.zero_le _) ⟨hd,μ,St,hA,hnb,fun b hb => absurd hb (Nat.not_lt_zero _)⟩ ?_
 intro e s' a' w' he _ hs'
 obtain ⟨hd',μ',St',hI',hnb',_⟩ := hs'
 refine hQ e s' a' w' he ⟨hd',μ',St',hI.back (Nat.le_refl _) (fun _ _ _ => rfl) rfl rfl rfl hI',hnb',fun g es hg => ?_⟩
 obtain ⟨h1,h2,h3,h4⟩ := hmp g es hg
 have hM : ¬ Mv μ St g := fun h => by
  obtain ⟨⟨b,R,hb⟩,_⟩ := h
  exact h4 b R hb
 have h5 : ¬ St' g := fun h => by
  rcases (hI'.st_lt g h).2 with h | h | h
  ·exact h3 h
  ·exact hM h
  ·have := h1.lt
   omega
 refine ⟨h1.same (hI'.kept g h1.lt hM),h2,h5,fun b R hb => ?_⟩
 rcases (hI'.lt b g R hb).2 with h | h | h
 ·exact hM h
 ·have := h1.lt
  omega
 ·exact h5 h
theorem At.fin {g : Nat} {es : List (Int × Int)} (hmix : P.follows .mixedOrders = true) (hL : LaidOk P St0 w0.heap) (hSt : ∀ g, St0 g → g < w0.heap.size) {c : Code} {Φ : Exit → LS → Prop} (h : At w0 St0 (some (g, es)) s a w)
  (hl : @lwp P (laidW P L [(g,es)]) 0 c Φ s) (hQ : ∀ e s' a' w',Φ e s' → At w0 St0 none s' a' w' → Q e a' w') : c.wp P Q a w := by
 obtain ⟨hd,μ,St,hI,hnb,hmp⟩ := h
 obtain ⟨h1,h2,h3,h4⟩ := hmp g es rfl
 have hL0 : Laid0 P w0 (fun _ => False) St0 := Laid0.of hL fun g hg => ⟨fun h => h,hSt g hg⟩
 have hLw := hI.laid hL0
 have hI2 : Inv w0 (fun _ => False) St0 s μ (fun x => St x ∨ x = g) a.tmps w := by
  refine ⟨fun i => (hI.frame i).mono (fun _ h => .inl h) (fun _ _ => rfl) (fun _ _ h => h),hI.sz,fun b k hb => ?_,hI.inj,fun b g' R hm => ⟨(hI.lt b g' R hm).1,(hI.lt b g' R hm).2.imp id (fun h => h.imp id .inl)⟩,fun x hx => ?_,fun x hx => .inl (hI.st0 x hx),hI.os,hI.tape,hI.output,hI.size,hI.kept⟩
  ·obtain ⟨g',R,cs,e1,e2,e3,e4,e5,e6,e7,e8⟩ := hI.blk b k hb
   refine ⟨g',R,cs,e1,e2,e3,e4,⟨e5.1,fun j c u hc hu => (e5.2 j c u hc hu).mono (fun _ h => .inl h) (fun _ _ => rfl) (fun _ _ h => h)⟩,e6,fun h => .inl (e7 h),fun h hh => ?_⟩
   rcases hh with hh | hh
   ·exact e8 h hh
   ·exact h4 b R (hh ▸ e1)
  ·rcases hx with hx | hx
   ·exact hI.st_lt x hx
   ·subst hx
    exact ⟨h1.lt,.inr (.inr h2)⟩
 have hA := hI2.at (w' := w) (Nat.le_refl _) (fun _ _ _ => rfl)
 have hLW : @LaidOk P (laidW P L [(g,es)]) (fun x => St x ∨ x = g) w.heap := by
  refine ⟨fun p hp => ?_,fun p hp => ?_⟩
  ·obtain ⟨q1,q2,q3⟩ := hLw.1 p hp
   exact ⟨.inl q1,q2,q3⟩
  ·obtain rfl : p = (g,es) := List.mem_singleton.1 hp
   exact ⟨.inr rfl,h1⟩
 refine @lwp_sound P (laidW P L [(g,es)]) hmix w (Mv μ (fun x => St x ∨ x = g)) (fun x => St x ∨ x = g) (@Laid0.of P (laidW P L [(g,es)]) _ _ _ hLW fun x hx => ⟨fun h => h.2 hx,(hI2.st_lt x hx).1⟩) 0 (fun _ => none) c Φ s a w Q hl (Nat.zero_le _) ⟨hd,μ,_,hA,hnb,fun b hb => absurd hb (Nat.not_lt_zero _)⟩ ?_
 intro e s' a' w' he _ hs'
 obtain ⟨hd',μ',St',hI',hnb',_⟩ := hs'
 exact hQ e s' a' w' he ⟨hd',μ',St',hI2.back (Nat.le_refl _) (fun _ _ _ => rfl) rfl rfl rfl hI',hnb',fun _ _ h => by cases h⟩
theorem Inv.push (h : Inv w0 (fun _ => False) St0 s μ St tm w) (o : Obj) : Inv w0 (fun _ => False) St0 s μ St tm (w.alloc o) := by
 have hh : ∀ g,g < w.heap.size → (w.alloc o).heap[g]? = w.heap[g]? := fun g hg => by
  show (w.heap.push o)[g]? = _
  rw [Array.getElem?_push,if_neg (by omega)]
 have hs : w.heap.size ≤ (w.alloc o).heap.size := by
  show _ ≤ (w.heap.push o).size
  rw [Array.size_push]
  omega
 have hS : ∀ g,St g → (w.alloc o).heap[g]? = w.heap[g]? := fun g hg => hh g (h.st_lt g hg).1
 refine ⟨fun i => (h.frame i).mono (fun _ h => h) hS (fun _ _ h => h),h.sz,fun b k hb => ?_,h.inj,fun b g R hm => ⟨Nat.lt_of_lt_of_le (h.lt b g R hm).1 hs,(h.lt b g R hm).2⟩,fun g hg => ⟨Nat.lt_of_lt_of_le (h.st_lt g hg).1 hs,(h.st_lt g hg).2⟩,h.st0,h.os,h.tape,h.output,Nat.le_trans h.size hs,fun g hg hM => ?_⟩
 ·obtain ⟨g,R,cs,h1,h2,h3,h4,h5,h6,h7,h8⟩ := h.blk b k hb
  exact ⟨g,R,cs,h1,by rw [hh g (h.lt b g R h1).1];exact h2,h3,h4,⟨h5.1,fun j c u hc hu => (h5.2 j c u hc hu).mono (fun _ h => h) hS (fun _ _ h => h)⟩,h6,h7,h8⟩
 ·rw [hh g (Nat.lt_of_lt_of_le hg h.size)]
  exact h.kept g hg hM
theorem Inv.other (h : Inv w0 (fun _ => False) St0 s μ St tm w) {g : Nat} {o : Obj} (hg : w0.heap.size ≤ g) (h3 : ¬ St g) (h4 : ∀ b R,μ b ≠ some (g,R)) : Inv w0 (fun _ => False) St0 s μ St tm { w with heap := w.heap.setIfInBounds g o } := by
 have hh : ∀ x,x ≠ g → (w.heap.setIfInBounds g o)[x]? = w.heap[x]? := fun x hx => by
  rw [Array.getElem?_setIfInBounds,if_neg (fun e => hx e.symm)]
 have hs : (w.heap.setIfInBounds g o).size = w.heap.size := Array.size_setIfInBounds
 have hS : ∀ x,St x → (w.heap.setIfInBounds g o)[x]? = w.heap[x]? := fun x hx => hh x (fun e => h3 (e ▸ hx))
 refine ⟨fun i => (h.frame i).mono (fun _ h => h) hS (fun _ _ h => h),h.sz,fun b k hb => ?_,h.inj,fun b x R hm => ⟨by simp only [hs];exact (h.lt b x R hm).1,(h.lt b x R hm).2⟩,fun x hx => ⟨by simp only [hs];exact (h.st_lt x hx).1,(h.st_lt x hx).2⟩,h.st0,h.os,h.tape,h.output,by simp only [hs];exact h.size,fun x hx hM => ?_⟩
 ·obtain ⟨x,R,cs,h1,h2,e3,e4,h5,h6,h7,h8⟩ := h.blk b k hb
  exact ⟨x,R,cs,h1,by simp only;rw [hh x (fun e => h4 b R (e ▸ h1))];exact h2,e3,e4,⟨h5.1,fun j c u hc hu => (h5.2 j c u hc hu).mono (fun _ h => h) hS (fun _ _ h => h)⟩,h6,h7,h8⟩
 ·simp only
  rw [hh x (by omega)]
  exact h.kept x hx hM
theorem run_makeMap (t : TypeId) (w : World) : (Instr.makeMap t none).run P w = .ok (.map (some w.heap.size)) (w.alloc (.map #[] 0)) := rfl
theorem wanted_none {o : Oper} (h : o.guard = none) (y : Nat → Option Bool) : Region.wanted o y = true := by
 unfold Region.wanted
 rw [h]
theorem At.ops (hL : LaidOk P St0 w0.heap) (hSt : ∀ g, St0 g → g < w0.heap.size) {ops : Array Oper} {K : LS → Prop} {i : Nat} {l : List Oper} {l2 : List Nat} (hl : ∀ j, j < l.length → l[j]? = ops[i + j]?) (hle : i + l.length ≤ ops.size) (h : At w0 St0 mp s a w)
  (hr : lrun P false s.nb (okOf ops false s.nb) ops i l s K) (hQ : ∀ s' a' w',K s' → s'.nb = s.nb → At w0 St0 mp { s' with nb := s.nb + ops.size } a' w' → wpOps P ops Q l2 a' w') : wpOps P ops Q (List.range' i l.length ++ l2) a w := by
 obtain ⟨hd,μ,St,hI,hnb,hmp⟩ := h
 have hA := hI.at (w' := w) (Nat.le_refl _) (fun _ _ _ => rfl)
 have hL0 : Laid0 P w0 (fun _ => False) St0 := Laid0.of hL fun g hg => ⟨fun h => h,hSt g hg⟩
 obtain ⟨s1,hr1,hK⟩ := lrun_soundP l i hl hr
 have hnb1 := lrun_nb _ hr1
 refine run_sound2 (Laid0.of (hI.laid hL0) fun g hg => ⟨fun h => h.2 hg,(hI.st_lt g hg).1⟩) (List.range' i l.length) List.nodup_range' hr1 hA (fun j _ => hnb _ (by omega)) ?_
 intro μ' St' a' w' hI' hdf' hm
 refine hQ s1 a' w' hK hnb1 ⟨hdf'.trans hd,μ',St',(hI.back (Nat.le_refl _) (fun _ _ _ => rfl) rfl rfl rfl hI').nb_irrel _,fun b hb => ?_,fun g es hg => ?_⟩
 ·simp only at hb
  rw [hm b (fun j hj => by
   have := List.mem_range'_1.1 hj
   omega)]
  exact hnb b (by omega)
 ·obtain ⟨h1,h2,h3,h4⟩ := hmp g es hg
  have hM : ¬ Mv μ St g := fun h => by
   obtain ⟨⟨b,R,hb⟩,_⟩ := h
   exact h4 b R hb
  have h5 : ¬ St' g := fun h => by
   rcases (hI'.st_lt g h).2 with h | h | h
   ·exact h3 h
   ·exact hM h
   ·have := h1.lt
    omega
  refine ⟨h1.same (hI'.kept g h1.lt hM),h2,h5,fun b R hb => ?_⟩
  rcases (hI'.lt b g R hb).2 with h | h | h
  ·exact hM h
  ·have := h1.lt
   omega
  ·exact h5 h
theorem At.make (hL : LaidOk P St0 w0.heap) (hSt : ∀ g, St0 g → g < w0.heap.size) {id : Nat} {ops : Array Oper} {o : Oper} {rest : List Oper} {t : TypeId} {d : Nat} (h : At w0 St0 none s a w) (hops : ops.toList = o :: rest) (hop : o.op = .makeMap t none) (hd : o.dst = some d) (hdn : d < s.n) (hg : o.guard = none)
  (hl : ∀ g,lrun P false s.nb (okOf ops false s.nb) ops 1 rest (s.put (some d) (.lit (.map (some g)))) fun s' => ∀ a' w',At w0 St0 (some (g,[])) { s' with nb := s.nb + ops.size } a' w' → Q .normal a' w') : (Code.region id ops false).wp P Q a w := by
 obtain ⟨hdf,μ,St,hI,hnb,_⟩ := h
 have hsz : ops.size = rest.length + 1 := by rw [← Array.length_toList,hops];rfl
 refine wp_region ?_
 rw [hsz,List.range_eq_range',List.range'_succ]
 unfold wpOps
 have h0 : ops[0]? = some o := by rw [← Array.getElem?_toList,hops];rfl
 simp only [h0,wanted_none hg,if_true]
 refine .inl ?_
 unfold Oper.wp
 have hrun : (execOp a.eval o).run P w = .ok (.value (.map (some w.heap.size))) (w.alloc (.map #[] 0)) := by
  simp [execOp,hop,run_makeMap]
 rw [hrun]
 show wpOps P ops Q _ (a.put o.dst _) _
 rw [hd]
 have hI1 := (hI.push (.map #[] 0)).putD (d := some d) (x := .lit (.map (some w.heap.size))) (v := .map (some w.heap.size)) (.lit _) (fun t ht => by cases ht;exact hdn) a.defers
 have hA : At w0 St0 (some (w.heap.size,[])) (s.put (some d) (.lit (.map (some w.heap.size)))) (a.put (some d) (.map (some w.heap.size))) (w.alloc (.map #[] 0)) := by
  refine ⟨hdf,μ,St,hI1,hnb,fun g es he => ?_⟩
  cases he
  refine ⟨⟨#[],0,?_,rfl⟩,hI.size,fun h => ?_,fun b R hb => ?_⟩
  ·show (w.heap.push _)[w.heap.size]? = _
   simp
  ·have := (hI.st_lt _ h).1
   omega
  ·have := (hI.lt _ _ _ hb).1
   omega
 have key := At.ops (Q := Q) (l2 := []) (i := 1) (l := rest) hL hSt (fun j _ => by rw [← Array.getElem?_toList,hops,Nat.add_comm,List.getElem?_cons_succ]) (by omega) hA (hl w.heap.size) (fun s' a' w' hK _ hA' => hK a' w' hA')
 rw [List.append_nil] at key
 exact key
theorem run_update_int {P : Program} {t : TypeId} {g : Nat} {x y : Int} {es : List (Int × Int)} {w : World} (hm : mapIntL P t = true) (h : MapIs w.heap g es) (hx : (es.all fun p => x != p.1) = true) :
  ∃ o,(Instr.mapUpdate t (.map (some g)) (.int .i64 x) (.int .i64 y)).run P w = .ok () { w with heap := w.heap.setIfInBounds g o } ∧ MapIs (w.heap.setIfInBounds g o) g (es ++ [(x,y)]) := by
 have hlt := h.lt
 obtain ⟨a,clock,hh,hes⟩ := h
 unfold mapIntL at hm
 split at hm
 ·rename_i k e ht
  rw [Bool.and_eq_true] at hm
  obtain ⟨hk,_⟩ := hm
  have hk : P.underlying k = some (.int .i64) := by
   split at hk
   ·assumption
   ·cases hk
  have hck0 : ∀ b n,(Instr.checkKey b (n + 1) k (.int .i64 x)).run P w = .ok () w := fun b n => by simp [Instr.checkKey,run_underlying hk,Result.andThen]
  have hck : ∀ b,(Instr.checkKey b 10000 k (.int .i64 x)).run P w = .ok () w := fun b => hck0 b 9999
  have hnone : Instr.findNow (.int .i64) (.int .i64 x) a.toList 0 = some none := by
   have : ∀ (l : List MapEntry) (es : List (Int × Int)) (n : Nat),l.map (fun e => (e.key,e.val)) = es.map (fun p => (Value.int .i64 p.1,Value.int .i64 p.2)) → (es.all fun p => x != p.1) = true → Instr.findNow (.int .i64) (.int .i64 x) l n = some none := by
    intro l
    induction l with
    | nil => intro es n _ _;rfl
    | cons e l ih =>
      intro es n h1 h2
      cases es with
      | nil => cases h1
      | cons p es =>
        simp only [List.map_cons,List.cons.injEq,Prod.mk.injEq] at h1
        obtain ⟨⟨e1,e2⟩,e3⟩ := h1
        simp only [List.all_cons,Bool.and_eq_true,bne_iff_ne] at h2
        unfold Instr.findNow
        rw [e1]
        simp only [Instr.sameNow,if_true]
        rw [show (x == p.1) = false from beq_eq_false_iff_ne.2 h2.1]
        exact ih es (n + 1) e3 h2.2
   exact this a.toList es 0 hes hx
  refine ⟨.map (a.push { key := .int .i64 x,val := .int .i64 y,born := clock }) (clock + 1),?_,?_⟩
  ·simp [Instr.mapUpdate,run_underlying ht,MapKept.run_getObj_map hh,hck,MapKept.run_findKey hk hnone,MapKept.run_setObj_map _ hh,Result.andThen]
  ·refine ⟨_,_,by rw [Array.getElem?_setIfInBounds,if_pos rfl,if_pos hlt],?_⟩
   simp [hes]
 ·cases hm
theorem At.update (hL : LaidOk P St0 w0.heap) (hSt : ∀ g, St0 g → g < w0.heap.size) {id last : Nat} {ops : Array Oper} {o : Oper} {t : TypeId} {m k v : Operand} {g : Nat} {x y : Int} {es : List (Int × Int)} (h : At w0 St0 (some (g, es)) s a w) (hz : ops.size = last + 1) (ho : ops[last]? = some o) (hop : o.op = .mapUpdate t m k v) (hd : o.dst = none) (hg : o.guard = none) (hm : mapIntL P t = true)
  (hl : lrun P false s.nb (okOf ops false s.nb) ops 0 (ops.toList.take last) s fun s' => opnd s' m = .lit (.map (some g)) ∧ opnd s' k = .lit (.int .i64 x) ∧ opnd s' v = .lit (.int .i64 y) ∧ (es.all fun p => x != p.1) = true ∧ ∀ a' w',At w0 St0 (some (g,es ++ [(x,y)])) { s' with nb := s.nb + ops.size } a' w' → Q .normal a' w') : (Code.region id ops false).wp P Q a w := by
 refine wp_region ?_
 have htl : (ops.toList.take last).length = last := by rw [List.length_take,Array.length_toList];omega
 have key := At.ops (Q := Q) (l2 := [last]) (i := 0) (l := ops.toList.take last) hL hSt (fun j hj => by
  rw [htl] at hj
  rw [List.getElem?_take_of_lt hj,Nat.zero_add,Array.getElem?_toList]) (by omega) h hl (fun s' a' w' hK _ hA => ?_)
 ·rw [htl] at key
  rw [hz,List.range_eq_range',List.range'_concat,Nat.zero_add]
  simpa using key
 ·obtain ⟨k1,k2,k3,k4,k5⟩ := hK
  obtain ⟨hdf,μ,St,hI,hnb,hmp⟩ := hA
  obtain ⟨h1,h2,h3,h4⟩ := hmp g es rfl
  unfold wpOps
  simp only [ho,wanted_none hg,if_true]
  refine .inl ?_
  unfold Oper.wp
  have e1 : a'.eval m = .map (some g) := by
   have := hI.opnd m
   rw [show opnd { s' with nb := s.nb + ops.size } m = opnd s' m by cases m <;> rfl,k1] at this
   generalize a'.eval m = z at this
   cases this;rfl
  have e2 : a'.eval k = .int .i64 x := by
   have := hI.opnd k
   rw [show opnd { s' with nb := s.nb + ops.size } k = opnd s' k by cases k <;> rfl,k2] at this
   generalize a'.eval k = z at this
   cases this;rfl
  have e3 : a'.eval v = .int .i64 y := by
   have := hI.opnd v
   rw [show opnd { s' with nb := s.nb + ops.size } v = opnd s' v by cases v <;> rfl,k3] at this
   generalize a'.eval v = z at this
   cases this;rfl
  obtain ⟨ob,hrun,hM⟩ := run_update_int (w := w') (y := y) hm h1 k4
  have hex : (execOp a'.eval o).run P w' = .ok .skip { w' with heap := w'.heap.setIfInBounds g ob } := by
   simp [execOp,hop,e1,e2,e3,hrun]
  rw [hex]
  show wpOps P ops Q [] (a'.put o.dst undef) _
  rw [hd]
  exact k5 _ _ ⟨hdf,μ,St,hI.other h2 h3 h4,hnb,fun g' es' he => by
   cases he
   exact ⟨hM,h2,h3,h4⟩⟩
theorem At.sub {t : LS} (h : At w0 St0 mp s a w) (hs : Sub 0 s t) : At w0 St0 mp t a w := by
 obtain ⟨hd,μ,St,hI,_,hmp⟩ := h
 obtain ⟨hn,ρ,hf,hb,hinj,hna,han⟩ := hs
 refine ⟨hd,(fun b => if b < t.nb then μ (ρ b) else none),St,⟨fun i => ?_,hI.sz.trans hn,?_,?_,?_,hI.st_lt,hI.st0,hI.os,hI.tape,hI.output,hI.size,hI.kept⟩,fun b hb => if_neg (by omega),fun g es hg => ?_⟩
 ·rcases hf i with h | h
  ·rw [h];exact .dead _
  ·exact ren_rep _ h (hI.frame i)
 ·intro b k hk
  obtain ⟨hlt,k',hk',hty,hfz,hcells⟩ := hb b k hk
  obtain ⟨g,R,cs,hm,hg,hcs,hle,hr,h1,hf1,hf2⟩ := hI.blk _ k' hk'
  have hlen := renLs_length _ hcells
  refine ⟨g,R,cs,by simp only [hlt,if_true];exact hm,by rw [← hty];exact hg,hcs,by omega,?_,?_,by rw [← hfz];exact hf1,by rw [← hfz];exact hf2⟩
  ·rw [← hlen];exact ren_reps _ hcells hr
  ·rw [← hlen];exact h1
 ·intro b b' k k' g R R' hk hk' hm hm'
  obtain ⟨hlt,k1,hk1,_⟩ := hb b k hk
  obtain ⟨hlt',k2,hk2,_⟩ := hb b' k' hk'
  simp only [hlt,if_true] at hm
  simp only [hlt',if_true] at hm'
  exact hinj b b' k k' hk hk' (hI.inj _ _ k1 k2 g R R' hk1 hk2 hm hm')
 ·intro b g R hm
  split at hm
  ·exact hI.lt _ g R hm
  ·cases hm
 ·obtain ⟨h1,h2,h3,h4⟩ := hmp g es hg
  refine ⟨h1,h2,h3,fun b R hb => ?_⟩
  simp only at hb
  split at hb
  ·exact h4 _ R hb
  ·cases hb
end
def MW (P : Program) (w0 : World) (St0 : Nat → Prop) (c : Code) (Φ : Exit → LS → Option (Nat × List (Int × Int)) → Prop) (s : LS) (mp : Option (Nat × List (Int × Int))) : Prop :=
 ∀ (Q : Exit → Act → World → Prop) (a : Act) (w : World),At w0 St0 mp s a w → (∀ e s' mp' a' w',Φ e s' mp' → At w0 St0 mp' s' a' w' → Q e a' w') → c.wp P Q a w
section
variable {P : Program} [L : Laid P] {w0 : World} {St0 : Nat → Prop} {mp : Option (Nat × List (Int × Int))} {s : LS} {Φ : Exit → LS → Option (Nat × List (Int × Int)) → Prop}
theorem MW.seg (hmix : P.follows .mixedOrders = true) (hL : LaidOk P St0 w0.heap) (hSt : ∀ g,St0 g → g < w0.heap.size) {c : Code} (hl : lwp P 0 c (fun e s' => Φ e s' mp) s) : MW P w0 St0 c Φ s mp := fun _ _ _ h hQ =>
 h.seg hmix hL hSt hl (fun e s' a' w' he hA => hQ e s' mp a' w' he hA)
theorem MW.fin {g : Nat} {es : List (Int × Int)} (hmix : P.follows .mixedOrders = true) (hL : LaidOk P St0 w0.heap) (hSt : ∀ g,St0 g → g < w0.heap.size) {c : Code} (hl : @lwp P (laidW P L [(g,es)]) 0 c (fun e s' => Φ e s' none) s) : MW P w0 St0 c Φ s (some (g,es)) := fun _ _ _ h hQ =>
 h.fin hmix hL hSt hl (fun e s' a' w' he hA => hQ e s' none a' w' he hA)
theorem MW.sub {t : LS} {c : Code} (hs : Sub 0 s t) (h : MW P w0 St0 c Φ t mp) : MW P w0 St0 c Φ s mp := fun Q a w hA hQ => h Q a w (hA.sub hs) hQ
theorem MW.seq {x y : Code} (h : MW P w0 St0 x (fun e s' mp' => match e with
  | .normal => MW P w0 St0 y Φ s' mp'
  | e => Φ e s' mp') s mp) : MW P w0 St0 (.seq x y) Φ s mp := fun Q a w hA hQ => by
 refine wp_seq (h _ a w hA fun e s' mp' a' w' he hA' => ?_)
 cases e with
 | normal => exact he Q a' w' hA' hQ
 | _ => exact hQ _ _ _ _ _ he hA'
theorem MW.block {id : Nat} {c : Code} (h : MW P w0 St0 c (fun e s' mp' => match e with
  | .exit i => if i = id then Φ .normal s' mp' else Φ (.exit i) s' mp'
  | e => Φ e s' mp') s mp) : MW P w0 St0 (.block id c) Φ s mp := fun Q a w hA hQ => by
 refine wp_block (h _ a w hA fun e s' mp' a' w' he hA' => ?_)
 cases e with
 | exit i =>
   show if i = id then Q .normal a' w' else Q (.exit i) a' w'
   by_cases hi : i = id
   · rw [if_pos hi]
     simp only [if_pos hi] at he
     exact hQ _ _ _ _ _ he hA'
   · rw [if_neg hi]
     simp only [if_neg hi] at he
     exact hQ _ _ _ _ _ he hA'
 | _ => exact hQ _ _ _ _ _ he hA'
theorem MW.loop {c : Code} {α : Type} (I : α → LS) (M : α → Option (Nat × List (Int × Int))) (m : α → Nat) (x : α) (h0 : Sub 0 s (I x)) (hm : mp = M x) (h : ∀ x, MW P w0 St0 c (fun e s' mp' => match e with
  | .normal => ∃ x',Sub 0 s' (I x') ∧ mp' = M x' ∧ m x' < m x
  | e => Φ e s' mp') (I x) (M x)) : MW P w0 St0 (.loop c) Φ s mp := by
 subst hm
 refine MW.sub h0 fun Q a w hA hQ => wp_loop_ghost (fun n a w => ∃ x,m x = n ∧ At w0 St0 (M x) (I x) a w) (m x) ⟨x,rfl,hA⟩ ?_
 rintro n a w ⟨x,rfl,hA⟩
 refine h x _ a w hA fun e s' mp' a' w' he hA' => ?_
 cases e with
 | normal =>
   obtain ⟨x',h1,h2,h3⟩ := he
   subst h2
   exact ⟨m x',h3,x',rfl,hA'.sub h1⟩
 | _ => exact hQ _ _ _ _ _ he hA'
theorem MW.make (hL : LaidOk P St0 w0.heap) (hSt : ∀ g, St0 g → g < w0.heap.size) {id : Nat} {ops : Array Oper} {o : Oper} {rest : List Oper} {t : TypeId} {d : Nat} (hops : ops.toList = o :: rest) (hop : o.op = .makeMap t none) (hd : o.dst = some d) (hdn : d < s.n) (hg : o.guard = none)
  (hl : ∀ g,lrun P false s.nb (okOf ops false s.nb) ops 1 rest (s.put (some d) (.lit (.map (some g)))) fun s' => Φ .normal { s' with nb := s.nb + ops.size } (some (g,[]))) : MW P w0 St0 (.region id ops false) Φ s none := fun Q a w hA hQ => by
 refine hA.make hL hSt hops hop hd hdn hg fun g => ?_
 exact lrun_mono (fun s' hs' a' w' hA' => hQ _ _ _ _ _ hs' hA') _ _ (hl g)
theorem MW.update (hL : LaidOk P St0 w0.heap) (hSt : ∀ g, St0 g → g < w0.heap.size) {id last : Nat} {ops : Array Oper} {o : Oper} {t : TypeId} {m k v : Operand} {g : Nat} {x y : Int} {es : List (Int × Int)} (hz : ops.size = last + 1) (ho : ops[last]? = some o) (hop : o.op = .mapUpdate t m k v) (hd : o.dst = none) (hg : o.guard = none) (hm : mapIntL P t = true)
  (hl : lrun P false s.nb (okOf ops false s.nb) ops 0 (ops.toList.take last) s fun s' => opnd s' m = .lit (.map (some g)) ∧ opnd s' k = .lit (.int .i64 x) ∧ opnd s' v = .lit (.int .i64 y) ∧ (es.all fun p => x != p.1) = true ∧ Φ .normal { s' with nb := s.nb + ops.size } (some (g,es ++ [(x,y)]))) : MW P w0 St0 (.region id ops false) Φ s (some (g,es)) := fun Q a w hA hQ => by
 refine hA.update (x := x) (y := y) hL hSt hz ho hop hd hg hm ?_
 refine lrun_mono (fun s' hs' => ?_) _ _ hl
 obtain ⟨h1,h2,h3,h4,h5⟩ := hs'
 exact ⟨h1,h2,h3,h4,fun a' w' hA' => hQ _ _ _ _ _ h5 hA'⟩
theorem good_laidW {f : FuncId} {args : List LV} {r : LV} {mp : List (Nat × List (Int × Int))} (h : PureGood P f args r) (h0 : Laid.maps P = []) : @PureGood P (laidW P L mp) f args r :=
 ⟨h.1,fun w St vs hSt hLd hr => h.2 w St vs hSt ⟨hLd.1,fun p hp => by rw [h0] at hp;cases hp⟩ hr⟩
theorem new_of_mw {f : FuncId} {fn : Func} {c : Code} {args : List LV} {n sz : Nat} {ty : TypeId} {cells : List LV} (hf : P.funcs[f]? = some fn) (hb : fn.body = some c) (hname : fn.name ≠ "runtime.NumGoroutine")
  {nt : Nat} (hnt : fn.ntmps = nt) {rs : List ResultVar} (hrs : fn.results.toList = rs) (hn : args.length ≤ nt) (hpl : ∀ c ∈ cells,plainC c = true)
  (h : ∀ (w0 : World) (St0 : Nat → Prop),LaidOk P St0 w0.heap → (∀ g,St0 g → g < w0.heap.size) → MW P w0 St0 c (fun e s' _ => newPost P rs n sz ty cells e s') ⟨nt,fun i => args.getD i .dead,fun _ => none,0⟩ none) : NewGood P f args n sz ty cells := by
 subst hnt hrs
 refine ⟨⟨fn,hf,hname,by rw [hb];rfl⟩,hpl,fun w St vs hSt hLd hr => ?_⟩
 refine calls_of_wp hf hb (h w St hLd hSt _ _ w ⟨rfl,fun _ => none,St,⟨fun i => ?_,?_,by simp,by simp,by simp,fun g hg => ⟨hSt g hg,.inl hg⟩,fun _ h => h,rfl,rfl,rfl,Nat.le_refl _,fun _ _ _ => rfl⟩,fun _ _ => rfl,fun _ _ h => by cases h⟩ ?_)
 ·simp only [List.getD_eq_getElem?_getD,Array.getD_eq_getD_getElem?]
  cases hc : args[i]? with
  | none => exact .dead _
  | some x =>
    have hlt : i < args.length := (List.getElem?_eq_some_iff.1 hc).1
    have hlt2 : i < vs.length := by have := hr.1;omega
    have hu : vs[i]? = some vs[i] := List.getElem?_eq_getElem hlt2
    have : (vs.toArray ++ Array.replicate (fn.ntmps - vs.toArray.size) undef)[i]? = some vs[i] := by
      rw [Array.getElem?_append_left (by simpa using hlt2)]
      simpa using hu
    rw [this]
    exact hr.2 i x vs[i] hc hu
 ·have := hr.1
  simp;omega
 ·intro e s' _ a' w' he hs'
  obtain ⟨hdf,μ,St',hI,_⟩ := hs'
  have fin : (∃ b,resL P fn.results.toList s' = some (.own b 0 n sz) ∧ s'.h b = some ⟨ty,cells,false⟩) → bodyPost P fn (fun e w' => ∃ v St' g cs,e = .returned v ∧ Rep St' w'.heap (fun b => if b = 0 then some (g,cs.size) else none) (.own 0 0 n sz) v ∧ w.heap.size ≤ g ∧ g < w'.heap.size ∧ ¬ St' g ∧ w'.heap[g]? = some (.cells cs ty (0,0)) ∧ cells.length ≤ cs.size ∧
   Reps St' w'.heap (fun _ => none) cells (cs.toList.take cells.length) ∧ (∀ u ∈ cs.toList.take cells.length,u.oneCell' = true) ∧ (∀ g,St g → St' g) ∧ (∀ g,St' g → g < w'.heap.size ∧ (St g ∨ w.heap.size ≤ g)) ∧
   w'.os = w.os ∧ w'.tape = w.tape ∧ w'.output = w.output ∧ w.heap.size ≤ w'.heap.size ∧ ∀ g,g < w.heap.size → w'.heap[g]? = w.heap[g]?) .ret a' w' := by
   rintro ⟨b,hx,hbk⟩
   obtain ⟨v,hv,hV⟩ := res_sound hI hx
   obtain ⟨g,R,cs,hm,hg,hsz,hle,hrc,h1,_,hnS⟩ := hI.blk b _ hbk
   have hns := hnS rfl
   refine ⟨hdf,v,hv,v,St',g,cs,rfl,?_,?_,(hI.lt b g R hm).1,hns,hg,hle,reps_plain hpl hrc,h1,fun g hg => hI.st0 g hg,fun g hg => ?_,hI.os,hI.tape,hI.output,hI.size,fun g hg => hI.kept g hg (fun h => h)⟩
   ·cases hV with
    | own hb' hn hc hR =>
      rw [hm] at hb'
      cases hb'
      exact .own (by rw [if_pos rfl]) hn hc (by rw [hR,← hsz])
   ·rcases (hI.lt b g R hm).2 with hh | hh | hh
    ·exact hh.elim
    ·exact hh
    ·exact absurd hh hns
   ·obtain ⟨h1,h2⟩ := hI.st_lt g hg
    exact ⟨h1,h2.imp id (fun h => h.resolve_left (fun h => h))⟩
  cases e with
  | ret => exact fin he
  | normal => exact fin he
  | _ => exact he.elim
end
def plainD : LV → Bool
 | .agg cs => cs.all plainC
 | x => plainC x
theorem rep_plainD {St : Nat → Prop} {hp : Array Obj} {μ μ' : Nat → Option (Nat × Nat)} {x : LV} {v : Value} (h : plainD x = true) (hr : Rep St hp μ x v) : Rep St hp μ' x v := by
 cases hr with
 | agg hl h1 hr =>
   have h := List.all_eq_true.1 h
   exact .agg hl h1 (fun j c u hc hu => rep_plain (h c (List.mem_of_getElem? hc)) (hr j c u hc hu))
 | lit v => exact .lit v
 | dead v => exact .dead v
 | snil => exact .snil
 | sl a b c d e f g => exact .sl a b c d e f g
 | ro c d e f g => exact .ro c d e f g
 | _ => simp [plainD,plainC] at h
theorem reps_plainD {St : Nat → Prop} {hp : Array Obj} {μ μ' : Nat → Option (Nat × Nat)} {cs : List LV} {us : List Value} (h : ∀ c ∈ cs,plainD c = true) (hr : Reps St hp μ cs us) : Reps St hp μ' cs us :=
 ⟨hr.1,fun j c u hc hu => rep_plainD (h c (List.mem_of_getElem? hc)) (hr.2 j c u hc hu)⟩
theorem h_of_newD {P : Program} [Laid P] {f : FuncId} {args : List LV} {n sz : Nat} {ty : TypeId} {cells : List LV} {h : Nat → Option Blk} {nb : Nat} (hg : NewGood P f args n sz ty cells) (ha : ∀ c ∈ args, plainD c = true) (hnb : h nb = none) :
  HGood P f args h nb (.own nb 0 n sz) (upd h nb (some ⟨ty,cells,false⟩)) (nb + 1) := by
 obtain ⟨hen,hpl,hgood⟩ := hg
 refine ⟨hen,fun w0 M St0 μ St w vs hL h0 hμ hvs => ?_⟩
 refine (hgood w St _ (fun g hg => (h0.st_lt g hg).1) (h0.laid hL) (reps_plainD ha hvs)).mono ?_
 rintro e w' ⟨v,St',g,cs,rfl,hv,hge,hlt,hns,hg,hle,hr,h1,hs1,hs2,hos,htp,hout,hsize,hkept⟩
 have hS : ∀ g,St g → w'.heap[g]? = w.heap[g]? := fun g hg => hkept g (h0.st_lt g hg).1
 have hup : ∀ b r,μ b = some r → upd μ nb (some (g,cs.size)) b = some r := fun b r hb => by
  by_cases hbn : b = nb
  ·subst hbn;rw [hμ b (Nat.le_refl _)] at hb;cases hb
  ·rw [upd_ne _ _ _ _ hbn];exact hb
 refine ⟨v,upd μ nb (some (g,cs.size)),St',rfl,?_,?_,fun b hb => upd_ne _ _ _ _ (by omega),fun b hb => by rw [upd_ne _ _ _ _ (by omega)];exact hμ b (by omega),hs1,hS⟩
 ·refine ⟨fun _ => .dead _,rfl,?_,?_,?_,fun g' hg' => ⟨(hs2 g' hg').1,?_⟩,fun g hg => hs1 g (h0.st0 g hg),hos.trans h0.os,htp.trans h0.tape,hout.trans h0.output,Nat.le_trans h0.size hsize,fun g' hg' hM => (hkept g' (Nat.lt_of_lt_of_le hg' h0.size)).trans (h0.kept g' hg' hM)⟩
  ·intro b k hb
   by_cases hbn : b = nb
   ·subst hbn
    simp only [upd_same] at hb ⊢
    cases hb
    exact ⟨g,cs.size,cs,rfl,hg,rfl,hle,reps_plain hpl hr,h1,by simp,fun _ => hns⟩
   ·simp only [upd_ne _ _ _ _ hbn] at hb ⊢
    obtain ⟨g2,R2,cs2,hm2,hg2,hcs2,hle2,hr2,ho2,hfz2,hnfz2⟩ := h0.blk b k hb
    have hlt2 := (h0.lt b g2 R2 hm2).1
    refine ⟨g2,R2,cs2,hm2,by rw [hkept g2 hlt2];exact hg2,hcs2,hle2,hr2.mono hs1 hS hup,ho2,fun hh => hs1 g2 (hfz2 hh),fun hh hst => ?_⟩
    rcases (hs2 g2 hst).2 with h3 | h3
    ·exact hnfz2 hh h3
    ·omega
  ·intro b b' k k' g1 R1 R2 hb hb' hm hm'
   by_cases hbn : b = nb <;> by_cases hbn' : b' = nb
   ·rw [hbn,hbn']
   ·subst hbn
    simp only [upd_same,upd_ne _ _ _ _ hbn'] at *
    cases hm
    have := (h0.lt _ _ _ hm').1
    omega
   ·subst hbn'
    simp only [upd_same,upd_ne _ _ _ _ hbn] at *
    cases hm'
    have := (h0.lt _ _ _ hm).1
    omega
   ·simp only [upd_ne _ _ _ _ hbn,upd_ne _ _ _ _ hbn'] at *
    exact h0.inj b b' k k' g1 R1 R2 hb hb' hm hm'
  ·intro b g1 R1 hm
   by_cases hbn : b = nb
   ·subst hbn
    rw [upd_same] at hm
    cases hm
    exact ⟨hlt,.inr (.inl (Nat.le_trans h0.size hge))⟩
   ·rw [upd_ne _ _ _ _ hbn] at hm
    exact ⟨Nat.lt_of_lt_of_le (h0.lt _ _ _ hm).1 hsize,(h0.lt _ _ _ hm).2.imp id (Or.imp id (hs1 _))⟩
  ·rcases (hs2 g' hg').2 with hh | hh
   ·exact (h0.st_lt g' hh).2
   ·exact .inr (.inr (Nat.le_trans h0.size hh))
 ·cases hv with
  | own hb' hn hc hR =>
    simp only [if_true,Option.some.injEq,Prod.mk.injEq] at hb'
    obtain ⟨rfl,rfl⟩ := hb'
    exact .own (upd_same _ _ _) hn hc hR
theorem good_of_newD {P : Program} [Laid P] {f : FuncId} {args : List LV} {n sz : Nat} {ty : TypeId} {cells : List LV} (hg : NewGood P f args n sz ty cells) (hl : cells.length = n * sz) (hp : ∀ c ∈ cells,pureC c = true) : PureGood P f args (.sl n cells) := by
 obtain ⟨hen,hpl,hgood⟩ := hg
 refine ⟨hen,fun w St vs hSt hLd hvs => ?_⟩
 refine (hgood w St vs hSt hLd hvs).mono ?_
 rintro e w' ⟨v,St',g,cs,rfl,hv,hge,hlt,hns,hg,hle,hr,h1,hs1,hs2,hos,htp,hout,hsize,hkept⟩
 refine ⟨v,fun g' => St' g' ∨ g' = g,rfl,?_,fun g hg => .inl (hs1 g hg),fun g' hg' => ?_,hos,htp,hout,hsize,hkept⟩
 ·cases hv with
  | own hb' hn hc hR =>
    simp only [if_true,Option.some.injEq,Prod.mk.injEq] at hb'
    obtain ⟨rfl,rfl⟩ := hb'
    refine .sl hn hc rfl hr.1 (fun j u hu => ⟨.inr rfl,?_⟩) h1 (fun j c u hc hu => (hr.2 j c u hc hu).mono (fun _ h => .inl h) (fun _ _ => rfl) (fun _ _ h => h))
    simp only [cellAt,hg,Nat.zero_add]
    have hj : j < (cs.toList.take cells.length).length := (List.getElem?_eq_some_iff.1 hu).1
    rw [List.getElem?_take] at hu
    split at hu
    · simpa using hu
    · cases hu
 ·rcases hg' with hg' | rfl
  ·exact hs2 g' hg'
  ·exact ⟨hlt,.inr hge⟩
theorem l_ncallD {P : Program} [Laid P] {base i : Nat} {ok : Nat → Nat → Bool} {ops : Array Oper} {o : Oper} {rest : List Oper} {n nb d m : Nat} {F : Nat → LV} {H : Nat → Option Blk} {K : LS → Prop} {c : Call} {f : FuncId} {args : List LV} {k sz : Nat} {ty : TypeId} {cells : List LV}
  (hm : max nb (base + ops.size) = m) (hop : o.op = .call c) (hcal : c.callee = .value (.func f)) (hd : o.dst = some d) (hn : d < n) (hw : wantedL ops o ⟨n,F,H,nb⟩ = some true) (hargs : c.args.toList.map (opnd ⟨n,F,H,nb⟩) = args) (hg : NewGood P f args k sz ty cells) (ha : ∀ c ∈ args,plainD c = true) (hnb : H m = none)
  (hk : lrun P true base ok ops (i + 1) rest ⟨n,upd F d (.own m 0 k sz),upd H m (some ⟨ty,cells,false⟩),m + 1⟩ K) : lrun P true base ok ops i (o :: rest) ⟨n,F,H,nb⟩ K := by
 subst hm
 exact .inr (.inl ⟨rfl,c,.func f,f,[],d,_,_,_,hop,hcal,rfl,hd,hn,hw,by rw [List.append_nil,hargs];exact h_of_newD hg ha hnb,Nat.le_succ _,hk⟩)
end Go.Lg