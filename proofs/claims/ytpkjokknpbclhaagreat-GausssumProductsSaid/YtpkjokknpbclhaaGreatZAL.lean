/- Contracts of functions of the program, and what proves them (texts: Lg20 Lg21 Lg22 Lg23 B16 Enc C9). -/
import Derived.RangeFuncSeq
import Derived.RangeFuncLeaves
import Derived.RangeFuncRecord
import Derived.TacticsIn
import Derived.LoopIn
import Derived.Test.YtpkjokknpbclhaaGreatZAE
import Derived.Test.YtpkjokknpbclhaaGreatZAI
import Derived.Test.YtpkjokknpbclhaaGreatZAK
set_option linter.all false
namespace Go.Lg
open Go
def StandsD (D : List Deferred) (na : Nat) (A : Nat → Option (Nat × Nat)) (w0 : World) (M St0 : Nat → Prop) (s : LS) (a : Act) (w : World) : Prop :=
 a.defers = D ∧ Stands na A w0 M St0 s { a with defers := [] } w
theorem StandsD.sub {D : List Deferred} {na : Nat} {A : Nat → Option (Nat × Nat)} {w0 : World} {M St0 : Nat → Prop} {s t : LS} {a : Act} {w : World} (h : StandsD D na A w0 M St0 s a w) (hs : Sub na s t) : StandsD D na A w0 M St0 t a w :=
 ⟨h.1,h.2.sub hs⟩
/-! ### From one anchor to another -/
section
variable {w0 w wa w' : World} {M St0 St St' : Nat → Prop} {s s' : LS} {μ μ' : Nat → Option (Nat × Nat)} {tm tm' : Array Value}
def Mv (μ : Nat → Option (Nat × Nat)) (St : Nat → Prop) : Nat → Prop := fun g => (∃ b R,μ b = some (g,R)) ∧ ¬ St g
theorem Inv.at (h : Inv w0 M St0 s μ St tm w) (hs : w.heap.size ≤ w'.heap.size) (hk : ∀ g,g < w.heap.size → (St g ∨ ∃ b R,μ b = some (g,R)) → w'.heap[g]? = w.heap[g]?) : Inv w' (Mv μ St) St s μ St tm w' := by
 have hS : ∀ g,St g → w'.heap[g]? = w.heap[g]? := fun g hg => hk g (h.st_lt g hg).1 (.inl hg)
 refine ⟨fun i => (h.frame i).mono (fun _ h => h) hS (fun _ _ h => h),h.sz,fun b k hb => ?_,h.inj,fun b g R hm => ⟨Nat.lt_of_lt_of_le (h.lt b g R hm).1 hs,?_⟩,fun g hg => ⟨Nat.lt_of_lt_of_le (h.st_lt g hg).1 hs,.inl hg⟩,fun _ h => h,rfl,rfl,rfl,Nat.le_refl _,fun _ _ _ => rfl⟩
 ·obtain ⟨g,R,cs,h1,h2,h3,h4,h5,h6,h7,h8⟩ := h.blk b k hb
  exact ⟨g,R,cs,h1,by rw [hk g (h.lt b g R h1).1 (.inr ⟨b,R,h1⟩)];exact h2,h3,h4,⟨h5.1,fun j c u hc hu => (h5.2 j c u hc hu).mono (fun _ h => h) hS (fun _ _ h => h)⟩,h6,h7,h8⟩
 ·by_cases hg : St g
  ·exact .inr (.inr hg)
  ·exact .inl ⟨⟨b,R,hm⟩,hg⟩
theorem Inv.back (h : Inv w0 M St0 s μ St tm w) (hs : w.heap.size ≤ wa.heap.size) (hk : ∀ g, g < w0.heap.size → ¬ M g → wa.heap[g]? = w.heap[g]?) (ho : wa.os = w.os) (ht : wa.tape = w.tape) (hou : wa.output = w.output)
  (h' : Inv wa (Mv μ St) St s' μ' St' tm' w') : Inv w0 M St0 s' μ' St' tm' w' := by
 refine ⟨h'.frame,h'.sz,h'.blk,h'.inj,fun b g R hm => ⟨(h'.lt b g R hm).1,?_⟩,fun g hg => ⟨(h'.st_lt g hg).1,?_⟩,fun g hg => h'.st0 g (h.st0 g hg),h'.os.trans (ho.trans h.os),h'.tape.trans (ht.trans h.tape),h'.output.trans (hou.trans h.output),Nat.le_trans h.size (Nat.le_trans hs h'.size),fun g hlt hM => ?_⟩
 ·rcases (h'.lt b g R hm).2 with ⟨⟨b1,R1,hh⟩,hns⟩ | hh | hh
  ·rcases (h.lt _ _ _ hh).2 with h1 | h1 | h1
   ·exact .inl h1
   ·exact .inr (.inl h1)
   ·exact .inr (.inr (h'.st0 g h1))
  ·exact .inr (.inl (Nat.le_trans h.size (Nat.le_trans hs hh)))
  ·exact .inr (.inr hh)
 ·rcases (h'.st_lt g hg).2 with hh | ⟨⟨b1,R1,hh⟩,hns⟩ | hh
  ·exact (h.st_lt g hh).2
  ·rcases (h.lt _ _ _ hh).2 with h1 | h1 | h1
   ·exact .inr (.inl h1)
   ·exact .inr (.inr h1)
   ·exact absurd h1 hns
  ·exact .inr (.inr (Nat.le_trans h.size (Nat.le_trans hs hh)))
 ·rw [h'.kept g (Nat.lt_of_lt_of_le hlt (Nat.le_trans h.size hs)) (fun hm => ?_),hk g hlt hM]
  ·exact h.kept g hlt hM
  ·obtain ⟨⟨b1,R1,hh⟩,hns⟩ := hm
   rcases (h.lt _ _ _ hh).2 with h1 | h1 | h1
   ·exact hM h1
   ·omega
   ·exact hns h1
end
end Go.Lg
namespace Go.Lg
open Go Go.RowKit
mutual
def closedL : LV → Bool
 | .own .. => false
 | .ptr .. => false
 | .agg cs => closedLs cs
 | .tup cs => closedLs cs
 | .fn _ cs => closedLs cs
 | _ => true
def closedLs : List LV → Bool
 | [] => true
 | c :: cs => closedL c && closedLs cs
end
end Go.Lg
namespace Go.Lg
open Go Go.RowKit
end Go.Lg
namespace Go.Lg
open Go Go.RowKit
def FrOk (St : Nat → Prop) (s : LS) (a : Act) (w : World) : Prop :=
 a.defers = [] ∧ (s.h = fun _ => none) ∧ a.tmps.size = s.n ∧ ∀ i,Rep St w.heap (fun _ => none) (s.f i) (a.tmps.getD i undef)
theorem FrOk.sub {St : Nat → Prop} {n nb : Nat} {F : Nat → LV} {h : Nat → Option Blk} {a : Act} {w : World} {l : List (Nat × LV)} (hk : FrOk St ⟨n,F,h,nb⟩ a w) (hl : ∀ p ∈ l,F p.1 = p.2) : FrOk St ⟨n,lk l,fun _ => none,0⟩ a w :=
 ⟨hk.1,rfl,hk.2.2.1,fun i => lk_all (Q := fun i v => Rep St w.heap (fun _ => none) v (a.tmps.getD i undef)) (fun _ => .dead _) l (fun p hp => by rw [← hl p hp];exact hk.2.2.2 p.1) i⟩
theorem FrOk.inv {St : Nat → Prop} {s : LS} {a : Act} {w : World} (h : FrOk St s a w) (hSt : ∀ g,St g → g < w.heap.size) : Inv w (fun _ => False) St s (fun _ => none) St a.tmps w :=
 ⟨h.2.2.2,h.2.2.1,(fun b k hk => by rw [h.2.1] at hk;cases hk),(fun b b' k k' g R R' hk => by rw [h.2.1] at hk;cases hk),(by simp),fun g hg => ⟨hSt g hg,.inl hg⟩,fun _ h => h,rfl,rfl,rfl,Nat.le_refl _,fun _ _ _ => rfl⟩
theorem FrOk.world {St : Nat → Prop} {s : LS} {a : Act} {w w' : World} (h : FrOk St s a w) (hk : ∀ g,St g → w'.heap[g]? = w.heap[g]?) : FrOk St s a w' :=
 ⟨h.1,h.2.1,h.2.2.1,fun i => (h.2.2.2 i).mono (fun _ h => h) hk (fun _ _ h => h)⟩
theorem FrOk.put {St : Nat → Prop} {s : LS} {a : Act} {w : World} (h : FrOk St s a w) (hSt : ∀ g,St g → g < w.heap.size) {d : Nat} (hd : d < s.n) {x : LV} {v : Value} (hx : Rep St w.heap (fun _ => none) x v) : FrOk St (s.put (some d) x) (a.put (some d) v) w := by
 have := (h.inv hSt).putD (d := some d) hx (fun t ht => by cases ht;exact hd) a.defers
 exact ⟨h.1,h.2.1,this.sz,this.frame⟩
theorem FrOk.cond {St : Nat → Prop} {s : LS} {a : Act} {w : World} (h : FrOk St s a w) {t : Nat} {v : Value} (ht : s.f t = .lit v) : a.eval (.tmp t) = v := by
 have := h.2.2.2 t
 rw [ht] at this
 show a.tmps.getD t undef = v
 generalize a.tmps.getD t undef = q at this
 cases this;rfl
end Go.Lg
namespace Go.Proofs.YtpkjokknpbclhaaGreat
open Go Go.Lg Go.Num
set_option maxRecDepth 100000
attribute [local irreducible] Go.Lg.lrun Go.Lg.lwp Go.Lg.exThen Go.Lg.exBlk Go.Lg.keep Go.Lg.goodPost Go.Lg.mutPost
def qcells (q : Rat) : List LV := [bl (decide (q.num < 0)),dg (digs q.num.natAbs),bl false,dg (digs q.den)]
def encF (f : List Rat) : LV := .sl f.length (f.flatMap qcells)
theorem encF_drop : ∀ (f : List Rat) (j : Nat),(f.flatMap qcells).drop (j * 4) = (f.drop j).flatMap qcells
 | [],j => by simp
 | q :: f,0 => by simp
 | q :: f,j + 1 => by
   rw [show (j + 1) * 4 = 4 + j * 4 by omega,← List.drop_drop,List.drop_succ_cons,← encF_drop f j]
   rfl
def hor (f : List Rat) (x : Rat) : Rat := f.foldr (fun c acc => acc * x + c) 0
end Go.Proofs.YtpkjokknpbclhaaGreat
namespace Go.Proofs.YtpkjokknpbclhaaGreat
open Go Go.Lg Go.Num
def sg (z : Int) : LV := bl (decide (z < 0))
def mg (z : Int) : LV := dg (digs z.natAbs)
theorem encI_sm (z : Int) : encI z = .agg [sg z,mg z] := rfl
theorem encQ_sm (q : Rat) : encQ q = .agg [sg q.num,mg q.num,sg (q.den : Int),mg (q.den : Int)] := by
 have h : ¬ (q.den : Int) < 0 := by omega
 simp [encQ,sg,mg,h]
theorem qcells_sm (q : Rat) : qcells q = [sg q.num,mg q.num,sg (q.den : Int),mg (q.den : Int)] := by
 have h : ¬ (q.den : Int) < 0 := by omega
 simp [qcells,sg,mg,h]
theorem s1 {h : Nat → Option Blk} {ok : Nat → Bool} {k : Nat} (z : Int) : pv h ok (k + 1) (sg z) = some (sg z,[]) := rfl
theorem s2 {h : Nat → Option Blk} {ok : Nat → Bool} {k : Nat} (z : Int) : pv h ok (k + 1) (mg z) = some (mg z,[]) := rfl
theorem s3 (z : Int) : one (sg z) = true := rfl
theorem s4 (z : Int) : one (mg z) = true := rfl
theorem s5 (z : Int) : cellsOf (sg z) = some [sg z] := rfl
theorem s6 (z : Int) : cellsOf (mg z) = some [mg z] := rfl
theorem s7 (nb : Nat) (ρ : Nat → Nat) (z : Int) : renL nb ρ (sg z) = some (sg z) := by simp [sg,bl,renL]
theorem s8 (nb : Nat) (ρ : Nat → Nat) (z : Int) : renL nb ρ (mg z) = some (mg z) := by simp [mg,dg,renL]
theorem s9 (z : Int) : plainC (sg z) = true := rfl
theorem s10 (z : Int) : plainC (mg z) = true := rfl
def smS := And.intro @s1 (And.intro @s2 (And.intro s3 (And.intro s4 (And.intro s5 (And.intro s6 (And.intro s7 (And.intro s8 (And.intro s9 s10))))))))
end Go.Proofs.YtpkjokknpbclhaaGreat
namespace Go.Proofs.YtpkjokknpbclhaaGreat
open Go Go.Lg Go.Num
set_option maxRecDepth 100000
attribute [local irreducible] Go.Lg.lrun Go.Lg.lwp Go.Lg.exThen Go.Lg.exBlk Go.Lg.keep Go.Lg.goodPost sg mg
end Go.Proofs.YtpkjokknpbclhaaGreat