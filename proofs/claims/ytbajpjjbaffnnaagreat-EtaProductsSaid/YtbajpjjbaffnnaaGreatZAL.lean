/- Contracts of functions of the program, and what proves them (texts: Lg20 Lg21 Lg22 Lg23 B16 Enc C9). -/
import Derived.RangeFuncSeq
import Derived.RangeFuncLeaves
import Derived.RangeFuncRecord
import Derived.TacticsIn
import Derived.LoopIn
import Derived.Test.YtbajpjjbaffnnaaGreatZAE
import Derived.Test.YtbajpjjbaffnnaaGreatZAI
import Derived.Test.YtbajpjjbaffnnaaGreatZAK
set_option linter.all false
namespace Go.Lg
open Go
def StandsD (D : List Deferred) (na : Nat) (A : Nat → Option (Nat × Nat)) (w0 : World) (M St0 : Nat → Prop) (s : LS) (a : Act) (w : World) : Prop :=
 a.defers = D ∧ Stands na A w0 M St0 s { a with defers := [] } w
theorem StandsD.sub {D : List Deferred} {na : Nat} {A : Nat → Option (Nat × Nat)} {w0 : World} {M St0 : Nat → Prop} {s t : LS} {a : Act} {w : World} (h : StandsD D na A w0 M St0 s a w) (hs : Sub na s t) : StandsD D na A w0 M St0 t a w :=
 ⟨h.1,h.2.sub hs⟩
/-! ### From one anchor to another -/
section
variable {w0 w wa w' : World} {M St0 St St' : Nat → Prop} {s s' : LS} {μ μ' : Nat → Option (Nat × Nat)} {tm tm' : Array Value}
def Mv (μ : Nat → Option (Nat × Nat)) (St : Nat → Prop) : Nat → Prop := fun g => (∃ b R,μ b = some (g,R)) ∧ ¬ St g
theorem Inv.at (h : Inv w0 M St0 s μ St tm w) (hs : w.heap.size ≤ w'.heap.size) (hk : ∀ g,g < w.heap.size → (St g ∨ ∃ b R,μ b = some (g,R)) → w'.heap[g]? = w.heap[g]?) : Inv w' (Mv μ St) St s μ St tm w' := by
 have hS : ∀ g,St g → w'.heap[g]? = w.heap[g]? := fun g hg => hk g (h.st_lt g hg).1 (.inl hg)
 refine ⟨fun i => (h.frame i).mono (fun _ h => h) hS (fun _ _ h => h),h.sz,fun b k hb => ?_,h.inj,fun b g R hm => ⟨Nat.lt_of_lt_of_le (h.lt b g R hm).1 hs,?_⟩,fun g hg => ⟨Nat.lt_of_lt_of_le (h.st_lt g hg).1 hs,.inl hg⟩,fun _ h => h,rfl,rfl,rfl,Nat.le_refl _,fun _ _ _ => rfl⟩
 ·obtain ⟨g,R,cs,h1,h2,h3,h4,h5,h6,h7,h8⟩ := h.blk b k hb
  exact ⟨g,R,cs,h1,by rw [hk g (h.lt b g R h1).1 (.inr ⟨b,R,h1⟩)];exact h2,h3,h4,⟨h5.1,fun j c u hc hu => (h5.2 j c u hc hu).mono (fun _ h => h) hS (fun _ _ h => h)⟩,h6,h7,h8⟩
 ·by_cases hg : St g
  ·exact .inr (.inr hg)
  ·exact .inl ⟨⟨b,R,hm⟩,hg⟩
theorem Inv.back (h : Inv w0 M St0 s μ St tm w) (hs : w.heap.size ≤ wa.heap.size) (hk : ∀ g, g < w0.heap.size → ¬ M g → wa.heap[g]? = w.heap[g]?) (ho : wa.os = w.os) (ht : wa.tape = w.tape) (hou : wa.output = w.output)
  (h' : Inv wa (Mv μ St) St s' μ' St' tm' w') : Inv w0 M St0 s' μ' St' tm' w' := by
 refine ⟨h'.frame,h'.sz,h'.blk,h'.inj,fun b g R hm => ⟨(h'.lt b g R hm).1,?_⟩,fun g hg => ⟨(h'.st_lt g hg).1,?_⟩,fun g hg => h'.st0 g (h.st0 g hg),h'.os.trans (ho.trans h.os),h'.tape.trans (ht.trans h.tape),h'.output.trans (hou.trans h.output),Nat.le_trans h.size (Nat.le_trans hs h'.size),fun g hlt hM => ?_⟩
 ·rcases (h'.lt b g R hm).2 with ⟨⟨b1,R1,hh⟩,hns⟩ | hh | hh
  ·rcases (h.lt _ _ _ hh).2 with h1 | h1 | h1
   ·exact .inl h1
   ·exact .inr (.inl h1)
   ·exact .inr (.inr (h'.st0 g h1))
  ·exact .inr (.inl (Nat.le_trans h.size (Nat.le_trans hs hh)))
  ·exact .inr (.inr hh)
 ·rcases (h'.st_lt g hg).2 with hh | ⟨⟨b1,R1,hh⟩,hns⟩ | hh
  ·exact (h.st_lt g hh).2
  ·rcases (h.lt _ _ _ hh).2 with h1 | h1 | h1
   ·exact .inr (.inl h1)
   ·exact .inr (.inr h1)
   ·exact absurd h1 hns
  ·exact .inr (.inr (Nat.le_trans h.size (Nat.le_trans hs hh)))
 ·rw [h'.kept g (Nat.lt_of_lt_of_le hlt (Nat.le_trans h.size hs)) (fun hm => ?_),hk g hlt hM]
  ·exact h.kept g hlt hM
  ·obtain ⟨⟨b1,R1,hh⟩,hns⟩ := hm
   rcases (h.lt _ _ _ hh).2 with h1 | h1 | h1
   ·exact hM h1
   ·omega
   ·exact hns h1
end
end Go.Lg
namespace Go.Lg
open Go Go.RowKit
mutual
def closedL : LV → Bool
 | .own .. => false
 | .ptr .. => false
 | .agg cs => closedLs cs
 | .tup cs => closedLs cs
 | .fn _ cs => closedLs cs
 | _ => true
def closedLs : List LV → Bool
 | [] => true
 | c :: cs => closedL c && closedLs cs
end
end Go.Lg
namespace Go.Lg
open Go Go.RowKit
end Go.Lg
namespace Go.Lg
open Go Go.RowKit
def FrOk (St : Nat → Prop) (s : LS) (a : Act) (w : World) : Prop :=
 a.defers = [] ∧ (s.h = fun _ => none) ∧ a.tmps.size = s.n ∧ ∀ i,Rep St w.heap (fun _ => none) (s.f i) (a.tmps.getD i undef)
theorem FrOk.sub {St : Nat → Prop} {n nb : Nat} {F : Nat → LV} {h : Nat → Option Blk} {a : Act} {w : World} {l : List (Nat × LV)} (hk : FrOk St ⟨n,F,h,nb⟩ a w) (hl : ∀ p ∈ l,F p.1 = p.2) : FrOk St ⟨n,lk l,fun _ => none,0⟩ a w :=
 ⟨hk.1,rfl,hk.2.2.1,fun i => lk_all (Q := fun i v => Rep St w.heap (fun _ => none) v (a.tmps.getD i undef)) (fun _ => .dead _) l (fun p hp => by rw [← hl p hp];exact hk.2.2.2 p.1) i⟩
theorem FrOk.inv {St : Nat → Prop} {s : LS} {a : Act} {w : World} (h : FrOk St s a w) (hSt : ∀ g,St g → g < w.heap.size) : Inv w (fun _ => False) St s (fun _ => none) St a.tmps w :=
 ⟨h.2.2.2,h.2.2.1,(fun b k hk => by rw [h.2.1] at hk;cases hk),(fun b b' k k' g R R' hk => by rw [h.2.1] at hk;cases hk),(by simp),fun g hg => ⟨hSt g hg,.inl hg⟩,fun _ h => h,rfl,rfl,rfl,Nat.le_refl _,fun _ _ _ => rfl⟩
theorem FrOk.world {St : Nat → Prop} {s : LS} {a : Act} {w w' : World} (h : FrOk St s a w) (hk : ∀ g,St g → w'.heap[g]? = w.heap[g]?) : FrOk St s a w' :=
 ⟨h.1,h.2.1,h.2.2.1,fun i => (h.2.2.2 i).mono (fun _ h => h) hk (fun _ _ h => h)⟩
theorem FrOk.put {St : Nat → Prop} {s : LS} {a : Act} {w : World} (h : FrOk St s a w) (hSt : ∀ g,St g → g < w.heap.size) {d : Nat} (hd : d < s.n) {x : LV} {v : Value} (hx : Rep St w.heap (fun _ => none) x v) : FrOk St (s.put (some d) x) (a.put (some d) v) w := by
 have := (h.inv hSt).putD (d := some d) hx (fun t ht => by cases ht;exact hd) a.defers
 exact ⟨h.1,h.2.1,this.sz,this.frame⟩
theorem FrOk.cond {St : Nat → Prop} {s : LS} {a : Act} {w : World} (h : FrOk St s a w) {t : Nat} {v : Value} (ht : s.f t = .lit v) : a.eval (.tmp t) = v := by
 have := h.2.2.2 t
 rw [ht] at this
 show a.tmps.getD t undef = v
 generalize a.tmps.getD t undef = q at this
 cases this;rfl
end Go.Lg
namespace Go.Proofs.YtbajpjjbaffnnaaGreat
open Go Go.Lg Go.Num
set_option maxRecDepth 100000
attribute [local irreducible] Go.Lg.lrun Go.Lg.lwp Go.Lg.exThen Go.Lg.exBlk Go.Lg.keep Go.Lg.goodPost Go.Lg.mutPost
def qcells (q : Rat) : List LV := [bl (decide (q.num < 0)),dg (digs q.num.natAbs),bl false,dg (digs q.den)]
def encF (f : List Rat) : LV := .sl f.length (f.flatMap qcells)
theorem encF_drop : ∀ (f : List Rat) (j : Nat),(f.flatMap qcells).drop (j * 4) = (f.drop j).flatMap qcells
 | [],j => by simp
 | q :: f,0 => by simp
 | q :: f,j + 1 => by
   rw [show (j + 1) * 4 = 4 + j * 4 by omega,← List.drop_drop,List.drop_succ_cons,← encF_drop f j]
   rfl
def hor (f : List Rat) (x : Rat) : Rat := f.foldr (fun c acc => acc * x + c) 0
end Go.Proofs.YtbajpjjbaffnnaaGreat
namespace Go.Proofs.YtbajpjjbaffnnaaGreat
open Go Go.Lg Go.Num
def sg (z : Int) : LV := bl (decide (z < 0))
def mg (z : Int) : LV := dg (digs z.natAbs)
theorem encI_sm (z : Int) : encI z = .agg [sg z,mg z] := rfl
theorem encQ_sm (q : Rat) : encQ q = .agg [sg q.num,mg q.num,sg (q.den : Int),mg (q.den : Int)] := by
 have h : ¬ (q.den : Int) < 0 := by omega
 simp [encQ,sg,mg,h]
theorem qcells_sm (q : Rat) : qcells q = [sg q.num,mg q.num,sg (q.den : Int),mg (q.den : Int)] := by
 have h : ¬ (q.den : Int) < 0 := by omega
 simp [qcells,sg,mg,h]
theorem s1 {h : Nat → Option Blk} {ok : Nat → Bool} {k : Nat} (z : Int) : pv h ok (k + 1) (sg z) = some (sg z,[]) := rfl
theorem s2 {h : Nat → Option Blk} {ok : Nat → Bool} {k : Nat} (z : Int) : pv h ok (k + 1) (mg z) = some (mg z,[]) := rfl
theorem s3 (z : Int) : one (sg z) = true := rfl
theorem s4 (z : Int) : one (mg z) = true := rfl
theorem s5 (z : Int) : cellsOf (sg z) = some [sg z] := rfl
theorem s6 (z : Int) : cellsOf (mg z) = some [mg z] := rfl
theorem s7 (nb : Nat) (ρ : Nat → Nat) (z : Int) : renL nb ρ (sg z) = some (sg z) := by simp [sg,bl,renL]
theorem s8 (nb : Nat) (ρ : Nat → Nat) (z : Int) : renL nb ρ (mg z) = some (mg z) := by simp [mg,dg,renL]
theorem s9 (z : Int) : plainC (sg z) = true := rfl
theorem s10 (z : Int) : plainC (mg z) = true := rfl
theorem sg0 : sg 0 = .lit (.bool false) := rfl
theorem mg0 : mg 0 = .sl 0 [] := by simp [mg,dg,digs_zero,dgs]
def smS := And.intro @s1 (And.intro @s2 (And.intro s3 (And.intro s4 (And.intro s5 (And.intro s6 (And.intro s7 (And.intro s8 (And.intro s9 s10))))))))
end Go.Proofs.YtbajpjjbaffnnaaGreat
namespace Go.Proofs.YtbajpjjbaffnnaaGreat
open Go Go.Lg Go.Num
set_option maxRecDepth 100000
attribute [local irreducible] Go.Lg.lrun Go.Lg.lwp Go.Lg.exThen Go.Lg.exBlk Go.Lg.keep Go.Lg.goodPost sg mg
theorem rof1_good : PureGood Tryz.prog 142 [i64 1] (encI 1) := rof_good 1 (by omega)
theorem rqof_good (n : Int) (h : -9223372036854775808 ≤ n ∧ n ≤ 9223372036854775807) : PureGood Tryz.prog 139 [i64 n] (encQ n) := by
 have h1 := rof_good n h
 have h2 := rof1_good
 rw [encQ_sm,Rat.num_intCast,Rat.den_intCast,Int.natCast_one]
 rw [encI_sm,i64] at *
 refine good_of_lwp mix Tryz.func139 rfl (by decide) (nt := 7) rfl (rs := [.cell 2 46]) rfl (nle rfl) ?_
 (repeat (first|apply zO (by decide +kernel)|apply zP (by decide +kernel)|(apply zS;(case h=>constructor<;>decide))|((first|apply l_go rfl|apply c_dec|apply zT rfl (by decide) rfl);(case hs=>(simp (disch := first|omega|exact kD rfl|exact kX rfl) only [smY,simprocAttr,bl,i64,smS];exact rfl));first|refine c_bt ?_|refine c_bf ?_|refine zq ?_|(case hg=>assumption))))
 ((first|apply g_ret|apply g_end);case hres => (simp only [smR];simp (disch := first|omega|exact kD rfl|exact kX rfl) only [smY,simprocAttr,bl,i64,smS];exact rfl))
 simp (disch := first|omega|exact kD rfl|exact kX rfl) only [smY,simprocAttr,bl,i64,smS]
theorem rover_good (n d : Int) (hn : len n ≤ 137438953472) (hd : len d ≤ 137438953472) : PureGood Tryz.prog 84 [encI n,encI d] (encQ (Rat.divInt n d)) := by
 have hs := rsign_good d (by omega)
 by_cases h0 : d = 0
 ·subst h0
  rw [Rat.divInt_zero]
  have hz := rqof_good 0 (by omega)
  rw [show ((0 : Int) : Rat) = 0 from rfl] at hz
  rw [Int.sign_zero] at hs
  simp only [encI_sm,encQ_sm,i64] at *
  refine good_of_lwp mix Tryz.func84 rfl (by decide) (nt := 33) rfl (rs := [.cell 4 46]) rfl (nle rfl) ?_
  (repeat (first|apply zO (by decide +kernel)|apply zP (by decide +kernel)|(apply zS;(case h=>constructor<;>decide))|((first|apply l_go rfl|apply c_dec|apply zT rfl (by decide) rfl);(case hs=>(simp (disch := first|omega|exact kD rfl|exact kX rfl) only [smY,simprocAttr,bl,i64,smS];exact rfl));first|refine c_bt ?_|refine c_bf ?_|refine zq ?_|(case hg=>assumption))))
  ((first|apply g_ret|apply g_end);case hres => (simp only [smR];simp (disch := first|omega|exact kD rfl|exact kX rfl) only [smY,simprocAttr,bl,i64,smS];exact rfl))
  simp (disch := first|omega|exact kD rfl|exact kX rfl) only [smY,simprocAttr,bl,i64,smS]
 have hp := divInt_parts (n := n) h0
 have hg0 : Int.gcd n d ≠ 0 := fun e => h0 (Int.gcd_eq_zero_iff.1 e).2
 have hgn : ((Int.gcd n d : Nat) : Int) ∣ n := Int.gcd_dvd_left ..
 have hgl : len ((Int.gcd n d : Nat) : Int) ≤ 137438953472 := Nat.le_trans (len_gcd_le (x := n) (y := d) (by omega)) (by omega)
 have hg := rgcd_good n d (by omega) (by omega)
 have hng := rneg_good ((Int.gcd n d : Nat) : Int) (by omega)
 have h1 := rof1_good
 have hnn := rnorm_good n (by omega)
 have hnd := rnorm_good d (by omega)
 generalize hG : (Int.gcd n d : Nat) = g at *
 by_cases hneg : d < 0
 ·rw [Int.sign_eq_neg_one_of_neg hneg] at hs
  rw [if_pos hneg] at hp
  have hlg : len (-(g : Int)) ≤ 137438953472 := by rw [len_neg];exact hgl
  have hdn := rdiv_good n (-(g : Int)) (by omega) (by omega) hlg
  have hdd := rdiv_good d (-(g : Int)) (by omega) (by omega) hlg
  have hsm := rsame_good (-(g : Int)) 1 (by omega) (by decide +kernel)
  rw [show decide (-(g : Int) = 1) = false by simp;omega] at hsm
  have e1 : n / (-(g : Int)) = (Rat.divInt n d).num := by rw [hp.1,Int.ediv_neg,Int.neg_ediv_of_dvd hgn]
  have e2 : d / (-(g : Int)) = ((Rat.divInt n d).den : Int) := by
   rw [hp.2,Int.ediv_neg]
   have hgd : (g : Int) ∣ d := by rw [← hG];exact Int.gcd_dvd_right ..
   rw [← Int.neg_ediv_of_dvd hgd]
   congr 1
   omega
  rw [e1] at hdn
  rw [e2] at hdd
  simp only [encI_sm,encQ_sm,i64] at *
  clear hp e1 e2
  refine good_of_lwp mix Tryz.func84 rfl (by decide) (nt := 33) rfl (rs := [.cell 4 46]) rfl (nle rfl) ?_
  (repeat (first|apply zO (by decide +kernel)|apply zP (by decide +kernel)|(apply zS;(case h=>constructor<;>decide))|((first|apply l_go rfl|apply c_dec|apply zT rfl (by decide) rfl);(case hs=>(simp (disch := first|omega|exact kD rfl|exact kX rfl) only [smY,simprocAttr,bl,i64,smS];exact rfl));first|refine c_bt ?_|refine c_bf ?_|refine zq ?_|(case hg=>assumption))))
  ((first|apply g_ret|apply g_end);case hres => (simp only [smR];simp (disch := first|omega|exact kD rfl|exact kX rfl) only [smY,simprocAttr,bl,i64,smS];exact rfl))
  simp (disch := first|omega|exact kD rfl|exact kX rfl) only [smY,simprocAttr,bl,i64,smS]
 ·have hpos : 0 < d := by omega
  rw [Int.sign_eq_one_of_pos hpos] at hs
  rw [if_neg hneg,Int.natAbs_of_nonneg (by omega)] at hp
  have hsm := rsame_good (g : Int) 1 (by omega) (by decide +kernel)
  by_cases hg1 : (g : Int) = 1
  ·rw [hg1,Int.ediv_one,Int.ediv_one] at hp
   rw [hg1] at hg hsm
   rw [encQ_sm,hp.1,hp.2]
   simp only [encI_sm,i64] at *
   refine good_of_lwp mix Tryz.func84 rfl (by decide) (nt := 33) rfl (rs := [.cell 4 46]) rfl (nle rfl) ?_
   (repeat (first|apply zO (by decide +kernel)|apply zP (by decide +kernel)|(apply zS;(case h=>constructor<;>decide))|((first|apply l_go rfl|apply c_dec|apply zT rfl (by decide) rfl);(case hs=>(simp (disch := first|omega|exact kD rfl|exact kX rfl) only [smY,simprocAttr,bl,i64,smS];exact rfl));first|refine c_bt ?_|refine c_bf ?_|refine zq ?_|(case hg=>assumption))))
   ((first|apply g_ret|apply g_end);case hres => (simp only [smR];simp (disch := first|omega|exact kD rfl|exact kX rfl) only [smY,simprocAttr,bl,i64,smS];exact rfl))
   simp (disch := first|omega|exact kD rfl|exact kX rfl) only [smY,simprocAttr,bl,i64,smS]
  ·have hdn := rdiv_good n (g : Int) (by omega) (by omega) hgl
   have hdd := rdiv_good d (g : Int) (by omega) (by omega) hgl
   rw [← hp.1] at hdn
   rw [← hp.2] at hdd
   rw [show decide ((g : Int) = 1) = false by simp;omega] at hsm
   simp only [encI_sm,encQ_sm,i64] at *
   clear hp
   refine good_of_lwp mix Tryz.func84 rfl (by decide) (nt := 33) rfl (rs := [.cell 4 46]) rfl (nle rfl) ?_
   (repeat (first|apply zO (by decide +kernel)|apply zP (by decide +kernel)|(apply zS;(case h=>constructor<;>decide))|((first|apply l_go rfl|apply c_dec|apply zT rfl (by decide) rfl);(case hs=>(simp (disch := first|omega|exact kD rfl|exact kX rfl) only [smY,simprocAttr,bl,i64,smS];exact rfl));first|refine c_bt ?_|refine c_bf ?_|refine zq ?_|(case hg=>assumption))))
   ((first|apply g_ret|apply g_end);case hres => (simp only [smR];simp (disch := first|omega|exact kD rfl|exact kX rfl) only [smY,simprocAttr,bl,i64,smS];exact rfl))
   simp (disch := first|omega|exact kD rfl|exact kX rfl) only [smY,simprocAttr,bl,i64,smS]
theorem rqnorm_good (q : Rat) (h : lq q ≤ 137438953472) : PureGood Tryz.prog 72 [encQ q] (encQ q) := by
 have h1 := rover_good q.num q.den (by unfold lq at h;omega) (by unfold lq at h;omega)
 rw [self_divInt] at h1
 simp only [encI_sm,encQ_sm] at *
 refine good_of_lwp mix Tryz.func72 rfl (by decide) (nt := 8) rfl (rs := [.cell 2 46]) rfl (nle rfl) ?_
 (repeat (first|apply zO (by decide +kernel)|apply zP (by decide +kernel)|(apply zS;(case h=>constructor<;>decide))|((first|apply l_go rfl|apply c_dec|apply zT rfl (by decide) rfl);(case hs=>(simp (disch := first|omega|exact kD rfl|exact kX rfl) only [smY,simprocAttr,bl,i64,smS];exact rfl));first|refine c_bt ?_|refine c_bf ?_|refine zq ?_|(case hg=>assumption))))
 ((first|apply g_ret|apply g_end);case hres => (simp only [smR];simp (disch := first|omega|exact kD rfl|exact kX rfl) only [smY,simprocAttr,bl,i64,smS];exact rfl))
 simp (disch := first|omega|exact kD rfl|exact kX rfl) only [smY,simprocAttr,bl,i64,smS]
theorem rqneg_good (q : Rat) (h : lq q ≤ 137438953472) : PureGood Tryz.prog 217 [encQ q] (encQ (-q)) := by
 have h0 := rneg_good q.num (by unfold lq at h;omega)
 have h1 := rover_good (-q.num) q.den (by rw [len_neg];unfold lq at h;omega) (by unfold lq at h;omega)
 rw [← neg_divInt'] at h1
 simp only [encI_sm,encQ_sm] at *
 refine good_of_lwp mix Tryz.func217 rfl (by decide) (nt := 9) rfl (rs := [.cell 2 46]) rfl (nle rfl) ?_
 (repeat (first|apply zO (by decide +kernel)|apply zP (by decide +kernel)|(apply zS;(case h=>constructor<;>decide))|((first|apply l_go rfl|apply c_dec|apply zT rfl (by decide) rfl);(case hs=>(simp (disch := first|omega|exact kD rfl|exact kX rfl) only [smY,simprocAttr,bl,i64,smS];exact rfl));first|refine c_bt ?_|refine c_bf ?_|refine zq ?_|(case hg=>assumption))))
 ((first|apply g_ret|apply g_end);case hres => (simp only [smR];simp (disch := first|omega|exact kD rfl|exact kX rfl) only [smY,simprocAttr,bl,i64,smS];exact rfl))
 simp (disch := first|omega|exact kD rfl|exact kX rfl) only [smY,simprocAttr,bl,i64,smS]
theorem rqadd_good (p q : Rat) (hp : lq p ≤ 34359738368) (hq : lq q ≤ 34359738368) : PureGood Tryz.prog 30 [encQ p,encQ q] (encQ (p + q)) := by
 have n1 := rqnorm_good p (by omega)
 have n2 := rqnorm_good q (by omega)
 unfold lq at hp hq
 have h1 := rmul_good p.num q.den (by omega) (by omega)
 have h2 := rmul_good q.num p.den (by omega) (by omega)
 have l1 := len_mul p.num (q.den : Int)
 have l2 := len_mul q.num (p.den : Int)
 have l3 := len_add (p.num * q.den) (q.num * p.den)
 have l4 := len_mul (p.den : Int) (q.den : Int)
 have h3 := radd_good (p.num * q.den) (q.num * p.den) (by omega) (by omega)
 have h4 := rmul_good p.den q.den (by omega) (by omega)
 have h5 := rover_good (p.num * q.den + q.num * p.den) (p.den * q.den) (by omega) (by omega)
 rw [← add_divInt] at h5
 simp only [encI_sm,encQ_sm] at *
 refine good_of_lwp mix Tryz.func30 rfl (by decide) (nt := 28) rfl (rs := [.cell 4 46]) rfl (nle rfl) ?_
 (repeat (first|apply zO (by decide +kernel)|apply zP (by decide +kernel)|(apply zS;(case h=>constructor<;>decide))|((first|apply l_go rfl|apply c_dec|apply zT rfl (by decide) rfl);(case hs=>(simp (disch := first|omega|exact kD rfl|exact kX rfl) only [smY,simprocAttr,bl,i64,smS];exact rfl));first|refine c_bt ?_|refine c_bf ?_|refine zq ?_|(case hg=>assumption))))
 ((first|apply g_ret|apply g_end);case hres => (simp only [smR];simp (disch := first|omega|exact kD rfl|exact kX rfl) only [smY,simprocAttr,bl,i64,smS];exact rfl))
 simp (disch := first|omega|exact kD rfl|exact kX rfl) only [smY,simprocAttr,bl,i64,smS]
theorem rqsub_good (p q : Rat) (hp : lq p ≤ 34359738368) (hq : lq q ≤ 34359738368) : PureGood Tryz.prog 177 [encQ p,encQ q] (encQ (p - q)) := by
 have h1 := rqneg_good q (by omega)
 have h2 := rqadd_good p (-q) hp (by rw [lq_neg];exact hq)
 rw [← Rat.sub_eq_add_neg] at h2
 simp only [encQ_sm] at *
 refine good_of_lwp mix Tryz.func177 rfl (by decide) (nt := 9) rfl (rs := [.cell 4 46]) rfl (nle rfl) ?_
 (repeat (first|apply zO (by decide +kernel)|apply zP (by decide +kernel)|(apply zS;(case h=>constructor<;>decide))|((first|apply l_go rfl|apply c_dec|apply zT rfl (by decide) rfl);(case hs=>(simp (disch := first|omega|exact kD rfl|exact kX rfl) only [smY,simprocAttr,bl,i64,smS];exact rfl));first|refine c_bt ?_|refine c_bf ?_|refine zq ?_|(case hg=>assumption))))
 ((first|apply g_ret|apply g_end);case hres => (simp only [smR];simp (disch := first|omega|exact kD rfl|exact kX rfl) only [smY,simprocAttr,bl,i64,smS];exact rfl))
 simp (disch := first|omega|exact kD rfl|exact kX rfl) only [smY,simprocAttr,bl,i64,smS]
theorem rqmul_good (p q : Rat) (hp : lq p ≤ 34359738368) (hq : lq q ≤ 34359738368) : PureGood Tryz.prog 31 [encQ p,encQ q] (encQ (p * q)) := by
 unfold lq at hp hq
 have h1 := rmul_good p.num q.num (by omega) (by omega)
 have h2 := rmul_good p.den q.den (by omega) (by omega)
 have l1 := len_mul p.num q.num
 have l4 := len_mul (p.den : Int) (q.den : Int)
 have h5 := rover_good (p.num * q.num) (p.den * q.den) (by omega) (by omega)
 rw [← mul_divInt] at h5
 simp only [encI_sm,encQ_sm] at *
 refine good_of_lwp mix Tryz.func31 rfl (by decide) (nt := 16) rfl (rs := [.cell 4 46]) rfl (nle rfl) ?_
 (repeat (first|apply zO (by decide +kernel)|apply zP (by decide +kernel)|(apply zS;(case h=>constructor<;>decide))|((first|apply l_go rfl|apply c_dec|apply zT rfl (by decide) rfl);(case hs=>(simp (disch := first|omega|exact kD rfl|exact kX rfl) only [smY,simprocAttr,bl,i64,smS];exact rfl));first|refine c_bt ?_|refine c_bf ?_|refine zq ?_|(case hg=>assumption))))
 ((first|apply g_ret|apply g_end);case hres => (simp only [smR];simp (disch := first|omega|exact kD rfl|exact kX rfl) only [smY,simprocAttr,bl,i64,smS];exact rfl))
 simp (disch := first|omega|exact kD rfl|exact kX rfl) only [smY,simprocAttr,bl,i64,smS]
end Go.Proofs.YtbajpjjbaffnnaaGreat