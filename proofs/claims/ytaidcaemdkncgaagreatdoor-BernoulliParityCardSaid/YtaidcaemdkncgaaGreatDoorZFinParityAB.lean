/- Contracts of functions of the program, and what proves them (texts: ClsGd). -/
import Derived.Test.YtaidcaemdkncgaaGreatDoorRows
import Derived.WalkKit
import Derived.ProofKit
import Derived.OpenShut
import Derived.Stop.Joined
import Derived.Test.YtaidcaemdkncgaaGreatDoorZAO
import Derived.Test.YtaidcaemdkncgaaGreatDoorZAP
set_option linter.all false
set_option maxRecDepth 100000
set_option maxHeartbeats 8000000
namespace Go.Proofs.YtaidcaemdkncgaaGreatDoor
open Go Go.Lg Go.ChangeShapes Go.WideShapes Go.ChangeAt Go.RowKit
theorem cChr : Tryz.prog.cellsOf 25 = 2 := by kernel_rfl
theorem cInt : Tryz.prog.cellsOf 3 = 1 := by kernel_rfl
theorem cInts : Tryz.prog.cellsOf 23 = 1 := by kernel_rfl
theorem tsChr : Tryz.prog.cellTypes Tryz.prog.depth 25 = some [3,23] := by kernel_rfl
theorem rep_ints {W : World} {a : Addr} {len cap : Nat} {zs : List Int} (hs : a.spot = none) (hl : len ≤ zs.length) (hc : len ≤ cap) (hm : cap ≤ maxLen) (hcell : ∀ i, i < zs.length → W.cell? (a.add i) = some (.int .i64 (zs.getD i 0))) :
  Rep (fun g => g < W.heap.size) W.heap (fun _ => none) (.sl (zs.take len).length (ec (zs.take len))) (.slice (some a) len cap) := by
 have e : (zs.take len).length = len := by rw [List.length_take,Nat.min_eq_left hl]
 rw [e]
 refine Rep.sl (us := (zs.take len).map fun z => Value.int .i64 z) hc hm hs (by simp [ec]) ?_ ?_ ?_
 ·intro j u hu
  rw [List.getElem?_map] at hu
  obtain ⟨z,hz,rfl⟩ := Option.map_eq_some_iff.1 hu
  have hj : j < (zs.take len).length := (List.getElem?_eq_some_iff.1 hz).1
  have hj2 : j < zs.length := by rw [e] at hj;omega
  have hzj : zs.getD j 0 = z := by
   rw [List.getElem?_take,if_pos (by rw [e] at hj;exact hj)] at hz
   simp [List.getD,hz]
  have h := hcell j hj2
  rw [cell?_eq' W a hs j,hzj] at h
  refine ⟨?_,h⟩
  unfold cellAt at h
  cases hh : W.heap[a.block]? with
  | none => rw [hh] at h;cases h
  | some o => exact (Array.getElem?_eq_some_iff.1 hh).1
 ·intro u hu
  obtain ⟨z,_,rfl⟩ := List.mem_map.1 hu
  rfl
 ·intro j c u hc hu
  rw [ec,List.getElem?_map] at hc
  rw [List.getElem?_map] at hu
  obtain ⟨z,hz,rfl⟩ := Option.map_eq_some_iff.1 hc
  rw [hz] at hu
  cases hu
  exact .lit _
theorem open_chr {H : Type} {enc : TypeId × Value → H} {W : World} {b0 : Nat} {v : Value} {d : DataW H} {ps : List MemPlace} (hval : Value.okWide Tryz.prog W .any b0 25 v) (hd : DataW.Trod enc Tryz.prog W 0 (fun _ => true) true 25 v d ps) :
  ∃ (lv : Int) (xs : List Int), (Lit.int .i64 lv).wf = true ∧ Rep (fun g => g < W.heap.size) W.heap (fun _ => none) (.agg [.lit (.int .i64 lv), .sl xs.length (ec xs)]) v ∧
    ∀ W' : World,(∀ i,i < W.heap.size → W'.heap[i]? = W.heap[i]?) → ∃ ps',DataW.Trod enc Tryz.prog W' 0 (fun b => decide (b < W.heap.size)) true 25 v d ps' := by
 simp only [Value.okWide,Tryz.underlying25] at hval
 obtain ⟨cs,rfl,h2,ts,hts,_,hrow⟩ := hval
 rw [tsChr] at hts
 cases hts
 rw [cChr] at h2
 obtain ⟨fuel,hf⟩ := hd
 obtain ⟨y0,y1,n,hx,hlen,e0,e1⟩ := trod_struct2 Tryz.underlying25 hf
 have hc0 : (Value.agg cs).cells = cs := rfl
 rw [hc0] at e0 e1 hlen
 obtain ⟨c0,c1,hcs⟩ : ∃ c0 c1,cs = #[c0,c1] := by
  obtain ⟨l⟩ := cs
  match l,h2 with
  | [c0,c1],_ => exact ⟨c0,c1,rfl⟩
 subst hcs
 simp only [cInt,cInts,List.drop_zero,List.drop_succ_cons,List.take_succ_cons,List.take_zero] at e0 e1
 obtain ⟨lv,a1,rfl,hw⟩ := DataW.trod_int Tryz.underlying3 e0
 simp only [List.cons.injEq,and_true] at a1
 subst a1
 have r1 := hrow 1 c1 rfl
 obtain ⟨u,hu,hcell⟩ := r1
 simp only [List.length_cons,List.length_nil,Nat.reduceAdd,Nat.reduceMod,List.getElem?_cons_succ,List.getElem?_cons_zero,Option.some.injEq] at hu
 subst hu
 obtain ⟨hx1,hx2⟩ := Prod.mk.inj hx
 rcases open_ints Tryz.underlying23 Tryz.underlying3 cInt e1 with ⟨b1,rfl⟩ | ⟨a,len,cap,zs,b1,hb,hl,hm,hz,rfl,hcl,hwf⟩
 ·simp only [List.cons.injEq,and_true] at b1
  subst b1
  refine ⟨lv,[],hw,?_,fun W' _ => ⟨ps,2,?_⟩⟩
  ·refine Rep.agg (us := [.int .i64 lv,.slice none 0 0]) rfl (by simp [Value.oneCell']) ?_
   intro j c u hc hu
   match j with
   | 0 => simp at hc hu;subst hc;subst hu;exact .lit _
   | 1 => simp at hc hu;subst hc;subst hu;exact .snil
   | j + 2 => simp at hc
  ·rw [hx1,hx2]
   refine trod_struct2_mk (y0 := (.lit (.int .i64 lv),[])) (y1 := (.nil,[])) Tryz.underlying25 hlen ?_ ?_
   ·rw [hc0]
    simp only [cInt,List.drop_zero,List.take_succ_cons,List.take_zero]
    exact trod_int_mk 0 Tryz.underlying3 hw
   ·rw [hc0]
    simp only [cInts,List.drop_zero,List.drop_succ_cons,List.take_succ_cons,List.take_zero]
    simp [DataW.trod,Tryz.underlying23]
 ·simp only [List.cons.injEq,and_true] at b1
  subst b1
  simp only [if_true] at hz
  have hspot : a.spot = none := by
   simp only [Cell.okWide,Cell.ok,Tryz.underlying23] at hcell
   exact hcell.2.2.2.1
  refine ⟨lv,zs.take len,hw,?_,fun W' hk => ⟨ps,3,?_⟩⟩
  ·refine Rep.agg (us := [.int .i64 lv,.slice (some a) len cap]) rfl (by simp [Value.oneCell']) ?_
   intro j c u hc hu
   match j with
   | 0 => simp at hc hu;subst hc;subst hu;exact .lit _
   | 1 => simp at hc hu;subst hc;subst hu;exact (by simpa using rep_ints hspot (by omega) hl hm hcl)
   | j + 2 => simp at hc
  ·rw [hx1,hx2]
   have hblk : ∀ i,i < zs.length → a.block < W.heap.size := fun i hi => by
    have h := hcl i hi
    rw [cell?_eq' W a hspot i] at h
    unfold cellAt at h
    cases hh : W.heap[a.block]? with
    | none => rw [hh] at h;cases h
    | some o => exact (Array.getElem?_eq_some_iff.1 hh).1
   refine trod_struct2_mk (y0 := (.lit (.int .i64 lv),[])) (y1 := (.slice (lits .i64 (zs.take len)) (lits .i64 (zs.drop len)),MemPlace.row a zs.length)) Tryz.underlying25 hlen ?_ ?_
   ·rw [hc0]
    simp only [cInt,List.drop_zero,List.take_succ_cons,List.take_zero]
    exact trod_int_mk 1 Tryz.underlying3 hw
   ·rw [hc0]
    simp only [cInts,List.drop_zero,List.drop_succ_cons,List.take_succ_cons,List.take_zero]
    refine shut_ints 0 Tryz.underlying23 Tryz.underlying3 cInt hb hl hm ?_ (fun i hi => ?_) hwf
    ·by_cases hbs : a.block < W.heap.size
     ·simp [hbs,hz]
     ·have : zs.length = 0 := by
       rcases Nat.eq_zero_or_pos zs.length with h | h
       ·exact h
       ·exact absurd (hblk 0 h) hbs
      simp [hbs];omega
    ·rw [cell?_eq' W' a hspot i,cellAt_same (hk _ (hblk i hi)),← cell?_eq' W a hspot i]
     exact hcl i hi
end Go.Proofs.YtaidcaemdkncgaaGreatDoor