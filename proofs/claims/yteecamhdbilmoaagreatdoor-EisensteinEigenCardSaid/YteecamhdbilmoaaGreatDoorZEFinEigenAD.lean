/- Every call of 'EisensteinEigen' returns true and leaves its arguments as they were. The condition: the row's own (the listed table starts as the program's text lays it). -/
import Derived.Test.YteecamhdbilmoaaGreatDoorCards
import Derived.Test.YteecamhdbilmoaaGreatDoorTie
import Derived.SevenTiedAt
import Derived.Test.YteecamhdbilmoaaGreatDoorZEFinEigenAC
set_option linter.all false
namespace Go.Proofs.YteecamhdbilmoaaGreatDoor.eisensteinEigen
open Go Go.Lg Go.ChangeShapes Go.WideShapes Go.ChangeAt Go.RowKit
set_option maxRecDepth 100000
set_option linter.unusedVariables false
theorem walk (a0a : Int) (a0b : Int) (a0c : Int) (a0e : Int) (a0f : Int) (w0a : (Lit.int .i64 a0a).wf = true) (w0b : (Lit.int .i64 a0b).wf = true) (w0c : (Lit.int .i64 a0c).wf = true) (w0e : (Lit.int .i64 a0e).wf = true) (w0f : (Lit.int .i64 a0f).wf = true) (a1 : Int) (w1 : (Lit.int .i64 a1).wf = true) (w : World) (hL : laidMetH Tryz.prog Rows.eisensteinEigenRow.laid w) :
  Calls Tryz.prog 5 #[datV a0a a0b a0c a0e a0f,.int .i64 a1] w fun e w' => e = .returned (.bool true) ∧ w.keptBut w' (fun _ => False) := by
 have hg := lawEigen_good a0a a0b a0c a0e a0f a1 (bounds_i64 w0a) (bounds_i64 w0b) (bounds_i64 w0c) (bounds_i64 w0e) (bounds_i64 w0f) (bounds_i64 w1)
 refine (hg.2 w (fun g => g < w.heap.size) [datV a0a a0b a0c a0e a0f,.int .i64 a1] (fun _ h => h) (laid_ok hL) (Reps.cons (rep_dat _ _ _ _ _) (Reps.cons (.lit _) (Reps.nil)))).mono ?_
 rintro e w' ⟨v,St',rfl,hr,_,_,h1,h2,h3,h4,h5⟩
 cases hr
 refine ⟨rfl,h1,h3,fun i hi => ?_⟩
 rw [h5 i hi]
 obtain ⟨o,ho⟩ : ∃ o,w.heap[i]? = some o := ⟨w.heap[i],by simp [hi]⟩
 rw [ho]
 cases o with
 | cells c t fr => exact ⟨rfl,rfl,rfl,fun _ _ => rfl⟩
 | map es clock => exact .inr ⟨rfl,rfl⟩
 | _ => rfl
theorem door_met (os : Os) (args : Array Value) : laidMetH Tryz.prog Rows.eisensteinEigenRow.laid ((World.doorLaid Tryz.prog 400 os).forCall (fun _ _ => 0) ⟨#[],args,[]⟩).memory :=
 laidMetH_of_parts3 (fuel := 8) (laidMet_of_run' 8 (by kernel_rfl) (by kernel_rfl)) (by kernel_rfl) (by kernel_rfl)
theorem lifted (os : Os) (started : os.Started) (H : Type) (enc : TypeId × Value → H) :
  ReturnsInHanded {} Tryz.checked os 5 .any (fun w args => (Rows.eisensteinEigenSpec.pre enc Tryz.prog Tryz.f5 [] false w args ∧ laidMetH Tryz.prog Rows.eisensteinEigenRow.laid w) ∧ sizedMet enc Tryz.prog Tryz.f5 (OpenSpec.ofChange Rows.eisensteinEigenSpec) false w args)
   (Rows.eisensteinEigenSpec.post enc Tryz.prog Tryz.f5 false true false false) := by
 refine returnsInHanded_of_change_and (C := Tryz.checked) (X := fun w _ => laidMetH Tryz.prog Rows.eisensteinEigenRow.laid w) (fun _ _ _ hh h => h.of_heap hh) own started (by kernel_rfl) Tryz.func5
  (ChangeSpec.witness_shaped (enc := enc) (C := Tryz.checked) (os := os) (X := fun w _ => laidMetH Tryz.prog Rows.eisensteinEigenRow.laid w) false (World.doorLaid Tryz.prog 400 os) #[datV 0 0 0 0 0,.int .i64 0] 8 rfl (World.shaped_of_RefB (by kernel_rfl) (by kernel_rfl)) (by kernel_rfl) (by kernel_rfl) (by kernel_rfl) (door_met os _)) ?_
 intro W base args ds gs before hval0 hW _ _ hL _
 have hval : ∀ (j : Nat) t v,Tryz.f5.params[j]? = some t → args[j]? = some v → Value.okWide Tryz.prog W .any base t v := hval0
 have hW' := hW
 obtain ⟨p,q,hA0,hV,rfl,hfz,hnd⟩ := hW
 have hA : DataW.TrodAll enc Tryz.prog W 0 (fun _ => true) true Tryz.f5.params.toList args.toList ds p := hA0
 rw [Tryz.params5] at hA hval
 obtain ⟨v0,vs0,d0,ds0,p0,q0,hargs0,rfl,rfl,h0,r0⟩ := trodAll_cons hA
 obtain ⟨v1,vs1,d1,ds1,p1,q1,hargs1,rfl,rfl,h1,r1⟩ := trodAll_cons r0
 obtain ⟨rfl,rfl,rfl⟩ := trodAll_nil r1
 obtain rfl : args = #[v0,v1] := by cases args;simp_all
 obtain ⟨rfl,rfl⟩ := trodVars_none hV
 obtain ⟨a0a,a0b,a0c,a0e,a0f,rfl,rfl,rfl,w0a,w0b,w0c,w0e,w0f⟩ := open_dat (hval 0 35 v0 rfl rfl) h0
 obtain ⟨a1,rfl,rfl,rfl,w1⟩ := open_int Tryz.underlying3 (hval 1 3 v1 rfl rfl) h1
 clear hA0 hval0
 simp only [List.append_nil] at hW'
 refine (walk a0a a0b a0c a0e a0f w0a w0b w0c w0e w0f a1 w1 W hL).mono fun e W' ⟨he,hk⟩ => ?_
 subst he
 refine ⟨_,rfl,_,_,_,[],[],[],hW',?_,?_,?_,World.keptBut_mono (fun _ h => h.elim) hk,fun h => by cases h⟩
 ·exact trodAll_cons_mk (shut_bool Tryz.underlying4 _) trodAll_mk0
 ·exact (trodAll_cons_mk (shut_dat w0a w0b w0c w0e w0f) (trodAll_cons_mk (shut_int Tryz.underlying3 w1) trodAll_mk0))
 ·rfl
theorem over : Rows.EisensteinEigenSaid :=
 OpenClaim.holds_of_wide 5 Tryz.f5 rfl rfl rfl rfl rfl rfl rfl ⟨rfl,rfl,rfl,rfl,rfl⟩ rfl rfl rfl rfl rfl (by kernel_rfl) Tryz.func5 (by kernel_rfl)
  (of_decide_eq_true (by kernel_rfl)) (by unfold Func.isWrapper;first | (rw [if_pos (by decide +kernel)];kernel_rfl) | (rw [if_neg (by decide +kernel)];exact ⟨rfl,rfl⟩))
  (fun os started H enc _ => lifted os started H enc)
end Go.Proofs.YteecamhdbilmoaaGreatDoor.eisensteinEigen
namespace Go.Proofs.YteecamhdbilmoaaGreatDoor
open Go
set_option maxRecDepth 100000
theorem eisensteinEigen_card : Rows.EisensteinEigenCardSaid :=
 Claim7.holds_tied_plain_at .later [] [.data] true (true,"3ec25015ac38c1c132ef9f8ab68e49508e5d4b5cf03cd378265797a155da627f") false
  eisensteinEigen.over (fun _ h => by cases h) (by kernel_rfl) (fun _ h => by cases h) eisensteinEigen_row_tie rfl ⟨rfl,rfl⟩ (by kernel_rfl) rfl
  (fun f fn hf hfn => by
   obtain rfl : f = 5 := Option.some.inj ((show Tryz.prog.funcNamed "halfplane/halfplanelaw34.EisensteinEigen" = some 5 by kernel_rfl).symm.trans hf) |>.symm
   obtain rfl : fn = Tryz.f5 := (Option.some.inj (Tryz.func5.symm.trans hfn)).symm
   exact ⟨by kernel_rfl,fun j t ht => by
    rw [Tryz.params5] at ht
    have hm : t ∈ [35,3] := by simpa using Array.mem_of_getElem? ht
    have hall : ([35,3].all fun u => !Tryz.prog.wantsStandIn u) = true := by kernel_rfl
    exact (show Tryz.prog.wantsStandIn t = false by simpa using List.all_eq_true.1 hall t hm)⟩)
  (by kernel_rfl)
end Go.Proofs.YteecamhdbilmoaaGreatDoor
