/- Every call of 'GausssumSquares' returns true and leaves its arguments as they were. The condition: the row's own (the listed table starts as the program's text lays it). -/
import Derived.Test.YtaidcaemdkncgaaGreatDoorCards
import Derived.Test.YtaidcaemdkncgaaGreatDoorTie
import Derived.SevenTiedAt
import Derived.Test.YtaidcaemdkncgaaGreatDoorZSAO
import Derived.Test.YtaidcaemdkncgaaGreatDoorZSFinSquaresAA
set_option linter.all false
set_option maxRecDepth 100000
set_option maxHeartbeats 8000000
namespace Go.Proofs.YtaidcaemdkncgaaGreatDoor.gausssumSquares
open Go Go.Lg Go.ChangeShapes Go.WideShapes Go.ChangeAt Go.RowKit
set_option linter.unusedVariables false
theorem walk (a0 : Int) (w0 : (Lit.int .i64 a0).wf = true) (w : World) (hL : laidMetH Tryz.prog Rows.gausssumSquaresRow.laid w) :
  Calls Tryz.prog 3 #[.int .i64 a0] w fun e w' => e = .returned (.bool true) ∧ w.keptBut w' (fun _ => False) ∧ ∀ i,i < w.heap.size → w'.heap[i]? = w.heap[i]? := by
 have hg := lawSquares_good a0 (bounds_i64 w0)
 refine (hg.2 w (fun g => g < w.heap.size) [.int .i64 a0] (fun _ h => h) (laid_ok hL) (Reps.cons (.lit _) (Reps.nil))).mono ?_
 rintro e w' ⟨v,St',rfl,hr,_,_,h1,h2,h3,h4,h5⟩
 cases hr
 refine ⟨rfl,⟨h1,h3,fun i hi => ?_⟩,h5⟩
 rw [h5 i hi]
 obtain ⟨o,ho⟩ : ∃ o,w.heap[i]? = some o := ⟨w.heap[i],by simp [hi]⟩
 rw [ho]
 cases o with
 | cells c t fr => exact ⟨rfl,rfl,rfl,fun _ _ => rfl⟩
 | map es clock => exact .inr ⟨rfl,rfl⟩
 | _ => rfl
theorem door_met (os : Os) (args : Array Value) : laidMetH Tryz.prog Rows.gausssumSquaresRow.laid ((World.doorLaid Tryz.prog 400 os).forCall (fun _ _ => 0) ⟨#[],args,[]⟩).memory :=
 laidMetH_of_parts3 (fuel := 8) (laidMet_of_run' 8 (by kernel_rfl) (by kernel_rfl)) (by kernel_rfl) (by kernel_rfl)
theorem lifted (os : Os) (started : os.Started) (H : Type) (enc : TypeId × Value → H) :
  ReturnsInHanded {} Tryz.checked os 3 .any (fun w args => (Rows.gausssumSquaresSpec.pre enc Tryz.prog Tryz.f3 [] false w args ∧ laidMetH Tryz.prog Rows.gausssumSquaresRow.laid w) ∧ sizedMet enc Tryz.prog Tryz.f3 (OpenSpec.ofChange Rows.gausssumSquaresSpec) false w args)
   (Rows.gausssumSquaresSpec.post enc Tryz.prog Tryz.f3 false true false false) := by
 refine returnsInHanded_of_change_and (C := Tryz.checked) (X := fun w _ => laidMetH Tryz.prog Rows.gausssumSquaresRow.laid w) (fun _ _ _ hh h => h.of_heap hh) own started (by kernel_rfl) Tryz.func3
  (ChangeSpec.witness_shaped (enc := enc) (C := Tryz.checked) (os := os) (X := fun w _ => laidMetH Tryz.prog Rows.gausssumSquaresRow.laid w) false (World.doorLaid Tryz.prog 400 os) #[.int .i64 0] 8 rfl (World.shaped_of_RefB (by kernel_rfl) (by kernel_rfl)) (by kernel_rfl) (by kernel_rfl) (by kernel_rfl) (door_met os _)) ?_
 intro W base args ds gs before hval0 hW _ _ hL _
 have hval : ∀ (j : Nat) t v,Tryz.f3.params[j]? = some t → args[j]? = some v → Value.okWide Tryz.prog W .any base t v := hval0
 have hW' := hW
 obtain ⟨p,q,hA0,hV,rfl,hfz,hnd⟩ := hW
 have hA : DataW.TrodAll enc Tryz.prog W 0 (fun _ => true) true Tryz.f3.params.toList args.toList ds p := hA0
 rw [Tryz.params3] at hA hval
 obtain ⟨v0,vs0,d0,ds0,p0,q0,hargs0,rfl,rfl,h0,r0⟩ := trodAll_cons hA
 obtain ⟨rfl,rfl,rfl⟩ := trodAll_nil r0
 obtain rfl : args = #[v0] := by cases args;simp_all
 obtain ⟨rfl,rfl⟩ := trodVars_none hV
 obtain ⟨a0,rfl,rfl,rfl,w0⟩ := open_int Tryz.underlying3 (hval 0 3 v0 rfl rfl) h0
 clear hA0 hval0
 simp only [List.append_nil] at hW'
 refine (walk a0 w0 W hL).mono fun e W' ⟨he,hk,hsame⟩ => ?_
 subst he
 refine ⟨_,rfl,_,_,_,[],([] ++ []),[],hW',?_,?_,?_,World.keptBut_mono (fun _ h => h.elim) hk,fun h => by cases h⟩
 ·exact trodAll_cons_mk (shut_bool Tryz.underlying4 _) trodAll_mk0
 ·exact (trodAll_cons_mk (shut_int Tryz.underlying3 w0) trodAll_mk0)
 ·rfl
theorem jj {a b : Bool} (h : a = true) (g : b = true) : (a && b) = true := by rw [h,g];rfl
theorem closed : joinedFacts Tryz.pinned.checked.prog 3 Tryz.f3 Rows.gausssumSquaresSpec Rows.gausssumSquaresRow = true := by
 unfold joinedFacts
 repeat' (with_reducible refine jj ?_ ?_)
 all_goals as_aux_lemma => kernel_rfl
theorem named : Tryz.pinned.checked.prog.funcNamed Rows.gausssumSquaresRow.func = some 3 := by kernel_rfl
theorem inst : Tryz.f3.isInstance Tryz.pinned.checked.prog Rows.gausssumSquaresRow.origin Rows.gausssumSquaresRow.targs := of_decide_eq_true (by kernel_rfl)
theorem wrap : Tryz.f3.isWrapper Tryz.pinned.checked.prog Rows.gausssumSquaresRow.wrapper Rows.gausssumSquaresRow.mainSum := by unfold Func.isWrapper;first | (rw [if_pos (by decide +kernel)];kernel_rfl) | (rw [if_neg (by decide +kernel)];exact ⟨rfl,rfl⟩)
theorem over : Rows.GausssumSquaresSaid :=
 OpenClaim.holds_of_wide 3 Tryz.f3 rfl rfl rfl rfl rfl rfl rfl ⟨rfl,rfl,rfl,rfl,rfl⟩ rfl rfl rfl rfl rfl named Tryz.func3 closed
  inst wrap (fun os started H enc _ => lifted os started H enc)
theorem hw : Rows.gausssumSquaresRow.wfByText (OpenSpec.ofChange Rows.gausssumSquaresSpec) = true := by kernel_rfl
theorem hm : Tryz.pinned.checked.prog.mainIs = some (true,"c8a0186bfe35e414c40a27484d40a863bdb042bf8102b263c69c9d60748783d6".toList) := by kernel_rfl
theorem lks : false = Tryz.pinned.checked.prog.looks [] := by kernel_rfl
theorem hg : false = Rows.gausssumSquaresRow.goesBy Tryz.pinned.checked.prog := by kernel_rfl
end Go.Proofs.YtaidcaemdkncgaaGreatDoor.gausssumSquares
namespace Go.Proofs.YtaidcaemdkncgaaGreatDoor
open Go
theorem gausssumSquares_card : Rows.GausssumSquaresCardSaid :=
 Claim7.holds_tied_plain_at .later [] [.data] true (true,"c8a0186bfe35e414c40a27484d40a863bdb042bf8102b263c69c9d60748783d6") false
  gausssumSquares.over (fun _ h => by cases h) gausssumSquares.hw (fun _ h => by cases h) gausssumSquares_row_tie rfl ⟨rfl,rfl⟩ gausssumSquares.hm rfl
  (fun f fn hf hfn => by
   obtain rfl : f = 3 := Option.some.inj (gausssumSquares.named.symm.trans hf) |>.symm
   obtain rfl : fn = Tryz.f3 := (Option.some.inj (Tryz.func3.symm.trans hfn)).symm
   exact ⟨gausssumSquares.lks,fun j t ht => by
    rw [Tryz.params3] at ht
    have hm : t ∈ [3] := by simpa using Array.mem_of_getElem? ht
    have hall : ([3].all fun u => !Tryz.prog.wantsStandIn u) = true := by kernel_rfl
    exact (show Tryz.prog.wantsStandIn t = false by simpa using List.all_eq_true.1 hall t hm)⟩)
  gausssumSquares.hg
end Go.Proofs.YtaidcaemdkncgaaGreatDoor
