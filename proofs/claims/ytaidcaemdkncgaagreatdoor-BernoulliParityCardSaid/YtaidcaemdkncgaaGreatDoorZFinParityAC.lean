/- Every call of 'BernoulliParity' returns true and leaves its arguments as they were. The condition: the row's own (the listed table starts as the program's text lays it). -/
import Derived.Test.YtaidcaemdkncgaaGreatDoorCards
import Derived.Test.YtaidcaemdkncgaaGreatDoorTie
import Derived.SevenTiedAt
import Derived.Test.YtaidcaemdkncgaaGreatDoorZBN
import Derived.Test.YtaidcaemdkncgaaGreatDoorZFinParityAA
import Derived.Test.YtaidcaemdkncgaaGreatDoorZFinParityAB
set_option linter.all false
set_option maxRecDepth 100000
set_option maxHeartbeats 8000000
namespace Go.Proofs.YtaidcaemdkncgaaGreatDoor.bernoulliParity
open Go Go.Lg Go.ChangeShapes Go.WideShapes Go.ChangeAt Go.RowKit
set_option linter.unusedVariables false
theorem walk (a0 : Int) (w0 : (Lit.int .i64 a0).wf = true) (lv1 : Int) (xs1 : List Int) (w1 : (Lit.int .i64 lv1).wf = true) (v1 : Value) (w : World) (hr1 : Rep (fun g => g < w.heap.size) w.heap (fun _ => none) (.agg [.lit (.int .i64 lv1), .sl xs1.length (ec xs1)]) v1) (hL : laidMetH Tryz.prog Rows.bernoulliParityRow.laid w) :
  Calls Tryz.prog 6 #[.int .i64 a0,v1] w fun e w' => e = .returned (.bool true) ∧ w.keptBut w' (fun _ => False) ∧ ∀ i,i < w.heap.size → w'.heap[i]? = w.heap[i]? := by
 have hg := (lawParity_of bc_all) a0 (bounds_i64 w0) lv1 xs1 (bounds_i64 w1)
 refine (hg.2 w (fun g => g < w.heap.size) [.int .i64 a0,v1] (fun _ h => h) (laid_ok hL) (Reps.cons (.lit _) (Reps.cons hr1 (Reps.nil)))).mono ?_
 rintro e w' ⟨v,St',rfl,hr,_,_,h1,h2,h3,h4,h5⟩
 cases hr
 refine ⟨rfl,⟨h1,h3,fun i hi => ?_⟩,h5⟩
 rw [h5 i hi]
 obtain ⟨o,ho⟩ : ∃ o,w.heap[i]? = some o := ⟨w.heap[i],by simp [hi]⟩
 rw [ho]
 cases o with
 | cells c t fr => exact ⟨rfl,rfl,rfl,fun _ _ => rfl⟩
 | map es clock => exact .inr ⟨rfl,rfl⟩
 | _ => rfl
theorem door_met (os : Os) (args : Array Value) : laidMetH Tryz.prog Rows.bernoulliParityRow.laid ((World.doorLaid Tryz.prog 400 os).forCall (fun _ _ => 0) ⟨#[],args,[]⟩).memory :=
 laidMetH_of_parts3 (fuel := 8) (laidMet_of_run' 8 (by kernel_rfl) (by kernel_rfl)) (by kernel_rfl) (by kernel_rfl)
theorem lifted (os : Os) (started : os.Started) (H : Type) (enc : TypeId × Value → H) :
  ReturnsInHanded {} Tryz.checked os 6 .any (fun w args => (Rows.bernoulliParitySpec.pre enc Tryz.prog Tryz.f6 [] false w args ∧ laidMetH Tryz.prog Rows.bernoulliParityRow.laid w) ∧ sizedMet enc Tryz.prog Tryz.f6 (OpenSpec.ofChange Rows.bernoulliParitySpec) false w args)
   (Rows.bernoulliParitySpec.post enc Tryz.prog Tryz.f6 false true false false) := by
 refine returnsInHanded_of_change_and (C := Tryz.checked) (X := fun w _ => laidMetH Tryz.prog Rows.bernoulliParityRow.laid w) (fun _ _ _ hh h => h.of_heap hh) own started (by kernel_rfl) Tryz.func6
  (ChangeSpec.witness_shaped (enc := enc) (C := Tryz.checked) (os := os) (X := fun w _ => laidMetH Tryz.prog Rows.bernoulliParityRow.laid w) false (World.doorLaid Tryz.prog 400 os) #[.int .i64 0,.agg #[.int .i64 0,.slice none 0 0]] 8 rfl (World.shaped_of_RefB (by kernel_rfl) (by kernel_rfl)) (by kernel_rfl) (by kernel_rfl) (by kernel_rfl) (door_met os _)) ?_
 intro W base args ds gs before hval0 hW _ _ hL _
 have hval : ∀ (j : Nat) t v,Tryz.f6.params[j]? = some t → args[j]? = some v → Value.okWide Tryz.prog W .any base t v := hval0
 have hW' := hW
 obtain ⟨p,q,hA0,hV,rfl,hfz,hnd⟩ := hW
 have hA : DataW.TrodAll enc Tryz.prog W 0 (fun _ => true) true Tryz.f6.params.toList args.toList ds p := hA0
 rw [Tryz.params6] at hA hval
 obtain ⟨v0,vs0,d0,ds0,p0,q0,hargs0,rfl,rfl,h0,r0⟩ := trodAll_cons hA
 obtain ⟨v1,vs1,d1,ds1,p1,q1,hargs1,rfl,rfl,h1,r1⟩ := trodAll_cons r0
 obtain ⟨rfl,rfl,rfl⟩ := trodAll_nil r1
 obtain rfl : args = #[v0,v1] := by cases args;simp_all
 obtain ⟨rfl,rfl⟩ := trodVars_none hV
 obtain ⟨a0,rfl,rfl,rfl,w0⟩ := open_int Tryz.underlying3 (hval 0 3 v0 rfl rfl) h0
 obtain ⟨lv1,xs1,w1,rep1,re1⟩ := open_chr (hval 1 25 v1 rfl rfl) h1
 clear hA0 hval0
 simp only [List.append_nil] at hW'
 refine (walk a0 w0 lv1 xs1 w1 v1 W rep1 hL).mono fun e W' ⟨he,hk,hsame⟩ => ?_
 subst he
 obtain ⟨pa1,ha1⟩ := re1 W' hsame
 refine ⟨_,rfl,_,_,_,[],([] ++ (pa1 ++ [])),[],hW',?_,?_,?_,World.keptBut_mono (fun _ h => h.elim) hk,fun h => by cases h⟩
 ·exact trodAll_cons_mk (shut_bool Tryz.underlying4 _) trodAll_mk0
 ·exact (trodAll_cons_mk (shut_int Tryz.underlying3 w0) (trodAll_cons_mk ha1 trodAll_mk0))
 ·rfl
theorem jj {a b : Bool} (h : a = true) (g : b = true) : (a && b) = true := by rw [h,g];rfl
theorem closed : joinedFacts Tryz.pinned.checked.prog 6 Tryz.f6 Rows.bernoulliParitySpec Rows.bernoulliParityRow = true := by
 unfold joinedFacts
 repeat' (with_reducible refine jj ?_ ?_)
 all_goals as_aux_lemma => kernel_rfl
theorem named : Tryz.pinned.checked.prog.funcNamed Rows.bernoulliParityRow.func = some 6 := by kernel_rfl
theorem inst : Tryz.f6.isInstance Tryz.pinned.checked.prog Rows.bernoulliParityRow.origin Rows.bernoulliParityRow.targs := of_decide_eq_true (by kernel_rfl)
theorem wrap : Tryz.f6.isWrapper Tryz.pinned.checked.prog Rows.bernoulliParityRow.wrapper Rows.bernoulliParityRow.mainSum := by unfold Func.isWrapper;first | (rw [if_pos (by decide +kernel)];kernel_rfl) | (rw [if_neg (by decide +kernel)];exact ⟨rfl,rfl⟩)
theorem over : Rows.BernoulliParitySaid :=
 OpenClaim.holds_of_wide 6 Tryz.f6 rfl rfl rfl rfl rfl rfl rfl ⟨rfl,rfl,rfl,rfl,rfl⟩ rfl rfl rfl rfl rfl named Tryz.func6 closed
  inst wrap (fun os started H enc _ => lifted os started H enc)
theorem hw : Rows.bernoulliParityRow.wfByText (OpenSpec.ofChange Rows.bernoulliParitySpec) = true := by kernel_rfl
theorem hm : Tryz.pinned.checked.prog.mainIs = some (true,"c8a0186bfe35e414c40a27484d40a863bdb042bf8102b263c69c9d60748783d6".toList) := by kernel_rfl
theorem lks : false = Tryz.pinned.checked.prog.looks [] := by kernel_rfl
theorem hg : false = Rows.bernoulliParityRow.goesBy Tryz.pinned.checked.prog := by kernel_rfl
end Go.Proofs.YtaidcaemdkncgaaGreatDoor.bernoulliParity
namespace Go.Proofs.YtaidcaemdkncgaaGreatDoor
open Go
theorem bernoulliParity_card : Rows.BernoulliParityCardSaid :=
 Claim7.holds_tied_plain_at .later [] [.data] true (true,"c8a0186bfe35e414c40a27484d40a863bdb042bf8102b263c69c9d60748783d6") false
  bernoulliParity.over (fun _ h => by cases h) bernoulliParity.hw (fun _ h => by cases h) bernoulliParity_row_tie rfl ⟨rfl,rfl⟩ bernoulliParity.hm rfl
  (fun f fn hf hfn => by
   obtain rfl : f = 6 := Option.some.inj (bernoulliParity.named.symm.trans hf) |>.symm
   obtain rfl : fn = Tryz.f6 := (Option.some.inj (Tryz.func6.symm.trans hfn)).symm
   exact ⟨bernoulliParity.lks,fun j t ht => by
    rw [Tryz.params6] at ht
    have hm : t ∈ [3,25] := by simpa using Array.mem_of_getElem? ht
    have hall : ([3,25].all fun u => !Tryz.prog.wantsStandIn u) = true := by kernel_rfl
    exact (show Tryz.prog.wantsStandIn t = false by simpa using List.all_eq_true.1 hall t hm)⟩)
  bernoulliParity.hg
end Go.Proofs.YtaidcaemdkncgaaGreatDoor
