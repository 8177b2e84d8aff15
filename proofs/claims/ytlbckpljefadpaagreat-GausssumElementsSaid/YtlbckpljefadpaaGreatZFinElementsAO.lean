/- Every call of 'GausssumElements' returns true and leaves its arguments as they were. No condition but the row's own. -/
import Derived.Test.YtlbckpljefadpaaGreatRows
import Derived.SevenTiedAt
import Derived.Test.YtlbckpljefadpaaGreatZFinElementsAM
import Derived.Test.YtlbckpljefadpaaGreatZFinElementsAN
set_option linter.all false
namespace Go.Proofs.YtlbckpljefadpaaGreat.gausssumElements
open Go Go.Lg Go.ChangeShapes Go.WideShapes Go.ChangeAt Go.RowKit
set_option maxRecDepth 100000
set_option linter.unusedVariables false
theorem walk (a0 : Int) (w0 : (Lit.int .i64 a0).wf = true) (z1 : Bool) (a1 b1 : Int) (wa1 : (Lit.int .i64 a1).wf = true) (wb1 : (Lit.int .i64 b1).wf = true) (w : World) :
  Calls Tryz.prog 6 #[.int .i64 a0,rtV z1 a1 b1] w fun e w' => e = .returned (.bool true) ∧ w.keptBut w' (fun _ => False) ∧ ∀ i,i < w.heap.size → w'.heap[i]? = w.heap[i]? := by
 have hg := lawElements_good a0 (bounds_i64 w0) z1 a1 b1 (bounds_i64 wa1) (bounds_i64 wb1)
 refine (hg.2 w (fun g => g < w.heap.size) [.int .i64 a0,rtV z1 a1 b1] (fun _ h => h) (laid_none _ _) (Reps.cons (.lit _) (Reps.cons (rep_rt _ _ _) (Reps.nil)))).mono ?_
 rintro e w' ⟨v,St',rfl,hr,_,_,h1,h2,h3,h4,h5⟩
 cases hr
 refine ⟨rfl,⟨h1,h3,fun i hi => ?_⟩,h5⟩
 rw [h5 i hi]
 obtain ⟨o,ho⟩ : ∃ o,w.heap[i]? = some o := ⟨w.heap[i],by simp [hi]⟩
 rw [ho]
 cases o with
 | cells c t fr => exact ⟨rfl,rfl,rfl,fun _ _ => rfl⟩
 | map es clock => exact .inr ⟨rfl,rfl⟩
 | _ => rfl
theorem lifted (os : Os) (started : os.Started) (H : Type) (enc : TypeId × Value → H) :
  ReturnsInHanded {} Tryz.checked os 6 .any (Rows.gausssumElementsSpec.pre6 enc Tryz.prog Tryz.f6 Rows.gausssumElementsRow.domain false) (Rows.gausssumElementsSpec.post enc Tryz.prog Tryz.f6 false true false false) := by
 refine returnsInHanded_of_change (C := Tryz.checked) own started (by kernel_rfl) Tryz.func6
  (ChangeSpec.witness6 (enc := enc) (C := Tryz.checked) false ⟨#[],#[.int .i64 0,.agg #[.bool false,.int .i64 0,.int .i64 0]],[]⟩ 8 (by kernel_rfl) (by kernel_rfl) (by kernel_rfl) (by kernel_rfl)) ?_
 intro W base args ds gs before hval0 hW hcnd _
 have hval : ∀ (j : Nat) t v,Tryz.f6.params[j]? = some t → args[j]? = some v → Value.okWide Tryz.prog W .any base t v := hval0
 have hW' := hW
 obtain ⟨p,q,hA0,hV,rfl,hfz,hnd⟩ := hW
 have hA : DataW.TrodAll enc Tryz.prog W 0 (fun _ => true) true Tryz.f6.params.toList args.toList ds p := hA0
 rw [Tryz.params6] at hA hval
 obtain ⟨v0,vs0,d0,ds0,p0,q0,hargs0,rfl,rfl,h0,r0⟩ := trodAll_cons hA
 obtain ⟨v1,vs1,d1,ds1,p1,q1,hargs1,rfl,rfl,h1,r1⟩ := trodAll_cons r0
 obtain ⟨rfl,rfl,rfl⟩ := trodAll_nil r1
 obtain rfl : args = #[v0,v1] := by cases args;simp_all
 obtain ⟨rfl,rfl⟩ := trodVars_none hV
 obtain ⟨a0,rfl,rfl,rfl,w0⟩ := open_int Tryz.underlying3 (hval 0 3 v0 rfl rfl) h0
 obtain ⟨z1,a1,b1,rfl,rfl,rfl,wa1,wb1⟩ := open_rt (hval 1 44 v1 rfl rfl) h1
 clear hA0 hval0
 simp only [List.append_nil] at hW'
 refine (walk a0 w0 z1 a1 b1 wa1 wb1 W).mono fun e W' ⟨he,hk,hsame⟩ => ?_
 subst he
 refine ⟨_,rfl,_,_,_,[],([] ++ ([] ++ [])),[],hW',?_,?_,?_,World.keptBut_mono (fun _ h => h.elim) hk,fun h => by cases h⟩
 ·exact trodAll_cons_mk (shut_bool Tryz.underlying4 _) trodAll_mk0
 ·exact (trodAll_cons_mk (shut_int Tryz.underlying3 w0) (trodAll_cons_mk (shut_rt wa1 wb1) trodAll_mk0))
 ·rfl
theorem over : Rows.GausssumElementsSaid :=
 OpenClaim.holds_of_wide 6 Tryz.f6 rfl rfl rfl rfl rfl rfl rfl ⟨rfl,rfl,rfl,rfl,rfl⟩ rfl rfl rfl rfl rfl (by kernel_rfl) Tryz.func6 (by kernel_rfl)
  (of_decide_eq_true (by kernel_rfl)) (by unfold Func.isWrapper;first | (rw [if_pos (by decide +kernel)];kernel_rfl) | (rw [if_neg (by decide +kernel)];exact ⟨rfl,rfl⟩))
  (fun os started H enc _ => lifted os started H enc)
end Go.Proofs.YtlbckpljefadpaaGreat.gausssumElements
namespace Go.Proofs.YtlbckpljefadpaaGreat
open Go
theorem gausssumElements_holds : Rows.GausssumElementsSaid := gausssumElements.over
end Go.Proofs.YtlbckpljefadpaaGreat
