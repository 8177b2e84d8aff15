/- Every call of 'EtaEuler' returns true and leaves its arguments as they were. No condition but the row's own. -/
import Derived.Test.YtbajpjjbaffnnaaGreatRows
import Derived.SevenTiedAt
import Derived.Test.YtbajpjjbaffnnaaGreatZAP
import Derived.Test.YtbajpjjbaffnnaaGreatZBQ
import Derived.Test.YtbajpjjbaffnnaaGreatZFinEulerAA
set_option linter.all false
namespace Go.Proofs.YtbajpjjbaffnnaaGreat.etaEuler
open Go Go.Lg Go.ChangeShapes Go.WideShapes Go.ChangeAt Go.RowKit
set_option maxRecDepth 100000
set_option linter.unusedVariables false
theorem walk (a0 : Int) (w0 : (Lit.int .i64 a0).wf = true) (w : World) :
    Calls Tryz.prog 4 #[.int .i64 a0] w fun e w' => e = .returned (.bool true) ∧ w.keptBut w' (fun _ => False) ∧ ∀ i, i < w.heap.size → w'.heap[i]? = w.heap[i]? := by
  have hg := (lawEuler_good awake_good) a0 (bounds_i64 w0)
  refine (hg.2 w (fun g => g < w.heap.size) [.int .i64 a0] (fun _ h => h) (laid_none _ _) (Reps.cons (.lit _) (Reps.nil))).mono ?_
  rintro e w' ⟨v, St', rfl, hr, _, _, h1, h2, h3, h4, h5⟩
  cases hr
  refine ⟨rfl, ⟨h1, h3, fun i hi => ?_⟩, h5⟩
  rw [h5 i hi]
  obtain ⟨o, ho⟩ : ∃ o, w.heap[i]? = some o := ⟨w.heap[i], by simp [hi]⟩
  rw [ho]
  cases o with
  | cells c t fr => exact ⟨rfl, rfl, rfl, fun _ _ => rfl⟩
  | map es clock => exact .inr ⟨rfl, rfl⟩
  | _ => rfl
theorem lifted (os : Os) (started : os.Started) (H : Type) (enc : TypeId × Value → H) :
    ReturnsInHanded {} Tryz.checked os 4 .any (Rows.etaEulerSpec.pre6 enc Tryz.prog Tryz.f4 Rows.etaEulerRow.domain false) (Rows.etaEulerSpec.post enc Tryz.prog Tryz.f4 false true false false) := by
  refine returnsInHanded_of_change (C := Tryz.checked) own started (by kernel_rfl) Tryz.func4
    (ChangeSpec.witness6 (enc := enc) (C := Tryz.checked) false ⟨#[], #[.int .i64 0], []⟩ 8 (by kernel_rfl) (by kernel_rfl) (by kernel_rfl) (by kernel_rfl)) ?_
  intro W base args ds gs before hval0 hW hcnd _
  have hval : ∀ (j : Nat) t v, Tryz.f4.params[j]? = some t → args[j]? = some v → Value.okWide Tryz.prog W .any base t v := hval0
  have hW' := hW
  obtain ⟨p, q, hA0, hV, rfl, hfz, hnd⟩ := hW
  have hA : DataW.TrodAll enc Tryz.prog W 0 (fun _ => true) true Tryz.f4.params.toList args.toList ds p := hA0
  rw [Tryz.params4] at hA hval
  obtain ⟨v0, vs0, d0, ds0, p0, q0, hargs0, rfl, rfl, h0, r0⟩ := trodAll_cons hA
  obtain ⟨rfl, rfl, rfl⟩ := trodAll_nil r0
  obtain rfl : args = #[v0] := by cases args; simp_all
  obtain ⟨rfl, rfl⟩ := trodVars_none hV
  obtain ⟨a0, rfl, rfl, rfl, w0⟩ := open_int Tryz.underlying3 (hval 0 3 v0 rfl rfl) h0
  clear hA0 hval0
  simp only [List.append_nil] at hW'
  refine (walk a0 w0 W).mono fun e W' ⟨he, hk, hsame⟩ => ?_
  subst he
  refine ⟨_, rfl, _, _, _, [], ([] ++ []), [], hW', ?_, ?_, ?_, World.keptBut_mono (fun _ h => h.elim) hk, fun h => by cases h⟩
  · exact trodAll_cons_mk (shut_bool Tryz.underlying4 _) trodAll_mk0
  · exact (trodAll_cons_mk (shut_int Tryz.underlying3 w0) trodAll_mk0)
  · rfl
theorem over : Rows.EtaEulerSaid :=
  OpenClaim.holds_of_wide 4 Tryz.f4 rfl rfl rfl rfl rfl rfl rfl ⟨rfl, rfl, rfl, rfl, rfl⟩ rfl rfl rfl rfl rfl (by kernel_rfl) Tryz.func4 (by kernel_rfl)
    (of_decide_eq_true (by kernel_rfl)) (by unfold Func.isWrapper; first | (rw [if_pos (by decide +kernel)]; kernel_rfl) | (rw [if_neg (by decide +kernel)]; exact ⟨rfl, rfl⟩))
    (fun os started H enc _ => lifted os started H enc)
end Go.Proofs.YtbajpjjbaffnnaaGreat.etaEuler
namespace Go.Proofs.YtbajpjjbaffnnaaGreat
open Go
theorem etaEuler_holds : Rows.EtaEulerSaid := etaEuler.over
end Go.Proofs.YtbajpjjbaffnnaaGreat

