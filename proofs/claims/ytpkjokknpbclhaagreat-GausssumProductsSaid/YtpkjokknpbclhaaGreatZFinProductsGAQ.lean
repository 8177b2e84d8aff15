/- Every call of 'GausssumProducts' returns true and leaves its arguments as they were. No condition but the row's own. -/
import Derived.Test.YtpkjokknpbclhaaGreatRows
import Derived.SevenTiedAt
import Derived.Test.YtpkjokknpbclhaaGreatZFinProductsGAP
set_option linter.all false
namespace Go.Proofs.YtpkjokknpbclhaaGreat.gausssumProducts
open Go Go.Lg Go.ChangeShapes Go.WideShapes Go.ChangeAt Go.RowKit
set_option maxRecDepth 100000
set_option linter.unusedVariables false
theorem walk (lv0 : Int) (xs0 : List Int) (w0 : (Lit.int .i64 lv0).wf = true) (v0 : Value) (lv1 : Int) (xs1 : List Int) (w1 : (Lit.int .i64 lv1).wf = true) (v1 : Value) (w : World) (hr0 : Rep (fun g => g < w.heap.size) w.heap (fun _ => none) (.agg [.lit (.int .i64 lv0), .sl xs0.length (ec xs0)]) v0) (hr1 : Rep (fun g => g < w.heap.size) w.heap (fun _ => none) (.agg [.lit (.int .i64 lv1), .sl xs1.length (ec xs1)]) v1) :
  Calls Tryz.prog 5 #[v0,v1] w fun e w' => e = .returned (.bool true) ∧ w.keptBut w' (fun _ => False) ∧ ∀ i,i < w.heap.size → w'.heap[i]? = w.heap[i]? := by
 have hg := lawProducts_good lv0 xs0 (bounds_i64 w0) lv1 xs1 (bounds_i64 w1)
 refine (hg.2 w (fun g => g < w.heap.size) [v0,v1] (fun _ h => h) (laid_none _ _) (Reps.cons hr0 (Reps.cons hr1 (Reps.nil)))).mono ?_
 rintro e w' ⟨v,St',rfl,hr,_,_,h1,h2,h3,h4,h5⟩
 cases hr
 refine ⟨rfl,⟨h1,h3,fun i hi => ?_⟩,h5⟩
 rw [h5 i hi]
 obtain ⟨o,ho⟩ : ∃ o,w.heap[i]? = some o := ⟨w.heap[i],by simp [hi]⟩
 rw [ho]
 cases o with
 | cells c t fr => exact ⟨rfl,rfl,rfl,fun _ _ => rfl⟩
 | map es clock => exact .inr ⟨rfl,rfl⟩
 | _ => rfl
theorem lifted (os : Os) (started : os.Started) (H : Type) (enc : TypeId × Value → H) :
  ReturnsInHanded {} Tryz.checked os 5 .any (Rows.gausssumProductsSpec.pre6 enc Tryz.prog Tryz.f5 Rows.gausssumProductsRow.domain false) (Rows.gausssumProductsSpec.post enc Tryz.prog Tryz.f5 false true false false) := by
 refine returnsInHanded_of_change (C := Tryz.checked) own started (by kernel_rfl) Tryz.func5
  (ChangeSpec.witness6 (enc := enc) (C := Tryz.checked) false ⟨#[],#[.agg #[.int .i64 0,.slice none 0 0],.agg #[.int .i64 0,.slice none 0 0]],[]⟩ 8 (by kernel_rfl) (by kernel_rfl) (by kernel_rfl) (by kernel_rfl)) ?_
 intro W base args ds gs before hval0 hW hcnd _
 have hval : ∀ (j : Nat) t v,Tryz.f5.params[j]? = some t → args[j]? = some v → Value.okWide Tryz.prog W .any base t v := hval0
 have hW' := hW
 obtain ⟨p,q,hA0,hV,rfl,hfz,hnd⟩ := hW
 have hA : DataW.TrodAll enc Tryz.prog W 0 (fun _ => true) true Tryz.f5.params.toList args.toList ds p := hA0
 rw [Tryz.params5] at hA hval
 obtain ⟨v0,vs0,d0,ds0,p0,q0,hargs0,rfl,rfl,h0,r0⟩ := trodAll_cons hA
 obtain ⟨v1,vs1,d1,ds1,p1,q1,hargs1,rfl,rfl,h1,r1⟩ := trodAll_cons r0
 obtain ⟨rfl,rfl,rfl⟩ := trodAll_nil r1
 obtain rfl : args = #[v0,v1] := by cases args;simp_all
 obtain ⟨rfl,rfl⟩ := trodVars_none hV
 obtain ⟨lv0,xs0,w0,rep0,re0⟩ := open_chr (hval 0 24 v0 rfl rfl) h0
 obtain ⟨lv1,xs1,w1,rep1,re1⟩ := open_chr (hval 1 24 v1 rfl rfl) h1
 clear hA0 hval0
 simp only [List.append_nil] at hW'
 refine (walk lv0 xs0 w0 v0 lv1 xs1 w1 v1 W rep0 rep1).mono fun e W' ⟨he,hk,hsame⟩ => ?_
 subst he
 obtain ⟨pa0,ha0⟩ := re0 W' hsame
 obtain ⟨pa1,ha1⟩ := re1 W' hsame
 refine ⟨_,rfl,_,_,_,[],(pa0 ++ (pa1 ++ [])),[],hW',?_,?_,?_,World.keptBut_mono (fun _ h => h.elim) hk,fun h => by cases h⟩
 ·exact trodAll_cons_mk (shut_bool Tryz.underlying4 _) trodAll_mk0
 ·exact (trodAll_cons_mk ha0 (trodAll_cons_mk ha1 trodAll_mk0))
 ·rfl
theorem over : Rows.GausssumProductsSaid :=
 OpenClaim.holds_of_wide 5 Tryz.f5 rfl rfl rfl rfl rfl rfl rfl ⟨rfl,rfl,rfl,rfl,rfl⟩ rfl rfl rfl rfl rfl (by kernel_rfl) Tryz.func5 (by kernel_rfl)
  (of_decide_eq_true (by kernel_rfl)) (by unfold Func.isWrapper;first | (rw [if_pos (by decide +kernel)];kernel_rfl) | (rw [if_neg (by decide +kernel)];exact ⟨rfl,rfl⟩))
  (fun os started H enc _ => lifted os started H enc)
end Go.Proofs.YtpkjokknpbclhaaGreat.gausssumProducts
namespace Go.Proofs.YtpkjokknpbclhaaGreat
open Go
theorem gausssumProducts_holds : Rows.GausssumProductsSaid := gausssumProducts.over
end Go.Proofs.YtpkjokknpbclhaaGreat
