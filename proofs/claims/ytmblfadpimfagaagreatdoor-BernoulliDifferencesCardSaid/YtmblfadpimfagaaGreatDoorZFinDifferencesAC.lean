/- Contracts of functions of the program, and what proves them (texts: ClsA). -/
import Derived.Test.YtmblfadpimfagaaGreatDoorZAO
set_option linter.all false
namespace Go.Proofs.YtmblfadpimfagaaGreatDoor
open Go Go.Lg Go.ChangeShapes Go.WideShapes Go.ChangeAt Go.RowKit
section
variable {H : Type} {enc : TypeId × Value → H} {P : Program} {w : World} {base : Nat} {spare : Nat → Bool} {held : Bool}
theorem open_arr2 {r : Reach} {b0 : Nat} {t e : TypeId} {k : IntKind} {v : Value} {d : DataW H} {ps : List MemPlace} (ht : P.underlying t = some (.array 2 e)) (he : P.underlying e = some (.int k)) (ce : P.cellsOf e = 1) (ct : P.cellsOf t = 2)
    (hval : Value.okWide P w r b0 t v) (hd : DataW.Trod enc P w base spare held t v d ps) : ∃ a b, v = .agg #[.int k a, .int k b] ∧ d = .agg [.lit (.int k a), .lit (.int k b)] ∧ ps = [] ∧ (Lit.int k a).wf = true ∧ (Lit.int k b).wf = true := by
  simp only [Value.okWide, ht] at hval
  obtain ⟨cs, rfl, h2, _⟩ := hval
  obtain ⟨fuel, hf⟩ := hd
  obtain ⟨xs, m, rfl, hx, hlen, hn, hel⟩ := DataW.trod_array ht hf
  have e0 := hel 0 (by omega)
  have e1 := hel 1 (by omega)
  match xs, hn with
  | [x0, x1], _ =>
    rw [ce] at e0 e1
    obtain ⟨a, a1, a2, a3⟩ := DataW.trod_int he (show DataW.trod enc P w base spare held m e _ = some x0 from e0)
    obtain ⟨b, b1, b2, b3⟩ := DataW.trod_int he (show DataW.trod enc P w base spare held m e _ = some x1 from e1)
    subst a2
    subst b2
    simp only [List.map_cons, List.map_nil, List.flatMap_cons, List.flatMap_nil, List.append_nil, Prod.mk.injEq] at hx
    refine ⟨a, b, ?_, hx.1, hx.2, a3, b3⟩
    have hl : cs.toList.length = 2 := by rw [Array.length_toList, h2, ct]
    have hc : (Value.agg cs).cells = cs := rfl
    rw [hc] at a1 b1
    match hcs : cs.toList, hl with
    | [c0, c1], _ =>
      rw [hcs] at a1 b1
      simp at a1 b1
      subst a1
      subst b1
      have : cs = [Value.int k a, Value.int k b].toArray := by rw [← hcs]
      rw [this]
theorem shut_arr2 {t e : TypeId} {k : IntKind} {a b : Int} (ht : P.underlying t = some (.array 2 e)) (he : P.underlying e = some (.int k)) (ce : P.cellsOf e = 1) (ct : P.cellsOf t = 2) (ha : (Lit.int k a).wf = true) (hb : (Lit.int k b).wf = true) :
    DataW.Trod enc P w base spare held t (.agg #[.int k a, .int k b]) (.agg [.lit (.int k a), .lit (.int k b)]) [] :=
  ⟨2, by
    rw [DataW.trod_step]
    unfold DataW.trodStep
    simp [ht, Value.cells, ct, ce, List.range_succ, DataW.trod, he, ha, hb]⟩
theorem rep_arr2 {St : Nat → Prop} {hp : Array Obj} {μ : Nat → Option (Nat × Nat)} (k : IntKind) (a b : Int) : Rep St hp μ (.agg [.lit (.int k a), .lit (.int k b)]) (.agg #[.int k a, .int k b]) := by
  refine Rep.agg (us := [.int k a, .int k b]) rfl (by simp [Value.oneCell']) ?_
  intro j c u hc hu
  match j with
  | 0 => simp at hc hu; subst hc; subst hu; exact .lit _
  | 1 => simp at hc hu; subst hc; subst hu; exact .lit _
  | j + 2 => simp at hc
end
end Go.Proofs.YtmblfadpimfagaaGreatDoor
