/-
  No cell of these rows narrows 'for every input' (looked for: loops, veiled, ifaces, maps, wideKeys, modest, calm, conditions, laid).
  DERIVED. THE GIVEN ROWS OF THIS SEAT. 9 by the template 'for every input the law returns true; each argument reads behind the call as it read before'; 0 by the template 'total and deterministic' (their statements: YtbajpjjbaffnnaaGreatTotals.lean).
  GIVEN WITH THE SEED: the statements are not yours to turn. If you find one false, say at which input.
  Laid BY PROGRAM, IN A SANDBOX (cutbox-rows.mjs): the forced cells as the released guide's own fill.sh prints them over the translation a27317fe5eda1603… (all of the seat's roots in one cut). By AI agents, Wed Nov 11 2026. No macro, syntax, notation, axiom, sorry.
-/
import Derived.Test.YtbajpjjbaffnnaaGreatChecked
import GoSem.Claim
import GoSem.ClaimJoined
import GoSem.ClaimMapViews
import Derived.JoinedTies
import Derived.KernelRfl
namespace Go.Proofs.YtbajpjjbaffnnaaGreat
/- THE CELL 'sum', in the pinned program and in every row, IS THE sha256 OF THE DUMP (.gsa) THAT YtbajpjjbaffnnaaGreatProg.lean LOADS. Nothing in Lean hashes anything: it is a label: what it is worth is what the hold of that sum in a sandbox is worth. -/
noncomputable def Tryz.pinned : Pinned := { name := "ytbajpjjbaffnnaagreat", sum := "a27317fe5eda1603ee7377d4cfc0bd15528f61bfba3690c8d27c1f2de62174f2", checked := Tryz.checked }
namespace Rows
def none {H : Type} : Left H := { results := [], args := [] }

/-- 'halfplanelaw35.EtaExpansions': WHATEVER THE INPUT: true; the input reads as it did. -/
def etaExpansionsSpec : ChangeSpec := { name := "etaExpansions", fn := fun _ => fun
  | [d1, d2] => { results := [.lit (.bool true)], args := [d1, d2] }
  | _ => none }
def etaExpansionsRow : OpenClaim := { program := "ytbajpjjbaffnnaagreat", sum := "a27317fe5eda1603ee7377d4cfc0bd15528f61bfba3690c8d27c1f2de62174f2", func := "halfplane/halfplanelaw35.EtaExpansions", spec := "etaExpansions", unfollowed := true, recurses := true, named := ["math/bits.overflowError"], apart := false }
def EtaExpansionsSaid : Prop := etaExpansionsRow.holds Tryz.pinned (OpenSpec.ofChange etaExpansionsSpec)

/-- ITS FALSE NEIGHBOUR: 'it returns false'. Refute it at one input. -/
def etaExpansionsWrong : ChangeSpec := { name := "etaExpansions", fn := fun _ => fun
  | [d1, d2] => { results := [.lit (.bool false)], args := [d1, d2] }
  | _ => none }
def EtaExpansionsWrongFalsely : Prop := etaExpansionsRow.holds Tryz.pinned (OpenSpec.ofChange etaExpansionsWrong)

/-- 'halfplanelaw35.EtaEuler': WHATEVER THE INPUT: true; the input reads as it did. -/
def etaEulerSpec : ChangeSpec := { name := "etaEuler", fn := fun _ => fun
  | [d] => { results := [.lit (.bool true)], args := [d] }
  | _ => none }
def etaEulerRow : OpenClaim := { program := "ytbajpjjbaffnnaagreat", sum := "a27317fe5eda1603ee7377d4cfc0bd15528f61bfba3690c8d27c1f2de62174f2", func := "halfplane/halfplanelaw35.EtaEuler", spec := "etaEuler", unfollowed := true, recurses := true, named := ["math/bits.overflowError"], apart := false }
def EtaEulerSaid : Prop := etaEulerRow.holds Tryz.pinned (OpenSpec.ofChange etaEulerSpec)

/-- ITS FALSE NEIGHBOUR: 'it returns false'. Refute it at one input. -/
def etaEulerWrong : ChangeSpec := { name := "etaEuler", fn := fun _ => fun
  | [d] => { results := [.lit (.bool false)], args := [d] }
  | _ => none }
def EtaEulerWrongFalsely : Prop := etaEulerRow.holds Tryz.pinned (OpenSpec.ofChange etaEulerWrong)

/-- 'halfplanelaw35.EtaValence': WHATEVER THE INPUT: true; the input reads as it did. -/
def etaValenceSpec : ChangeSpec := { name := "etaValence", fn := fun _ => fun
  | [d] => { results := [.lit (.bool true)], args := [d] }
  | _ => none }
def etaValenceRow : OpenClaim := { program := "ytbajpjjbaffnnaagreat", sum := "a27317fe5eda1603ee7377d4cfc0bd15528f61bfba3690c8d27c1f2de62174f2", func := "halfplane/halfplanelaw35.EtaValence", spec := "etaValence", unfollowed := true, recurses := true, named := ["math/bits.overflowError"], apart := false }
def EtaValenceSaid : Prop := etaValenceRow.holds Tryz.pinned (OpenSpec.ofChange etaValenceSpec)

/-- ITS FALSE NEIGHBOUR: 'it returns false'. Refute it at one input. -/
def etaValenceWrong : ChangeSpec := { name := "etaValence", fn := fun _ => fun
  | [d] => { results := [.lit (.bool false)], args := [d] }
  | _ => none }
def EtaValenceWrongFalsely : Prop := etaValenceRow.holds Tryz.pinned (OpenSpec.ofChange etaValenceWrong)

/-- 'halfplanelaw35.EtaOrders': WHATEVER THE INPUT: true; the input reads as it did. -/
def etaOrdersSpec : ChangeSpec := { name := "etaOrders", fn := fun _ => fun
  | [d1, d2] => { results := [.lit (.bool true)], args := [d1, d2] }
  | _ => none }
def etaOrdersRow : OpenClaim := { program := "ytbajpjjbaffnnaagreat", sum := "a27317fe5eda1603ee7377d4cfc0bd15528f61bfba3690c8d27c1f2de62174f2", func := "halfplane/halfplanelaw35.EtaOrders", spec := "etaOrders", unfollowed := true, recurses := true, named := ["math/bits.overflowError"], apart := false }
def EtaOrdersSaid : Prop := etaOrdersRow.holds Tryz.pinned (OpenSpec.ofChange etaOrdersSpec)

/-- ITS FALSE NEIGHBOUR: 'it returns false'. Refute it at one input. -/
def etaOrdersWrong : ChangeSpec := { name := "etaOrders", fn := fun _ => fun
  | [d1, d2] => { results := [.lit (.bool false)], args := [d1, d2] }
  | _ => none }
def EtaOrdersWrongFalsely : Prop := etaOrdersRow.holds Tryz.pinned (OpenSpec.ofChange etaOrdersWrong)

/-- 'halfplanelaw35.EtaForms': WHATEVER THE INPUT: true; the input reads as it did. -/
def etaFormsSpec : ChangeSpec := { name := "etaForms", fn := fun _ => fun
  | [d] => { results := [.lit (.bool true)], args := [d] }
  | _ => none }
def etaFormsRow : OpenClaim := { program := "ytbajpjjbaffnnaagreat", sum := "a27317fe5eda1603ee7377d4cfc0bd15528f61bfba3690c8d27c1f2de62174f2", func := "halfplane/halfplanelaw35.EtaForms", spec := "etaForms", unfollowed := true, recurses := true, named := ["math/bits.overflowError"], apart := false }
def EtaFormsSaid : Prop := etaFormsRow.holds Tryz.pinned (OpenSpec.ofChange etaFormsSpec)

/-- ITS FALSE NEIGHBOUR: 'it returns false'. Refute it at one input. -/
def etaFormsWrong : ChangeSpec := { name := "etaForms", fn := fun _ => fun
  | [d] => { results := [.lit (.bool false)], args := [d] }
  | _ => none }
def EtaFormsWrongFalsely : Prop := etaFormsRow.holds Tryz.pinned (OpenSpec.ofChange etaFormsWrong)

/-- 'halfplanelaw35.EtaProducts': WHATEVER THE INPUT: true; the input reads as it did. -/
def etaProductsSpec : ChangeSpec := { name := "etaProducts", fn := fun _ => fun
  | [d1, d2, d3] => { results := [.lit (.bool true)], args := [d1, d2, d3] }
  | _ => none }
def etaProductsRow : OpenClaim := { program := "ytbajpjjbaffnnaagreat", sum := "a27317fe5eda1603ee7377d4cfc0bd15528f61bfba3690c8d27c1f2de62174f2", func := "halfplane/halfplanelaw35.EtaProducts", spec := "etaProducts", unfollowed := true, recurses := true, named := ["math/bits.overflowError"], apart := false }
def EtaProductsSaid : Prop := etaProductsRow.holds Tryz.pinned (OpenSpec.ofChange etaProductsSpec)

/-- ITS FALSE NEIGHBOUR: 'it returns false'. Refute it at one input. -/
def etaProductsWrong : ChangeSpec := { name := "etaProducts", fn := fun _ => fun
  | [d1, d2, d3] => { results := [.lit (.bool false)], args := [d1, d2, d3] }
  | _ => none }
def EtaProductsWrongFalsely : Prop := etaProductsRow.holds Tryz.pinned (OpenSpec.ofChange etaProductsWrong)

/-- 'halfplanelaw35.EtaOperations': WHATEVER THE INPUT: true; the input reads as it did. -/
def etaOperationsSpec : ChangeSpec := { name := "etaOperations", fn := fun _ => fun
  | [d1, d2, d3] => { results := [.lit (.bool true)], args := [d1, d2, d3] }
  | _ => none }
def etaOperationsRow : OpenClaim := { program := "ytbajpjjbaffnnaagreat", sum := "a27317fe5eda1603ee7377d4cfc0bd15528f61bfba3690c8d27c1f2de62174f2", func := "halfplane/halfplanelaw35.EtaOperations", spec := "etaOperations", unfollowed := true, recurses := true, named := ["math/bits.overflowError"], apart := false }
def EtaOperationsSaid : Prop := etaOperationsRow.holds Tryz.pinned (OpenSpec.ofChange etaOperationsSpec)

/-- ITS FALSE NEIGHBOUR: 'it returns false'. Refute it at one input. -/
def etaOperationsWrong : ChangeSpec := { name := "etaOperations", fn := fun _ => fun
  | [d1, d2, d3] => { results := [.lit (.bool false)], args := [d1, d2, d3] }
  | _ => none }
def EtaOperationsWrongFalsely : Prop := etaOperationsRow.holds Tryz.pinned (OpenSpec.ofChange etaOperationsWrong)

/-- 'halfplanelaw35.EtaRaised': WHATEVER THE INPUT: true; the input reads as it did. -/
def etaRaisedSpec : ChangeSpec := { name := "etaRaised", fn := fun _ => fun
  | [d1, d2] => { results := [.lit (.bool true)], args := [d1, d2] }
  | _ => none }
def etaRaisedRow : OpenClaim := { program := "ytbajpjjbaffnnaagreat", sum := "a27317fe5eda1603ee7377d4cfc0bd15528f61bfba3690c8d27c1f2de62174f2", func := "halfplane/halfplanelaw35.EtaRaised", spec := "etaRaised", unfollowed := true, recurses := true, named := ["math/bits.overflowError"], apart := false }
def EtaRaisedSaid : Prop := etaRaisedRow.holds Tryz.pinned (OpenSpec.ofChange etaRaisedSpec)

/-- ITS FALSE NEIGHBOUR: 'it returns false'. Refute it at one input. -/
def etaRaisedWrong : ChangeSpec := { name := "etaRaised", fn := fun _ => fun
  | [d1, d2] => { results := [.lit (.bool false)], args := [d1, d2] }
  | _ => none }
def EtaRaisedWrongFalsely : Prop := etaRaisedRow.holds Tryz.pinned (OpenSpec.ofChange etaRaisedWrong)

/-- 'halfplanelaw35.EtaLists': WHATEVER THE INPUT: true; the input reads as it did. -/
def etaListsSpec : ChangeSpec := { name := "etaLists", fn := fun _ => fun
  | [d1, d2] => { results := [.lit (.bool true)], args := [d1, d2] }
  | _ => none }
def etaListsRow : OpenClaim := { program := "ytbajpjjbaffnnaagreat", sum := "a27317fe5eda1603ee7377d4cfc0bd15528f61bfba3690c8d27c1f2de62174f2", func := "halfplane/halfplanelaw35.EtaLists", spec := "etaLists", unfollowed := true, recurses := true, named := ["math/bits.overflowError"], apart := false }
def EtaListsSaid : Prop := etaListsRow.holds Tryz.pinned (OpenSpec.ofChange etaListsSpec)

/-- ITS FALSE NEIGHBOUR: 'it returns false'. Refute it at one input. -/
def etaListsWrong : ChangeSpec := { name := "etaLists", fn := fun _ => fun
  | [d1, d2] => { results := [.lit (.bool false)], args := [d1, d2] }
  | _ => none }
def EtaListsWrongFalsely : Prop := etaListsRow.holds Tryz.pinned (OpenSpec.ofChange etaListsWrong)

/- THE SECOND FORM. 'bulk': how many values and letters a reading holds, each counted each time it is reached (what is shared counts as often as it is met; a slice's spare places count too). A statement '..UptoSaid' is the law's where the arguments, and the package variables that the reading takes, are together of bulk at most 1048576: NARROWER than '..Said'. Prove '..Said' where nothing that the law and all that it calls make is longer than what came in: it says more and counts as full. Else prove '..UptoSaid'. A law counts once. -/
mutual
def uptoBulk {H : Type} : DataW H → Nat
  | .lit (.string bytes) => bytes.length + 1
  | .lit _ => 1
  | .nil => 1
  | .ptr d => uptoBulk d + 1
  | .slice elems spare => uptoBulkAll elems + uptoBulkAll spare + 1
  | .agg parts => uptoBulkAll parts + 1
  | .iface _ d => uptoBulk d + 1
  | .map entries => uptoBulkEntries entries + 1
  | .held _ => 1
def uptoBulkAll {H : Type} : List (DataW H) → Nat
  | [] => 0
  | d :: r => uptoBulk d + uptoBulkAll r
def uptoBulkEntries {H : Type} : List (Lit × DataW H) → Nat
  | [] => 0
  | x :: r => uptoBulkEntry x + uptoBulkEntries r
def uptoBulkEntry {H : Type} : Lit × DataW H → Nat
  | (.string bytes, d) => bytes.length + uptoBulk d + 1
  | (_, d) => uptoBulk d + 1
 end
def uptoSmall : (H : Type) → List (DataW H) → Bool := fun _ ds => decide (uptoBulkAll ds ≤ 1048576)
def OpenSpec.upto (s : _root_.Go.ChangeSpec) : _root_.Go.OpenSpec := { _root_.Go.OpenSpec.ofChange s with cond := some uptoSmall }

/-- 'halfplanelaw35.EtaExpansions', WHERE WHAT IT READS IS OF BULK AT MOST 1048576: true; the input reads as it did. -/
def etaExpansionsUptoRow : OpenClaim := { program := "ytbajpjjbaffnnaagreat", sum := "a27317fe5eda1603ee7377d4cfc0bd15528f61bfba3690c8d27c1f2de62174f2", func := "halfplane/halfplanelaw35.EtaExpansions", spec := "etaExpansions", unfollowed := true, recurses := true, named := ["math/bits.overflowError"], apart := false, narrowed := true }
def EtaExpansionsUptoSaid : Prop := etaExpansionsUptoRow.holds Tryz.pinned (OpenSpec.upto etaExpansionsSpec)

/-- 'halfplanelaw35.EtaEuler', WHERE WHAT IT READS IS OF BULK AT MOST 1048576: true; the input reads as it did. -/
def etaEulerUptoRow : OpenClaim := { program := "ytbajpjjbaffnnaagreat", sum := "a27317fe5eda1603ee7377d4cfc0bd15528f61bfba3690c8d27c1f2de62174f2", func := "halfplane/halfplanelaw35.EtaEuler", spec := "etaEuler", unfollowed := true, recurses := true, named := ["math/bits.overflowError"], apart := false, narrowed := true }
def EtaEulerUptoSaid : Prop := etaEulerUptoRow.holds Tryz.pinned (OpenSpec.upto etaEulerSpec)

/-- 'halfplanelaw35.EtaValence', WHERE WHAT IT READS IS OF BULK AT MOST 1048576: true; the input reads as it did. -/
def etaValenceUptoRow : OpenClaim := { program := "ytbajpjjbaffnnaagreat", sum := "a27317fe5eda1603ee7377d4cfc0bd15528f61bfba3690c8d27c1f2de62174f2", func := "halfplane/halfplanelaw35.EtaValence", spec := "etaValence", unfollowed := true, recurses := true, named := ["math/bits.overflowError"], apart := false, narrowed := true }
def EtaValenceUptoSaid : Prop := etaValenceUptoRow.holds Tryz.pinned (OpenSpec.upto etaValenceSpec)

/-- 'halfplanelaw35.EtaOrders', WHERE WHAT IT READS IS OF BULK AT MOST 1048576: true; the input reads as it did. -/
def etaOrdersUptoRow : OpenClaim := { program := "ytbajpjjbaffnnaagreat", sum := "a27317fe5eda1603ee7377d4cfc0bd15528f61bfba3690c8d27c1f2de62174f2", func := "halfplane/halfplanelaw35.EtaOrders", spec := "etaOrders", unfollowed := true, recurses := true, named := ["math/bits.overflowError"], apart := false, narrowed := true }
def EtaOrdersUptoSaid : Prop := etaOrdersUptoRow.holds Tryz.pinned (OpenSpec.upto etaOrdersSpec)

/-- 'halfplanelaw35.EtaForms', WHERE WHAT IT READS IS OF BULK AT MOST 1048576: true; the input reads as it did. -/
def etaFormsUptoRow : OpenClaim := { program := "ytbajpjjbaffnnaagreat", sum := "a27317fe5eda1603ee7377d4cfc0bd15528f61bfba3690c8d27c1f2de62174f2", func := "halfplane/halfplanelaw35.EtaForms", spec := "etaForms", unfollowed := true, recurses := true, named := ["math/bits.overflowError"], apart := false, narrowed := true }
def EtaFormsUptoSaid : Prop := etaFormsUptoRow.holds Tryz.pinned (OpenSpec.upto etaFormsSpec)

/-- 'halfplanelaw35.EtaProducts', WHERE WHAT IT READS IS OF BULK AT MOST 1048576: true; the input reads as it did. -/
def etaProductsUptoRow : OpenClaim := { program := "ytbajpjjbaffnnaagreat", sum := "a27317fe5eda1603ee7377d4cfc0bd15528f61bfba3690c8d27c1f2de62174f2", func := "halfplane/halfplanelaw35.EtaProducts", spec := "etaProducts", unfollowed := true, recurses := true, named := ["math/bits.overflowError"], apart := false, narrowed := true }
def EtaProductsUptoSaid : Prop := etaProductsUptoRow.holds Tryz.pinned (OpenSpec.upto etaProductsSpec)

/-- 'halfplanelaw35.EtaOperations', WHERE WHAT IT READS IS OF BULK AT MOST 1048576: true; the input reads as it did. -/
def etaOperationsUptoRow : OpenClaim := { program := "ytbajpjjbaffnnaagreat", sum := "a27317fe5eda1603ee7377d4cfc0bd15528f61bfba3690c8d27c1f2de62174f2", func := "halfplane/halfplanelaw35.EtaOperations", spec := "etaOperations", unfollowed := true, recurses := true, named := ["math/bits.overflowError"], apart := false, narrowed := true }
def EtaOperationsUptoSaid : Prop := etaOperationsUptoRow.holds Tryz.pinned (OpenSpec.upto etaOperationsSpec)

/-- 'halfplanelaw35.EtaRaised', WHERE WHAT IT READS IS OF BULK AT MOST 1048576: true; the input reads as it did. -/
def etaRaisedUptoRow : OpenClaim := { program := "ytbajpjjbaffnnaagreat", sum := "a27317fe5eda1603ee7377d4cfc0bd15528f61bfba3690c8d27c1f2de62174f2", func := "halfplane/halfplanelaw35.EtaRaised", spec := "etaRaised", unfollowed := true, recurses := true, named := ["math/bits.overflowError"], apart := false, narrowed := true }
def EtaRaisedUptoSaid : Prop := etaRaisedUptoRow.holds Tryz.pinned (OpenSpec.upto etaRaisedSpec)

/-- 'halfplanelaw35.EtaLists', WHERE WHAT IT READS IS OF BULK AT MOST 1048576: true; the input reads as it did. -/
def etaListsUptoRow : OpenClaim := { program := "ytbajpjjbaffnnaagreat", sum := "a27317fe5eda1603ee7377d4cfc0bd15528f61bfba3690c8d27c1f2de62174f2", func := "halfplane/halfplanelaw35.EtaLists", spec := "etaLists", unfollowed := true, recurses := true, named := ["math/bits.overflowError"], apart := false, narrowed := true }
def EtaListsUptoSaid : Prop := etaListsUptoRow.holds Tryz.pinned (OpenSpec.upto etaListsSpec)

end Rows
end Go.Proofs.YtbajpjjbaffnnaaGreat
