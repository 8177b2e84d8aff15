/-
  No cell of these rows narrows 'for every input' (looked for: loops, veiled, ifaces, maps, wideKeys, modest, calm, conditions, laid).
  DERIVED. THE GIVEN ROWS OF THIS SEAT. 3 by the template 'for every input the law returns true; each argument reads behind the call as it read before'; 0 by the template 'total and deterministic' (their statements: YtpkjokknpbclhaaGreatTotals.lean).
  GIVEN WITH THE SEED: the statements are not yours to turn. If you find one false, say at which input.
  Laid BY PROGRAM, IN A SANDBOX (cutbox-rows.mjs): the forced cells as the released guide's own fill.sh prints them over the translation 91553061b7fddf6e… (all of the seat's roots in one cut). By AI agents, Wed Nov 11 2026. No macro, syntax, notation, axiom, sorry.
-/
import Derived.Test.YtpkjokknpbclhaaGreatChecked
import GoSem.Claim
import GoSem.ClaimJoined
import GoSem.ClaimMapViews
import Derived.JoinedTies
import Derived.KernelRfl
namespace Go.Proofs.YtpkjokknpbclhaaGreat
/- THE CELL 'sum', in the pinned program and in every row, IS THE sha256 OF THE DUMP (.gsa) THAT YtpkjokknpbclhaaGreatProg.lean LOADS. Nothing in Lean hashes anything: it is a label: what it is worth is what the hold of that sum in a sandbox is worth. -/
noncomputable def Tryz.pinned : Pinned := { name := "ytpkjokknpbclhaagreat", sum := "91553061b7fddf6eae059aef699cae89395b8f8468502f5af36a04569daf959c", checked := Tryz.checked }
namespace Rows
def none {H : Type} : Left H := { results := [], args := [] }

/-- 'halfplanelaw29.GausssumGauss': WHATEVER THE INPUT: true; the input reads as it did. -/
def gausssumGaussSpec : ChangeSpec := { name := "gausssumGauss", fn := fun _ => fun
  | [d] => { results := [.lit (.bool true)], args := [d] }
  | _ => none }
def gausssumGaussRow : OpenClaim := { program := "ytpkjokknpbclhaagreat", sum := "91553061b7fddf6eae059aef699cae89395b8f8468502f5af36a04569daf959c", func := "halfplane/halfplanelaw29.GausssumGauss", spec := "gausssumGauss", unfollowed := true, recurses := true, named := ["math/bits.overflowError"], apart := false }
def GausssumGaussSaid : Prop := gausssumGaussRow.holds Tryz.pinned (OpenSpec.ofChange gausssumGaussSpec)

/-- ITS FALSE NEIGHBOUR: 'it returns false'. Refute it at one input. -/
def gausssumGaussWrong : ChangeSpec := { name := "gausssumGauss", fn := fun _ => fun
  | [d] => { results := [.lit (.bool false)], args := [d] }
  | _ => none }
def GausssumGaussWrongFalsely : Prop := gausssumGaussRow.holds Tryz.pinned (OpenSpec.ofChange gausssumGaussWrong)

/-- 'halfplanelaw29.GausssumJacobi': WHATEVER THE INPUT: true; the input reads as it did. -/
def gausssumJacobiSpec : ChangeSpec := { name := "gausssumJacobi", fn := fun _ => fun
  | [d1, d2] => { results := [.lit (.bool true)], args := [d1, d2] }
  | _ => none }
def gausssumJacobiRow : OpenClaim := { program := "ytpkjokknpbclhaagreat", sum := "91553061b7fddf6eae059aef699cae89395b8f8468502f5af36a04569daf959c", func := "halfplane/halfplanelaw29.GausssumJacobi", spec := "gausssumJacobi", unfollowed := true, recurses := true, named := ["math/bits.overflowError"], apart := false }
def GausssumJacobiSaid : Prop := gausssumJacobiRow.holds Tryz.pinned (OpenSpec.ofChange gausssumJacobiSpec)

/-- ITS FALSE NEIGHBOUR: 'it returns false'. Refute it at one input. -/
def gausssumJacobiWrong : ChangeSpec := { name := "gausssumJacobi", fn := fun _ => fun
  | [d1, d2] => { results := [.lit (.bool false)], args := [d1, d2] }
  | _ => none }
def GausssumJacobiWrongFalsely : Prop := gausssumJacobiRow.holds Tryz.pinned (OpenSpec.ofChange gausssumJacobiWrong)

/-- 'halfplanelaw29.GausssumProducts': WHATEVER THE INPUT: true; the input reads as it did. -/
def gausssumProductsSpec : ChangeSpec := { name := "gausssumProducts", fn := fun _ => fun
  | [d1, d2] => { results := [.lit (.bool true)], args := [d1, d2] }
  | _ => none }
def gausssumProductsRow : OpenClaim := { program := "ytpkjokknpbclhaagreat", sum := "91553061b7fddf6eae059aef699cae89395b8f8468502f5af36a04569daf959c", func := "halfplane/halfplanelaw29.GausssumProducts", spec := "gausssumProducts", unfollowed := true, recurses := true, named := ["math/bits.overflowError"], apart := false }
def GausssumProductsSaid : Prop := gausssumProductsRow.holds Tryz.pinned (OpenSpec.ofChange gausssumProductsSpec)

/-- ITS FALSE NEIGHBOUR: 'it returns false'. Refute it at one input. -/
def gausssumProductsWrong : ChangeSpec := { name := "gausssumProducts", fn := fun _ => fun
  | [d1, d2] => { results := [.lit (.bool false)], args := [d1, d2] }
  | _ => none }
def GausssumProductsWrongFalsely : Prop := gausssumProductsRow.holds Tryz.pinned (OpenSpec.ofChange gausssumProductsWrong)

/- THE SECOND FORM. 'bulk': how many values and letters a reading holds, each counted each time it is reached (what is shared counts as often as it is met; a slice's spare places count too). A statement '..UptoSaid' is the law's where the arguments, and the package variables that the reading takes, are together of bulk at most 1048576: NARROWER than '..Said'. Prove '..Said' where nothing that the law and all that it calls make is longer than what came in: it says more and counts as full. Else prove '..UptoSaid'. A law counts once. -/
mutual
def uptoBulk {H : Type} : DataW H → Nat
  | .lit (.string bytes) => bytes.length + 1
  | .lit _ => 1
  | .nil => 1
  | .ptr d => uptoBulk d + 1
  | .slice elems spare => uptoBulkAll elems + uptoBulkAll spare + 1
  | .agg parts => uptoBulkAll parts + 1
  | .iface _ d => uptoBulk d + 1
  | .map entries => uptoBulkEntries entries + 1
  | .held _ => 1
def uptoBulkAll {H : Type} : List (DataW H) → Nat
  | [] => 0
  | d :: r => uptoBulk d + uptoBulkAll r
def uptoBulkEntries {H : Type} : List (Lit × DataW H) → Nat
  | [] => 0
  | x :: r => uptoBulkEntry x + uptoBulkEntries r
def uptoBulkEntry {H : Type} : Lit × DataW H → Nat
  | (.string bytes, d) => bytes.length + uptoBulk d + 1
  | (_, d) => uptoBulk d + 1
 end
def uptoSmall : (H : Type) → List (DataW H) → Bool := fun _ ds => decide (uptoBulkAll ds ≤ 1048576)
def OpenSpec.upto (s : _root_.Go.ChangeSpec) : _root_.Go.OpenSpec := { _root_.Go.OpenSpec.ofChange s with cond := some uptoSmall }

/-- 'halfplanelaw29.GausssumGauss', WHERE WHAT IT READS IS OF BULK AT MOST 1048576: true; the input reads as it did. -/
def gausssumGaussUptoRow : OpenClaim := { program := "ytpkjokknpbclhaagreat", sum := "91553061b7fddf6eae059aef699cae89395b8f8468502f5af36a04569daf959c", func := "halfplane/halfplanelaw29.GausssumGauss", spec := "gausssumGauss", unfollowed := true, recurses := true, named := ["math/bits.overflowError"], apart := false, narrowed := true }
def GausssumGaussUptoSaid : Prop := gausssumGaussUptoRow.holds Tryz.pinned (OpenSpec.upto gausssumGaussSpec)

/-- 'halfplanelaw29.GausssumJacobi', WHERE WHAT IT READS IS OF BULK AT MOST 1048576: true; the input reads as it did. -/
def gausssumJacobiUptoRow : OpenClaim := { program := "ytpkjokknpbclhaagreat", sum := "91553061b7fddf6eae059aef699cae89395b8f8468502f5af36a04569daf959c", func := "halfplane/halfplanelaw29.GausssumJacobi", spec := "gausssumJacobi", unfollowed := true, recurses := true, named := ["math/bits.overflowError"], apart := false, narrowed := true }
def GausssumJacobiUptoSaid : Prop := gausssumJacobiUptoRow.holds Tryz.pinned (OpenSpec.upto gausssumJacobiSpec)

/-- 'halfplanelaw29.GausssumProducts', WHERE WHAT IT READS IS OF BULK AT MOST 1048576: true; the input reads as it did. -/
def gausssumProductsUptoRow : OpenClaim := { program := "ytpkjokknpbclhaagreat", sum := "91553061b7fddf6eae059aef699cae89395b8f8468502f5af36a04569daf959c", func := "halfplane/halfplanelaw29.GausssumProducts", spec := "gausssumProducts", unfollowed := true, recurses := true, named := ["math/bits.overflowError"], apart := false, narrowed := true }
def GausssumProductsUptoSaid : Prop := gausssumProductsUptoRow.holds Tryz.pinned (OpenSpec.upto gausssumProductsSpec)

end Rows
end Go.Proofs.YtpkjokknpbclhaaGreat
