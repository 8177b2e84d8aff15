/-
  NARROWER THAN 'FOR EVERY INPUT', by the rows' own cells (each row's printed sentence says how): BernoulliNumbers: laid · BernoulliKummer: laid · BernoulliQuadratic: laid · BernoulliPolynomials: laid · BernoulliDifferences: laid · BernoulliSums: laid · BernoulliStaudt: laid.
  DERIVED. THE GIVEN ROWS OF THIS SEAT. 7 by the template 'for every input the law returns true; each argument reads behind the call as it read before'; 0 by the template 'total and deterministic' (their statements: YtmblfadpimfagaaGreatDoorTotals.lean).
  GIVEN WITH THE SEED: the statements are not yours to turn. If you find one false, say at which input.
  Laid BY PROGRAM, IN A SANDBOX (cutbox-rows.mjs): the forced cells as the released guide's own fill.sh prints them over the translation 663da5a9597d6f43… (all of the seat's roots in one cut). By AI agents, Wed Nov 11 2026. No macro, syntax, notation, axiom, sorry.
-/
import Derived.Test.YtmblfadpimfagaaGreatDoorChecked
import GoSem.Claim
import GoSem.ClaimJoined
import GoSem.ClaimMapViews
import Derived.JoinedTies
import Derived.KernelRfl
namespace Go.Proofs.YtmblfadpimfagaaGreatDoor
/- THE CELL 'sum', in the pinned program and in every row, IS THE sha256 OF THE DUMP (.gsa) THAT YtmblfadpimfagaaGreatDoorProg.lean LOADS. Nothing in Lean hashes anything: it is a label: what it is worth is what the hold of that sum in a sandbox is worth. -/
noncomputable def Tryz.pinned : Pinned := { name := "ytmblfadpimfagaagreatdoor", sum := "663da5a9597d6f4367745f3cdc2229fbe2977063ad2f90d7889ffab0ffdd398a", checked := Tryz.checked }
namespace Rows
def none {H : Type} : Left H := { results := [], args := [] }

/- WHAT THE LISTED PACKAGE-LEVEL VARIABLES READ AS WHEN THE CALL BEGINS. Each datum BY PROGRAM (the guide's laid-datum.mjs) off the statement by which the dump's own 'gosem.cut.vars' lays the variable. In a bare row this is a premise. The card (YtmblfadpimfagaaGreatDoorCards.lean) ties it to the program's text. -/
def laid_math_bits_deBruijn64tab {H : Type} : DataW H := .agg [.lit (.int .u8 0), .lit (.int .u8 1), .lit (.int .u8 56), .lit (.int .u8 2), .lit (.int .u8 57), .lit (.int .u8 49), .lit (.int .u8 28), .lit (.int .u8 3), .lit (.int .u8 61), .lit (.int .u8 58), .lit (.int .u8 42), .lit (.int .u8 50), .lit (.int .u8 38), .lit (.int .u8 29), .lit (.int .u8 17), .lit (.int .u8 4), .lit (.int .u8 62), .lit (.int .u8 47), .lit (.int .u8 59), .lit (.int .u8 36), .lit (.int .u8 45), .lit (.int .u8 43), .lit (.int .u8 51), .lit (.int .u8 22), .lit (.int .u8 53), .lit (.int .u8 39), .lit (.int .u8 33), .lit (.int .u8 30), .lit (.int .u8 24), .lit (.int .u8 18), .lit (.int .u8 12), .lit (.int .u8 5), .lit (.int .u8 63), .lit (.int .u8 55), .lit (.int .u8 48), .lit (.int .u8 27), .lit (.int .u8 60), .lit (.int .u8 41), .lit (.int .u8 37), .lit (.int .u8 16), .lit (.int .u8 46), .lit (.int .u8 35), .lit (.int .u8 44), .lit (.int .u8 21), .lit (.int .u8 52), .lit (.int .u8 32), .lit (.int .u8 23), .lit (.int .u8 11), .lit (.int .u8 54), .lit (.int .u8 26), .lit (.int .u8 40), .lit (.int .u8 15), .lit (.int .u8 34), .lit (.int .u8 20), .lit (.int .u8 31), .lit (.int .u8 10), .lit (.int .u8 25), .lit (.int .u8 14), .lit (.int .u8 19), .lit (.int .u8 9), .lit (.int .u8 13), .lit (.int .u8 8), .lit (.int .u8 7), .lit (.int .u8 6)]

/-- 'halfplanelaw30.BernoulliNumbers': WHATEVER THE INPUT: true; the input reads as it did. -/
def bernoulliNumbersSpec : ChangeSpec := { name := "bernoulliNumbers", fn := fun _ => fun
  | [d] => { results := [.lit (.bool true)], args := [d] }
  | _ => none }
def bernoulliNumbersRow : OpenClaim := { program := "ytmblfadpimfagaagreatdoor", sum := "663da5a9597d6f4367745f3cdc2229fbe2977063ad2f90d7889ffab0ffdd398a", func := "halfplane/halfplanelaw30.BernoulliNumbers", spec := "bernoulliNumbers", unfollowed := true, recurses := true, named := ["math/bits.overflowError", "math/bits.deBruijn64tab"], apart := false, laid := [("math/bits.deBruijn64tab", laid_math_bits_deBruijn64tab)] }
def BernoulliNumbersSaid : Prop := bernoulliNumbersRow.holds Tryz.pinned (OpenSpec.ofChange bernoulliNumbersSpec)

/-- ITS FALSE NEIGHBOUR: 'it returns false'. Refute it at one input. -/
def bernoulliNumbersWrong : ChangeSpec := { name := "bernoulliNumbers", fn := fun _ => fun
  | [d] => { results := [.lit (.bool false)], args := [d] }
  | _ => none }
def BernoulliNumbersWrongFalsely : Prop := bernoulliNumbersRow.holds Tryz.pinned (OpenSpec.ofChange bernoulliNumbersWrong)

/-- 'halfplanelaw30.BernoulliKummer': WHATEVER THE INPUT: true; the input reads as it did. -/
def bernoulliKummerSpec : ChangeSpec := { name := "bernoulliKummer", fn := fun _ => fun
  | [d1, d2, d3] => { results := [.lit (.bool true)], args := [d1, d2, d3] }
  | _ => none }
def bernoulliKummerRow : OpenClaim := { program := "ytmblfadpimfagaagreatdoor", sum := "663da5a9597d6f4367745f3cdc2229fbe2977063ad2f90d7889ffab0ffdd398a", func := "halfplane/halfplanelaw30.BernoulliKummer", spec := "bernoulliKummer", unfollowed := true, recurses := true, named := ["math/bits.overflowError", "math/bits.deBruijn64tab"], apart := false, laid := [("math/bits.deBruijn64tab", laid_math_bits_deBruijn64tab)] }
def BernoulliKummerSaid : Prop := bernoulliKummerRow.holds Tryz.pinned (OpenSpec.ofChange bernoulliKummerSpec)

/-- ITS FALSE NEIGHBOUR: 'it returns false'. Refute it at one input. -/
def bernoulliKummerWrong : ChangeSpec := { name := "bernoulliKummer", fn := fun _ => fun
  | [d1, d2, d3] => { results := [.lit (.bool false)], args := [d1, d2, d3] }
  | _ => none }
def BernoulliKummerWrongFalsely : Prop := bernoulliKummerRow.holds Tryz.pinned (OpenSpec.ofChange bernoulliKummerWrong)

/-- 'halfplanelaw30.BernoulliQuadratic': WHATEVER THE INPUT: true; the input reads as it did. -/
def bernoulliQuadraticSpec : ChangeSpec := { name := "bernoulliQuadratic", fn := fun _ => fun
  | [d1, d2] => { results := [.lit (.bool true)], args := [d1, d2] }
  | _ => none }
def bernoulliQuadraticRow : OpenClaim := { program := "ytmblfadpimfagaagreatdoor", sum := "663da5a9597d6f4367745f3cdc2229fbe2977063ad2f90d7889ffab0ffdd398a", func := "halfplane/halfplanelaw30.BernoulliQuadratic", spec := "bernoulliQuadratic", unfollowed := true, recurses := true, named := ["math/bits.overflowError", "math/bits.deBruijn64tab"], apart := false, laid := [("math/bits.deBruijn64tab", laid_math_bits_deBruijn64tab)] }
def BernoulliQuadraticSaid : Prop := bernoulliQuadraticRow.holds Tryz.pinned (OpenSpec.ofChange bernoulliQuadraticSpec)

/-- ITS FALSE NEIGHBOUR: 'it returns false'. Refute it at one input. -/
def bernoulliQuadraticWrong : ChangeSpec := { name := "bernoulliQuadratic", fn := fun _ => fun
  | [d1, d2] => { results := [.lit (.bool false)], args := [d1, d2] }
  | _ => none }
def BernoulliQuadraticWrongFalsely : Prop := bernoulliQuadraticRow.holds Tryz.pinned (OpenSpec.ofChange bernoulliQuadraticWrong)

/-- 'halfplanelaw30.BernoulliPolynomials': WHATEVER THE INPUT: true; the input reads as it did. -/
def bernoulliPolynomialsSpec : ChangeSpec := { name := "bernoulliPolynomials", fn := fun _ => fun
  | [d] => { results := [.lit (.bool true)], args := [d] }
  | _ => none }
def bernoulliPolynomialsRow : OpenClaim := { program := "ytmblfadpimfagaagreatdoor", sum := "663da5a9597d6f4367745f3cdc2229fbe2977063ad2f90d7889ffab0ffdd398a", func := "halfplane/halfplanelaw30.BernoulliPolynomials", spec := "bernoulliPolynomials", unfollowed := true, recurses := true, named := ["math/bits.overflowError", "math/bits.deBruijn64tab"], apart := false, laid := [("math/bits.deBruijn64tab", laid_math_bits_deBruijn64tab)] }
def BernoulliPolynomialsSaid : Prop := bernoulliPolynomialsRow.holds Tryz.pinned (OpenSpec.ofChange bernoulliPolynomialsSpec)

/-- ITS FALSE NEIGHBOUR: 'it returns false'. Refute it at one input. -/
def bernoulliPolynomialsWrong : ChangeSpec := { name := "bernoulliPolynomials", fn := fun _ => fun
  | [d] => { results := [.lit (.bool false)], args := [d] }
  | _ => none }
def BernoulliPolynomialsWrongFalsely : Prop := bernoulliPolynomialsRow.holds Tryz.pinned (OpenSpec.ofChange bernoulliPolynomialsWrong)

/-- 'halfplanelaw30.BernoulliDifferences': WHATEVER THE INPUT: true; the input reads as it did. -/
def bernoulliDifferencesSpec : ChangeSpec := { name := "bernoulliDifferences", fn := fun _ => fun
  | [d1, d2] => { results := [.lit (.bool true)], args := [d1, d2] }
  | _ => none }
def bernoulliDifferencesRow : OpenClaim := { program := "ytmblfadpimfagaagreatdoor", sum := "663da5a9597d6f4367745f3cdc2229fbe2977063ad2f90d7889ffab0ffdd398a", func := "halfplane/halfplanelaw30.BernoulliDifferences", spec := "bernoulliDifferences", unfollowed := true, recurses := true, named := ["math/bits.overflowError", "math/bits.deBruijn64tab"], apart := false, laid := [("math/bits.deBruijn64tab", laid_math_bits_deBruijn64tab)] }
def BernoulliDifferencesSaid : Prop := bernoulliDifferencesRow.holds Tryz.pinned (OpenSpec.ofChange bernoulliDifferencesSpec)

/-- ITS FALSE NEIGHBOUR: 'it returns false'. Refute it at one input. -/
def bernoulliDifferencesWrong : ChangeSpec := { name := "bernoulliDifferences", fn := fun _ => fun
  | [d1, d2] => { results := [.lit (.bool false)], args := [d1, d2] }
  | _ => none }
def BernoulliDifferencesWrongFalsely : Prop := bernoulliDifferencesRow.holds Tryz.pinned (OpenSpec.ofChange bernoulliDifferencesWrong)

/-- 'halfplanelaw30.BernoulliSums': WHATEVER THE INPUT: true; the input reads as it did. -/
def bernoulliSumsSpec : ChangeSpec := { name := "bernoulliSums", fn := fun _ => fun
  | [d1, d2] => { results := [.lit (.bool true)], args := [d1, d2] }
  | _ => none }
def bernoulliSumsRow : OpenClaim := { program := "ytmblfadpimfagaagreatdoor", sum := "663da5a9597d6f4367745f3cdc2229fbe2977063ad2f90d7889ffab0ffdd398a", func := "halfplane/halfplanelaw30.BernoulliSums", spec := "bernoulliSums", unfollowed := true, recurses := true, named := ["math/bits.overflowError", "math/bits.deBruijn64tab"], apart := false, laid := [("math/bits.deBruijn64tab", laid_math_bits_deBruijn64tab)] }
def BernoulliSumsSaid : Prop := bernoulliSumsRow.holds Tryz.pinned (OpenSpec.ofChange bernoulliSumsSpec)

/-- ITS FALSE NEIGHBOUR: 'it returns false'. Refute it at one input. -/
def bernoulliSumsWrong : ChangeSpec := { name := "bernoulliSums", fn := fun _ => fun
  | [d1, d2] => { results := [.lit (.bool false)], args := [d1, d2] }
  | _ => none }
def BernoulliSumsWrongFalsely : Prop := bernoulliSumsRow.holds Tryz.pinned (OpenSpec.ofChange bernoulliSumsWrong)

/-- 'halfplanelaw30.BernoulliStaudt': WHATEVER THE INPUT: true; the input reads as it did. -/
def bernoulliStaudtSpec : ChangeSpec := { name := "bernoulliStaudt", fn := fun _ => fun
  | [d] => { results := [.lit (.bool true)], args := [d] }
  | _ => none }
def bernoulliStaudtRow : OpenClaim := { program := "ytmblfadpimfagaagreatdoor", sum := "663da5a9597d6f4367745f3cdc2229fbe2977063ad2f90d7889ffab0ffdd398a", func := "halfplane/halfplanelaw30.BernoulliStaudt", spec := "bernoulliStaudt", unfollowed := true, recurses := true, named := ["math/bits.overflowError", "math/bits.deBruijn64tab"], apart := false, laid := [("math/bits.deBruijn64tab", laid_math_bits_deBruijn64tab)] }
def BernoulliStaudtSaid : Prop := bernoulliStaudtRow.holds Tryz.pinned (OpenSpec.ofChange bernoulliStaudtSpec)

/-- ITS FALSE NEIGHBOUR: 'it returns false'. Refute it at one input. -/
def bernoulliStaudtWrong : ChangeSpec := { name := "bernoulliStaudt", fn := fun _ => fun
  | [d] => { results := [.lit (.bool false)], args := [d] }
  | _ => none }
def BernoulliStaudtWrongFalsely : Prop := bernoulliStaudtRow.holds Tryz.pinned (OpenSpec.ofChange bernoulliStaudtWrong)

/- THE SECOND FORM. 'bulk': how many values and letters a reading holds, each counted each time it is reached (what is shared counts as often as it is met; a slice's spare places count too). A statement '..UptoSaid' is the law's where the arguments, and the package variables that the reading takes, are together of bulk at most 1048576: NARROWER than '..Said'. Prove '..Said' where nothing that the law and all that it calls make is longer than what came in: it says more and counts as full. Else prove '..UptoSaid'. A law counts once. -/
mutual
def uptoBulk {H : Type} : DataW H → Nat
  | .lit (.string bytes) => bytes.length + 1
  | .lit _ => 1
  | .nil => 1
  | .ptr d => uptoBulk d + 1
  | .slice elems spare => uptoBulkAll elems + uptoBulkAll spare + 1
  | .agg parts => uptoBulkAll parts + 1
  | .iface _ d => uptoBulk d + 1
  | .map entries => uptoBulkEntries entries + 1
  | .held _ => 1
def uptoBulkAll {H : Type} : List (DataW H) → Nat
  | [] => 0
  | d :: r => uptoBulk d + uptoBulkAll r
def uptoBulkEntries {H : Type} : List (Lit × DataW H) → Nat
  | [] => 0
  | x :: r => uptoBulkEntry x + uptoBulkEntries r
def uptoBulkEntry {H : Type} : Lit × DataW H → Nat
  | (.string bytes, d) => bytes.length + uptoBulk d + 1
  | (_, d) => uptoBulk d + 1
 end
def uptoSmall : (H : Type) → List (DataW H) → Bool := fun _ ds => decide (uptoBulkAll ds ≤ 1048576)
def OpenSpec.upto (s : _root_.Go.ChangeSpec) : _root_.Go.OpenSpec := { _root_.Go.OpenSpec.ofChange s with cond := some uptoSmall }

/-- 'halfplanelaw30.BernoulliNumbers', WHERE WHAT IT READS IS OF BULK AT MOST 1048576: true; the input reads as it did. -/
def bernoulliNumbersUptoRow : OpenClaim := { program := "ytmblfadpimfagaagreatdoor", sum := "663da5a9597d6f4367745f3cdc2229fbe2977063ad2f90d7889ffab0ffdd398a", func := "halfplane/halfplanelaw30.BernoulliNumbers", spec := "bernoulliNumbers", unfollowed := true, recurses := true, named := ["math/bits.overflowError", "math/bits.deBruijn64tab"], apart := false, laid := [("math/bits.deBruijn64tab", laid_math_bits_deBruijn64tab)], narrowed := true }
def BernoulliNumbersUptoSaid : Prop := bernoulliNumbersUptoRow.holds Tryz.pinned (OpenSpec.upto bernoulliNumbersSpec)

/-- 'halfplanelaw30.BernoulliKummer', WHERE WHAT IT READS IS OF BULK AT MOST 1048576: true; the input reads as it did. -/
def bernoulliKummerUptoRow : OpenClaim := { program := "ytmblfadpimfagaagreatdoor", sum := "663da5a9597d6f4367745f3cdc2229fbe2977063ad2f90d7889ffab0ffdd398a", func := "halfplane/halfplanelaw30.BernoulliKummer", spec := "bernoulliKummer", unfollowed := true, recurses := true, named := ["math/bits.overflowError", "math/bits.deBruijn64tab"], apart := false, laid := [("math/bits.deBruijn64tab", laid_math_bits_deBruijn64tab)], narrowed := true }
def BernoulliKummerUptoSaid : Prop := bernoulliKummerUptoRow.holds Tryz.pinned (OpenSpec.upto bernoulliKummerSpec)

/-- 'halfplanelaw30.BernoulliQuadratic', WHERE WHAT IT READS IS OF BULK AT MOST 1048576: true; the input reads as it did. -/
def bernoulliQuadraticUptoRow : OpenClaim := { program := "ytmblfadpimfagaagreatdoor", sum := "663da5a9597d6f4367745f3cdc2229fbe2977063ad2f90d7889ffab0ffdd398a", func := "halfplane/halfplanelaw30.BernoulliQuadratic", spec := "bernoulliQuadratic", unfollowed := true, recurses := true, named := ["math/bits.overflowError", "math/bits.deBruijn64tab"], apart := false, laid := [("math/bits.deBruijn64tab", laid_math_bits_deBruijn64tab)], narrowed := true }
def BernoulliQuadraticUptoSaid : Prop := bernoulliQuadraticUptoRow.holds Tryz.pinned (OpenSpec.upto bernoulliQuadraticSpec)

/-- 'halfplanelaw30.BernoulliPolynomials', WHERE WHAT IT READS IS OF BULK AT MOST 1048576: true; the input reads as it did. -/
def bernoulliPolynomialsUptoRow : OpenClaim := { program := "ytmblfadpimfagaagreatdoor", sum := "663da5a9597d6f4367745f3cdc2229fbe2977063ad2f90d7889ffab0ffdd398a", func := "halfplane/halfplanelaw30.BernoulliPolynomials", spec := "bernoulliPolynomials", unfollowed := true, recurses := true, named := ["math/bits.overflowError", "math/bits.deBruijn64tab"], apart := false, laid := [("math/bits.deBruijn64tab", laid_math_bits_deBruijn64tab)], narrowed := true }
def BernoulliPolynomialsUptoSaid : Prop := bernoulliPolynomialsUptoRow.holds Tryz.pinned (OpenSpec.upto bernoulliPolynomialsSpec)

/-- 'halfplanelaw30.BernoulliDifferences', WHERE WHAT IT READS IS OF BULK AT MOST 1048576: true; the input reads as it did. -/
def bernoulliDifferencesUptoRow : OpenClaim := { program := "ytmblfadpimfagaagreatdoor", sum := "663da5a9597d6f4367745f3cdc2229fbe2977063ad2f90d7889ffab0ffdd398a", func := "halfplane/halfplanelaw30.BernoulliDifferences", spec := "bernoulliDifferences", unfollowed := true, recurses := true, named := ["math/bits.overflowError", "math/bits.deBruijn64tab"], apart := false, laid := [("math/bits.deBruijn64tab", laid_math_bits_deBruijn64tab)], narrowed := true }
def BernoulliDifferencesUptoSaid : Prop := bernoulliDifferencesUptoRow.holds Tryz.pinned (OpenSpec.upto bernoulliDifferencesSpec)

/-- 'halfplanelaw30.BernoulliSums', WHERE WHAT IT READS IS OF BULK AT MOST 1048576: true; the input reads as it did. -/
def bernoulliSumsUptoRow : OpenClaim := { program := "ytmblfadpimfagaagreatdoor", sum := "663da5a9597d6f4367745f3cdc2229fbe2977063ad2f90d7889ffab0ffdd398a", func := "halfplane/halfplanelaw30.BernoulliSums", spec := "bernoulliSums", unfollowed := true, recurses := true, named := ["math/bits.overflowError", "math/bits.deBruijn64tab"], apart := false, laid := [("math/bits.deBruijn64tab", laid_math_bits_deBruijn64tab)], narrowed := true }
def BernoulliSumsUptoSaid : Prop := bernoulliSumsUptoRow.holds Tryz.pinned (OpenSpec.upto bernoulliSumsSpec)

/-- 'halfplanelaw30.BernoulliStaudt', WHERE WHAT IT READS IS OF BULK AT MOST 1048576: true; the input reads as it did. -/
def bernoulliStaudtUptoRow : OpenClaim := { program := "ytmblfadpimfagaagreatdoor", sum := "663da5a9597d6f4367745f3cdc2229fbe2977063ad2f90d7889ffab0ffdd398a", func := "halfplane/halfplanelaw30.BernoulliStaudt", spec := "bernoulliStaudt", unfollowed := true, recurses := true, named := ["math/bits.overflowError", "math/bits.deBruijn64tab"], apart := false, laid := [("math/bits.deBruijn64tab", laid_math_bits_deBruijn64tab)], narrowed := true }
def BernoulliStaudtUptoSaid : Prop := bernoulliStaudtUptoRow.holds Tryz.pinned (OpenSpec.upto bernoulliStaudtSpec)

end Rows
end Go.Proofs.YtmblfadpimfagaaGreatDoor
