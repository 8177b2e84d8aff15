/-
  NARROWER THAN 'FOR EVERY INPUT', by the rows' own cells (each row's printed sentence says how): GausssumSquares: laid · BernoulliCharacters: laid · BernoulliAgree: laid · BernoulliParity: laid · EisensteinSeries: laid · EisensteinPairs: laid · EisensteinDimension: laid.
  DERIVED. THE GIVEN ROWS OF THIS SEAT. 7 by the template 'for every input the law returns true; each argument reads behind the call as it read before'; 0 by the template 'total and deterministic' (their statements: YtaidcaemdkncgaaGreatDoorTotals.lean).
  GIVEN WITH THE SEED: the statements are not yours to turn. If you find one false, say at which input.
  Laid BY PROGRAM, IN A SANDBOX (cutbox-rows.mjs): the forced cells as the released guide's own fill.sh prints them over the translation cbfb8c4bc856b668… (all of the seat's roots in one cut). By AI agents, Wed Nov 11 2026. No macro, syntax, notation, axiom, sorry.
-/
import Derived.Test.YtaidcaemdkncgaaGreatDoorChecked
import GoSem.Claim
import GoSem.ClaimJoined
import GoSem.ClaimMapViews
import Derived.JoinedTies
import Derived.KernelRfl
namespace Go.Proofs.YtaidcaemdkncgaaGreatDoor
/- THE CELL 'sum', in the pinned program and in every row, IS THE sha256 OF THE DUMP (.gsa) THAT YtaidcaemdkncgaaGreatDoorProg.lean LOADS. Nothing in Lean hashes anything: it is a label: what it is worth is what the hold of that sum in a sandbox is worth. -/
noncomputable def Tryz.pinned : Pinned := { name := "ytaidcaemdkncgaagreatdoor", sum := "cbfb8c4bc856b6687bd2119a9c6f3ac72090a2b930c02ad25086f0e3ffdc3eb4", checked := Tryz.checked }
namespace Rows
def none {H : Type} : Left H := { results := [], args := [] }

/- WHAT THE LISTED PACKAGE-LEVEL VARIABLES READ AS WHEN THE CALL BEGINS. Each datum BY PROGRAM (the guide's laid-datum.mjs) off the statement by which the dump's own 'gosem.cut.vars' lays the variable. In a bare row this is a premise. The card (YtaidcaemdkncgaaGreatDoorCards.lean) ties it to the program's text. -/
def laid_math_bits_deBruijn64tab {H : Type} : DataW H := .agg [.lit (.int .u8 0), .lit (.int .u8 1), .lit (.int .u8 56), .lit (.int .u8 2), .lit (.int .u8 57), .lit (.int .u8 49), .lit (.int .u8 28), .lit (.int .u8 3), .lit (.int .u8 61), .lit (.int .u8 58), .lit (.int .u8 42), .lit (.int .u8 50), .lit (.int .u8 38), .lit (.int .u8 29), .lit (.int .u8 17), .lit (.int .u8 4), .lit (.int .u8 62), .lit (.int .u8 47), .lit (.int .u8 59), .lit (.int .u8 36), .lit (.int .u8 45), .lit (.int .u8 43), .lit (.int .u8 51), .lit (.int .u8 22), .lit (.int .u8 53), .lit (.int .u8 39), .lit (.int .u8 33), .lit (.int .u8 30), .lit (.int .u8 24), .lit (.int .u8 18), .lit (.int .u8 12), .lit (.int .u8 5), .lit (.int .u8 63), .lit (.int .u8 55), .lit (.int .u8 48), .lit (.int .u8 27), .lit (.int .u8 60), .lit (.int .u8 41), .lit (.int .u8 37), .lit (.int .u8 16), .lit (.int .u8 46), .lit (.int .u8 35), .lit (.int .u8 44), .lit (.int .u8 21), .lit (.int .u8 52), .lit (.int .u8 32), .lit (.int .u8 23), .lit (.int .u8 11), .lit (.int .u8 54), .lit (.int .u8 26), .lit (.int .u8 40), .lit (.int .u8 15), .lit (.int .u8 34), .lit (.int .u8 20), .lit (.int .u8 31), .lit (.int .u8 10), .lit (.int .u8 25), .lit (.int .u8 14), .lit (.int .u8 19), .lit (.int .u8 9), .lit (.int .u8 13), .lit (.int .u8 8), .lit (.int .u8 7), .lit (.int .u8 6)]

/-- 'halfplanelaw29.GausssumSquares': WHATEVER THE INPUT: true; the input reads as it did. -/
def gausssumSquaresSpec : ChangeSpec := { name := "gausssumSquares", fn := fun _ => fun
  | [d] => { results := [.lit (.bool true)], args := [d] }
  | _ => none }
def gausssumSquaresRow : OpenClaim := { program := "ytaidcaemdkncgaagreatdoor", sum := "cbfb8c4bc856b6687bd2119a9c6f3ac72090a2b930c02ad25086f0e3ffdc3eb4", func := "halfplane/halfplanelaw29.GausssumSquares", spec := "gausssumSquares", unfollowed := true, recurses := true, named := ["math/bits.overflowError", "math/bits.deBruijn64tab"], apart := false, laid := [("math/bits.deBruijn64tab", laid_math_bits_deBruijn64tab)] }
def GausssumSquaresSaid : Prop := gausssumSquaresRow.holds Tryz.pinned (OpenSpec.ofChange gausssumSquaresSpec)

/-- ITS FALSE NEIGHBOUR: 'it returns false'. Refute it at one input. -/
def gausssumSquaresWrong : ChangeSpec := { name := "gausssumSquares", fn := fun _ => fun
  | [d] => { results := [.lit (.bool false)], args := [d] }
  | _ => none }
def GausssumSquaresWrongFalsely : Prop := gausssumSquaresRow.holds Tryz.pinned (OpenSpec.ofChange gausssumSquaresWrong)

/-- 'halfplanelaw30.BernoulliCharacters': WHATEVER THE INPUT: true; the input reads as it did. -/
def bernoulliCharactersSpec : ChangeSpec := { name := "bernoulliCharacters", fn := fun _ => fun
  | [d1, d2] => { results := [.lit (.bool true)], args := [d1, d2] }
  | _ => none }
def bernoulliCharactersRow : OpenClaim := { program := "ytaidcaemdkncgaagreatdoor", sum := "cbfb8c4bc856b6687bd2119a9c6f3ac72090a2b930c02ad25086f0e3ffdc3eb4", func := "halfplane/halfplanelaw30.BernoulliCharacters", spec := "bernoulliCharacters", unfollowed := true, recurses := true, named := ["math/bits.overflowError", "math/bits.deBruijn64tab"], apart := false, laid := [("math/bits.deBruijn64tab", laid_math_bits_deBruijn64tab)] }
def BernoulliCharactersSaid : Prop := bernoulliCharactersRow.holds Tryz.pinned (OpenSpec.ofChange bernoulliCharactersSpec)

/-- ITS FALSE NEIGHBOUR: 'it returns false'. Refute it at one input. -/
def bernoulliCharactersWrong : ChangeSpec := { name := "bernoulliCharacters", fn := fun _ => fun
  | [d1, d2] => { results := [.lit (.bool false)], args := [d1, d2] }
  | _ => none }
def BernoulliCharactersWrongFalsely : Prop := bernoulliCharactersRow.holds Tryz.pinned (OpenSpec.ofChange bernoulliCharactersWrong)

/-- 'halfplanelaw30.BernoulliAgree': WHATEVER THE INPUT: true; the input reads as it did. -/
def bernoulliAgreeSpec : ChangeSpec := { name := "bernoulliAgree", fn := fun _ => fun
  | [d1, d2] => { results := [.lit (.bool true)], args := [d1, d2] }
  | _ => none }
def bernoulliAgreeRow : OpenClaim := { program := "ytaidcaemdkncgaagreatdoor", sum := "cbfb8c4bc856b6687bd2119a9c6f3ac72090a2b930c02ad25086f0e3ffdc3eb4", func := "halfplane/halfplanelaw30.BernoulliAgree", spec := "bernoulliAgree", unfollowed := true, recurses := true, named := ["math/bits.overflowError", "math/bits.deBruijn64tab"], apart := false, laid := [("math/bits.deBruijn64tab", laid_math_bits_deBruijn64tab)] }
def BernoulliAgreeSaid : Prop := bernoulliAgreeRow.holds Tryz.pinned (OpenSpec.ofChange bernoulliAgreeSpec)

/-- ITS FALSE NEIGHBOUR: 'it returns false'. Refute it at one input. -/
def bernoulliAgreeWrong : ChangeSpec := { name := "bernoulliAgree", fn := fun _ => fun
  | [d1, d2] => { results := [.lit (.bool false)], args := [d1, d2] }
  | _ => none }
def BernoulliAgreeWrongFalsely : Prop := bernoulliAgreeRow.holds Tryz.pinned (OpenSpec.ofChange bernoulliAgreeWrong)

/-- 'halfplanelaw30.BernoulliParity': WHATEVER THE INPUT: true; the input reads as it did. -/
def bernoulliParitySpec : ChangeSpec := { name := "bernoulliParity", fn := fun _ => fun
  | [d1, d2] => { results := [.lit (.bool true)], args := [d1, d2] }
  | _ => none }
def bernoulliParityRow : OpenClaim := { program := "ytaidcaemdkncgaagreatdoor", sum := "cbfb8c4bc856b6687bd2119a9c6f3ac72090a2b930c02ad25086f0e3ffdc3eb4", func := "halfplane/halfplanelaw30.BernoulliParity", spec := "bernoulliParity", unfollowed := true, recurses := true, named := ["math/bits.overflowError", "math/bits.deBruijn64tab"], apart := false, laid := [("math/bits.deBruijn64tab", laid_math_bits_deBruijn64tab)] }
def BernoulliParitySaid : Prop := bernoulliParityRow.holds Tryz.pinned (OpenSpec.ofChange bernoulliParitySpec)

/-- ITS FALSE NEIGHBOUR: 'it returns false'. Refute it at one input. -/
def bernoulliParityWrong : ChangeSpec := { name := "bernoulliParity", fn := fun _ => fun
  | [d1, d2] => { results := [.lit (.bool false)], args := [d1, d2] }
  | _ => none }
def BernoulliParityWrongFalsely : Prop := bernoulliParityRow.holds Tryz.pinned (OpenSpec.ofChange bernoulliParityWrong)

/-- 'halfplanelaw34.EisensteinSeries': WHATEVER THE INPUT: true; the input reads as it did. -/
def eisensteinSeriesSpec : ChangeSpec := { name := "eisensteinSeries", fn := fun _ => fun
  | [d1, d2, d3] => { results := [.lit (.bool true)], args := [d1, d2, d3] }
  | _ => none }
def eisensteinSeriesRow : OpenClaim := { program := "ytaidcaemdkncgaagreatdoor", sum := "cbfb8c4bc856b6687bd2119a9c6f3ac72090a2b930c02ad25086f0e3ffdc3eb4", func := "halfplane/halfplanelaw34.EisensteinSeries", spec := "eisensteinSeries", unfollowed := true, recurses := true, named := ["math/bits.deBruijn64tab", "math/bits.overflowError"], apart := false, laid := [("math/bits.deBruijn64tab", laid_math_bits_deBruijn64tab)] }
def EisensteinSeriesSaid : Prop := eisensteinSeriesRow.holds Tryz.pinned (OpenSpec.ofChange eisensteinSeriesSpec)

/-- ITS FALSE NEIGHBOUR: 'it returns false'. Refute it at one input. -/
def eisensteinSeriesWrong : ChangeSpec := { name := "eisensteinSeries", fn := fun _ => fun
  | [d1, d2, d3] => { results := [.lit (.bool false)], args := [d1, d2, d3] }
  | _ => none }
def EisensteinSeriesWrongFalsely : Prop := eisensteinSeriesRow.holds Tryz.pinned (OpenSpec.ofChange eisensteinSeriesWrong)

/-- 'halfplanelaw34.EisensteinPairs': WHATEVER THE INPUT: true; the input reads as it did. -/
def eisensteinPairsSpec : ChangeSpec := { name := "eisensteinPairs", fn := fun _ => fun
  | [d1, d2] => { results := [.lit (.bool true)], args := [d1, d2] }
  | _ => none }
def eisensteinPairsRow : OpenClaim := { program := "ytaidcaemdkncgaagreatdoor", sum := "cbfb8c4bc856b6687bd2119a9c6f3ac72090a2b930c02ad25086f0e3ffdc3eb4", func := "halfplane/halfplanelaw34.EisensteinPairs", spec := "eisensteinPairs", unfollowed := true, recurses := true, named := ["math/bits.deBruijn64tab", "math/bits.overflowError"], apart := false, laid := [("math/bits.deBruijn64tab", laid_math_bits_deBruijn64tab)] }
def EisensteinPairsSaid : Prop := eisensteinPairsRow.holds Tryz.pinned (OpenSpec.ofChange eisensteinPairsSpec)

/-- ITS FALSE NEIGHBOUR: 'it returns false'. Refute it at one input. -/
def eisensteinPairsWrong : ChangeSpec := { name := "eisensteinPairs", fn := fun _ => fun
  | [d1, d2] => { results := [.lit (.bool false)], args := [d1, d2] }
  | _ => none }
def EisensteinPairsWrongFalsely : Prop := eisensteinPairsRow.holds Tryz.pinned (OpenSpec.ofChange eisensteinPairsWrong)

/-- 'halfplanelaw34.EisensteinDimension': WHATEVER THE INPUT: true; the input reads as it did. -/
def eisensteinDimensionSpec : ChangeSpec := { name := "eisensteinDimension", fn := fun _ => fun
  | [d1, d2] => { results := [.lit (.bool true)], args := [d1, d2] }
  | _ => none }
def eisensteinDimensionRow : OpenClaim := { program := "ytaidcaemdkncgaagreatdoor", sum := "cbfb8c4bc856b6687bd2119a9c6f3ac72090a2b930c02ad25086f0e3ffdc3eb4", func := "halfplane/halfplanelaw34.EisensteinDimension", spec := "eisensteinDimension", unfollowed := true, recurses := true, named := ["math/bits.deBruijn64tab", "math/bits.overflowError"], apart := false, laid := [("math/bits.deBruijn64tab", laid_math_bits_deBruijn64tab)] }
def EisensteinDimensionSaid : Prop := eisensteinDimensionRow.holds Tryz.pinned (OpenSpec.ofChange eisensteinDimensionSpec)

/-- ITS FALSE NEIGHBOUR: 'it returns false'. Refute it at one input. -/
def eisensteinDimensionWrong : ChangeSpec := { name := "eisensteinDimension", fn := fun _ => fun
  | [d1, d2] => { results := [.lit (.bool false)], args := [d1, d2] }
  | _ => none }
def EisensteinDimensionWrongFalsely : Prop := eisensteinDimensionRow.holds Tryz.pinned (OpenSpec.ofChange eisensteinDimensionWrong)

/- THE SECOND FORM. 'bulk': how many values and letters a reading holds, each counted each time it is reached (what is shared counts as often as it is met; a slice's spare places count too). A statement '..UptoSaid' is the law's where the arguments, and the package variables that the reading takes, are together of bulk at most 1048576: NARROWER than '..Said'. Prove '..Said' where nothing that the law and all that it calls make is longer than what came in: it says more and counts as full. Else prove '..UptoSaid'. A law counts once. -/
mutual
def uptoBulk {H : Type} : DataW H → Nat
  | .lit (.string bytes) => bytes.length + 1
  | .lit _ => 1
  | .nil => 1
  | .ptr d => uptoBulk d + 1
  | .slice elems spare => uptoBulkAll elems + uptoBulkAll spare + 1
  | .agg parts => uptoBulkAll parts + 1
  | .iface _ d => uptoBulk d + 1
  | .map entries => uptoBulkEntries entries + 1
  | .held _ => 1
def uptoBulkAll {H : Type} : List (DataW H) → Nat
  | [] => 0
  | d :: r => uptoBulk d + uptoBulkAll r
def uptoBulkEntries {H : Type} : List (Lit × DataW H) → Nat
  | [] => 0
  | x :: r => uptoBulkEntry x + uptoBulkEntries r
def uptoBulkEntry {H : Type} : Lit × DataW H → Nat
  | (.string bytes, d) => bytes.length + uptoBulk d + 1
  | (_, d) => uptoBulk d + 1
 end
def uptoSmall : (H : Type) → List (DataW H) → Bool := fun _ ds => decide (uptoBulkAll ds ≤ 1048576)
def OpenSpec.upto (s : _root_.Go.ChangeSpec) : _root_.Go.OpenSpec := { _root_.Go.OpenSpec.ofChange s with cond := some uptoSmall }

/-- 'halfplanelaw29.GausssumSquares', WHERE WHAT IT READS IS OF BULK AT MOST 1048576: true; the input reads as it did. -/
def gausssumSquaresUptoRow : OpenClaim := { program := "ytaidcaemdkncgaagreatdoor", sum := "cbfb8c4bc856b6687bd2119a9c6f3ac72090a2b930c02ad25086f0e3ffdc3eb4", func := "halfplane/halfplanelaw29.GausssumSquares", spec := "gausssumSquares", unfollowed := true, recurses := true, named := ["math/bits.overflowError", "math/bits.deBruijn64tab"], apart := false, laid := [("math/bits.deBruijn64tab", laid_math_bits_deBruijn64tab)], narrowed := true }
def GausssumSquaresUptoSaid : Prop := gausssumSquaresUptoRow.holds Tryz.pinned (OpenSpec.upto gausssumSquaresSpec)

/-- 'halfplanelaw30.BernoulliCharacters', WHERE WHAT IT READS IS OF BULK AT MOST 1048576: true; the input reads as it did. -/
def bernoulliCharactersUptoRow : OpenClaim := { program := "ytaidcaemdkncgaagreatdoor", sum := "cbfb8c4bc856b6687bd2119a9c6f3ac72090a2b930c02ad25086f0e3ffdc3eb4", func := "halfplane/halfplanelaw30.BernoulliCharacters", spec := "bernoulliCharacters", unfollowed := true, recurses := true, named := ["math/bits.overflowError", "math/bits.deBruijn64tab"], apart := false, laid := [("math/bits.deBruijn64tab", laid_math_bits_deBruijn64tab)], narrowed := true }
def BernoulliCharactersUptoSaid : Prop := bernoulliCharactersUptoRow.holds Tryz.pinned (OpenSpec.upto bernoulliCharactersSpec)

/-- 'halfplanelaw30.BernoulliAgree', WHERE WHAT IT READS IS OF BULK AT MOST 1048576: true; the input reads as it did. -/
def bernoulliAgreeUptoRow : OpenClaim := { program := "ytaidcaemdkncgaagreatdoor", sum := "cbfb8c4bc856b6687bd2119a9c6f3ac72090a2b930c02ad25086f0e3ffdc3eb4", func := "halfplane/halfplanelaw30.BernoulliAgree", spec := "bernoulliAgree", unfollowed := true, recurses := true, named := ["math/bits.overflowError", "math/bits.deBruijn64tab"], apart := false, laid := [("math/bits.deBruijn64tab", laid_math_bits_deBruijn64tab)], narrowed := true }
def BernoulliAgreeUptoSaid : Prop := bernoulliAgreeUptoRow.holds Tryz.pinned (OpenSpec.upto bernoulliAgreeSpec)

/-- 'halfplanelaw30.BernoulliParity', WHERE WHAT IT READS IS OF BULK AT MOST 1048576: true; the input reads as it did. -/
def bernoulliParityUptoRow : OpenClaim := { program := "ytaidcaemdkncgaagreatdoor", sum := "cbfb8c4bc856b6687bd2119a9c6f3ac72090a2b930c02ad25086f0e3ffdc3eb4", func := "halfplane/halfplanelaw30.BernoulliParity", spec := "bernoulliParity", unfollowed := true, recurses := true, named := ["math/bits.overflowError", "math/bits.deBruijn64tab"], apart := false, laid := [("math/bits.deBruijn64tab", laid_math_bits_deBruijn64tab)], narrowed := true }
def BernoulliParityUptoSaid : Prop := bernoulliParityUptoRow.holds Tryz.pinned (OpenSpec.upto bernoulliParitySpec)

/-- 'halfplanelaw34.EisensteinSeries', WHERE WHAT IT READS IS OF BULK AT MOST 1048576: true; the input reads as it did. -/
def eisensteinSeriesUptoRow : OpenClaim := { program := "ytaidcaemdkncgaagreatdoor", sum := "cbfb8c4bc856b6687bd2119a9c6f3ac72090a2b930c02ad25086f0e3ffdc3eb4", func := "halfplane/halfplanelaw34.EisensteinSeries", spec := "eisensteinSeries", unfollowed := true, recurses := true, named := ["math/bits.deBruijn64tab", "math/bits.overflowError"], apart := false, laid := [("math/bits.deBruijn64tab", laid_math_bits_deBruijn64tab)], narrowed := true }
def EisensteinSeriesUptoSaid : Prop := eisensteinSeriesUptoRow.holds Tryz.pinned (OpenSpec.upto eisensteinSeriesSpec)

/-- 'halfplanelaw34.EisensteinPairs', WHERE WHAT IT READS IS OF BULK AT MOST 1048576: true; the input reads as it did. -/
def eisensteinPairsUptoRow : OpenClaim := { program := "ytaidcaemdkncgaagreatdoor", sum := "cbfb8c4bc856b6687bd2119a9c6f3ac72090a2b930c02ad25086f0e3ffdc3eb4", func := "halfplane/halfplanelaw34.EisensteinPairs", spec := "eisensteinPairs", unfollowed := true, recurses := true, named := ["math/bits.deBruijn64tab", "math/bits.overflowError"], apart := false, laid := [("math/bits.deBruijn64tab", laid_math_bits_deBruijn64tab)], narrowed := true }
def EisensteinPairsUptoSaid : Prop := eisensteinPairsUptoRow.holds Tryz.pinned (OpenSpec.upto eisensteinPairsSpec)

/-- 'halfplanelaw34.EisensteinDimension', WHERE WHAT IT READS IS OF BULK AT MOST 1048576: true; the input reads as it did. -/
def eisensteinDimensionUptoRow : OpenClaim := { program := "ytaidcaemdkncgaagreatdoor", sum := "cbfb8c4bc856b6687bd2119a9c6f3ac72090a2b930c02ad25086f0e3ffdc3eb4", func := "halfplane/halfplanelaw34.EisensteinDimension", spec := "eisensteinDimension", unfollowed := true, recurses := true, named := ["math/bits.deBruijn64tab", "math/bits.overflowError"], apart := false, laid := [("math/bits.deBruijn64tab", laid_math_bits_deBruijn64tab)], narrowed := true }
def EisensteinDimensionUptoSaid : Prop := eisensteinDimensionUptoRow.holds Tryz.pinned (OpenSpec.upto eisensteinDimensionSpec)

end Rows
end Go.Proofs.YtaidcaemdkncgaaGreatDoor
