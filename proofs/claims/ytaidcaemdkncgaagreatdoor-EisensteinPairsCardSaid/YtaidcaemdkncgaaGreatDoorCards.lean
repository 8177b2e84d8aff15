/-
  DERIVED. GIVEN WITH THE SEED: THE CARDS: each row of YtaidcaemdkncgaaGreatDoorRows.lean that lists a variable, with what it lists TIED to the program's text (the seventh form; the later family's looks); each row that meets fmt, with fmt's text TOLD by the authors' own Lean function (tested against real Go, not proved from fmt's source: count such statements apart). THE CARD IS WHAT COUNTS. Prove the row's statement (the work); the ties are given (YtaidcaemdkncgaaGreatDoorTie.lean); close each card by the builder's one call (the guide's Derived/Test/ToyasCard.lean, 'card_holds'). Laid BY PROGRAM, IN A SANDBOX (cutbox-door.mjs). By AI agents, Wed Nov 11 2026. No macro, syntax, notation, axiom, sorry.
-/
import Derived.Test.YtaidcaemdkncgaaGreatDoorRows
import GoSem.ClaimSeven
namespace Go.Proofs.YtaidcaemdkncgaaGreatDoor
namespace Rows

/-- THE TIED CARD OF 'halfplanelaw29.GausssumSquares'. -/
def gausssumSquaresCard : Claim7 := { stood := { row := gausssumSquaresRow, standIns := [], harness := (true, "c8a0186bfe35e414c40a27484d40a863bdb042bf8102b263c69c9d60748783d6"), looks := false }, kinds := [], alts := [], laidByText := true, laidKinds := [.data], laidTests := true, laidLooks := .later }
def GausssumSquaresCardSaid : Prop := Claim7.holds Tryz.pinned (.plain (OpenSpec.ofChange gausssumSquaresSpec)) gausssumSquaresCard

/-- THE TIED CARD OF 'halfplanelaw30.BernoulliCharacters'. -/
def bernoulliCharactersCard : Claim7 := { stood := { row := bernoulliCharactersRow, standIns := [], harness := (true, "c8a0186bfe35e414c40a27484d40a863bdb042bf8102b263c69c9d60748783d6"), looks := false }, kinds := [], alts := [], laidByText := true, laidKinds := [.data], laidTests := true, laidLooks := .later }
def BernoulliCharactersCardSaid : Prop := Claim7.holds Tryz.pinned (.plain (OpenSpec.ofChange bernoulliCharactersSpec)) bernoulliCharactersCard

/-- THE TIED CARD OF 'halfplanelaw30.BernoulliAgree'. -/
def bernoulliAgreeCard : Claim7 := { stood := { row := bernoulliAgreeRow, standIns := [], harness := (true, "c8a0186bfe35e414c40a27484d40a863bdb042bf8102b263c69c9d60748783d6"), looks := false }, kinds := [], alts := [], laidByText := true, laidKinds := [.data], laidTests := true, laidLooks := .later }
def BernoulliAgreeCardSaid : Prop := Claim7.holds Tryz.pinned (.plain (OpenSpec.ofChange bernoulliAgreeSpec)) bernoulliAgreeCard

/-- THE TIED CARD OF 'halfplanelaw30.BernoulliParity'. -/
def bernoulliParityCard : Claim7 := { stood := { row := bernoulliParityRow, standIns := [], harness := (true, "c8a0186bfe35e414c40a27484d40a863bdb042bf8102b263c69c9d60748783d6"), looks := false }, kinds := [], alts := [], laidByText := true, laidKinds := [.data], laidTests := true, laidLooks := .later }
def BernoulliParityCardSaid : Prop := Claim7.holds Tryz.pinned (.plain (OpenSpec.ofChange bernoulliParitySpec)) bernoulliParityCard

/-- THE TIED CARD OF 'halfplanelaw34.EisensteinSeries'. -/
def eisensteinSeriesCard : Claim7 := { stood := { row := eisensteinSeriesRow, standIns := [], harness := (true, "c8a0186bfe35e414c40a27484d40a863bdb042bf8102b263c69c9d60748783d6"), looks := false }, kinds := [], alts := [], laidByText := true, laidKinds := [.data], laidTests := true, laidLooks := .later }
def EisensteinSeriesCardSaid : Prop := Claim7.holds Tryz.pinned (.plain (OpenSpec.ofChange eisensteinSeriesSpec)) eisensteinSeriesCard

/-- THE TIED CARD OF 'halfplanelaw34.EisensteinPairs'. -/
def eisensteinPairsCard : Claim7 := { stood := { row := eisensteinPairsRow, standIns := [], harness := (true, "c8a0186bfe35e414c40a27484d40a863bdb042bf8102b263c69c9d60748783d6"), looks := false }, kinds := [], alts := [], laidByText := true, laidKinds := [.data], laidTests := true, laidLooks := .later }
def EisensteinPairsCardSaid : Prop := Claim7.holds Tryz.pinned (.plain (OpenSpec.ofChange eisensteinPairsSpec)) eisensteinPairsCard

/-- THE TIED CARD OF 'halfplanelaw34.EisensteinDimension'. -/
def eisensteinDimensionCard : Claim7 := { stood := { row := eisensteinDimensionRow, standIns := [], harness := (true, "c8a0186bfe35e414c40a27484d40a863bdb042bf8102b263c69c9d60748783d6"), looks := false }, kinds := [], alts := [], laidByText := true, laidKinds := [.data], laidTests := true, laidLooks := .later }
def EisensteinDimensionCardSaid : Prop := Claim7.holds Tryz.pinned (.plain (OpenSpec.ofChange eisensteinDimensionSpec)) eisensteinDimensionCard

/-- THE SECOND FORM's CARD OF 'halfplanelaw29.GausssumSquares'. -/
def gausssumSquaresUptoCard : Claim7 := { stood := { row := gausssumSquaresUptoRow, standIns := [], harness := (true, "c8a0186bfe35e414c40a27484d40a863bdb042bf8102b263c69c9d60748783d6"), looks := false }, kinds := [], alts := [], laidByText := true, laidKinds := [.data], laidTests := true, laidLooks := .later }
def GausssumSquaresUptoCardSaid : Prop := Claim7.holds Tryz.pinned (.plain (OpenSpec.upto gausssumSquaresSpec)) gausssumSquaresUptoCard

/-- THE SECOND FORM's CARD OF 'halfplanelaw30.BernoulliCharacters'. -/
def bernoulliCharactersUptoCard : Claim7 := { stood := { row := bernoulliCharactersUptoRow, standIns := [], harness := (true, "c8a0186bfe35e414c40a27484d40a863bdb042bf8102b263c69c9d60748783d6"), looks := false }, kinds := [], alts := [], laidByText := true, laidKinds := [.data], laidTests := true, laidLooks := .later }
def BernoulliCharactersUptoCardSaid : Prop := Claim7.holds Tryz.pinned (.plain (OpenSpec.upto bernoulliCharactersSpec)) bernoulliCharactersUptoCard

/-- THE SECOND FORM's CARD OF 'halfplanelaw30.BernoulliAgree'. -/
def bernoulliAgreeUptoCard : Claim7 := { stood := { row := bernoulliAgreeUptoRow, standIns := [], harness := (true, "c8a0186bfe35e414c40a27484d40a863bdb042bf8102b263c69c9d60748783d6"), looks := false }, kinds := [], alts := [], laidByText := true, laidKinds := [.data], laidTests := true, laidLooks := .later }
def BernoulliAgreeUptoCardSaid : Prop := Claim7.holds Tryz.pinned (.plain (OpenSpec.upto bernoulliAgreeSpec)) bernoulliAgreeUptoCard

/-- THE SECOND FORM's CARD OF 'halfplanelaw30.BernoulliParity'. -/
def bernoulliParityUptoCard : Claim7 := { stood := { row := bernoulliParityUptoRow, standIns := [], harness := (true, "c8a0186bfe35e414c40a27484d40a863bdb042bf8102b263c69c9d60748783d6"), looks := false }, kinds := [], alts := [], laidByText := true, laidKinds := [.data], laidTests := true, laidLooks := .later }
def BernoulliParityUptoCardSaid : Prop := Claim7.holds Tryz.pinned (.plain (OpenSpec.upto bernoulliParitySpec)) bernoulliParityUptoCard

/-- THE SECOND FORM's CARD OF 'halfplanelaw34.EisensteinSeries'. -/
def eisensteinSeriesUptoCard : Claim7 := { stood := { row := eisensteinSeriesUptoRow, standIns := [], harness := (true, "c8a0186bfe35e414c40a27484d40a863bdb042bf8102b263c69c9d60748783d6"), looks := false }, kinds := [], alts := [], laidByText := true, laidKinds := [.data], laidTests := true, laidLooks := .later }
def EisensteinSeriesUptoCardSaid : Prop := Claim7.holds Tryz.pinned (.plain (OpenSpec.upto eisensteinSeriesSpec)) eisensteinSeriesUptoCard

/-- THE SECOND FORM's CARD OF 'halfplanelaw34.EisensteinPairs'. -/
def eisensteinPairsUptoCard : Claim7 := { stood := { row := eisensteinPairsUptoRow, standIns := [], harness := (true, "c8a0186bfe35e414c40a27484d40a863bdb042bf8102b263c69c9d60748783d6"), looks := false }, kinds := [], alts := [], laidByText := true, laidKinds := [.data], laidTests := true, laidLooks := .later }
def EisensteinPairsUptoCardSaid : Prop := Claim7.holds Tryz.pinned (.plain (OpenSpec.upto eisensteinPairsSpec)) eisensteinPairsUptoCard

/-- THE SECOND FORM's CARD OF 'halfplanelaw34.EisensteinDimension'. -/
def eisensteinDimensionUptoCard : Claim7 := { stood := { row := eisensteinDimensionUptoRow, standIns := [], harness := (true, "c8a0186bfe35e414c40a27484d40a863bdb042bf8102b263c69c9d60748783d6"), looks := false }, kinds := [], alts := [], laidByText := true, laidKinds := [.data], laidTests := true, laidLooks := .later }
def EisensteinDimensionUptoCardSaid : Prop := Claim7.holds Tryz.pinned (.plain (OpenSpec.upto eisensteinDimensionSpec)) eisensteinDimensionUptoCard
end Rows
end Go.Proofs.YtaidcaemdkncgaaGreatDoor
