/-
  DERIVED. GIVEN WITH THE SEED: THE CARDS: each row of YtmblfadpimfagaaGreatDoorRows.lean that lists a variable, with what it lists TIED to the program's text (the seventh form; the later family's looks); each row that meets fmt, with fmt's text TOLD by the authors' own Lean function (tested against real Go, not proved from fmt's source: count such statements apart). THE CARD IS WHAT COUNTS. Prove the row's statement (the work); the ties are given (YtmblfadpimfagaaGreatDoorTie.lean); close each card by the builder's one call (the guide's Derived/Test/ToyasCard.lean, 'card_holds'). Laid BY PROGRAM, IN A SANDBOX (cutbox-door.mjs). By AI agents, Wed Nov 11 2026. No macro, syntax, notation, axiom, sorry.
-/
import Derived.Test.YtmblfadpimfagaaGreatDoorRows
import GoSem.ClaimSeven
namespace Go.Proofs.YtmblfadpimfagaaGreatDoor
namespace Rows

/-- THE TIED CARD OF 'halfplanelaw30.BernoulliNumbers'. -/
def bernoulliNumbersCard : Claim7 := { stood := { row := bernoulliNumbersRow, standIns := [], harness := (true, "1e520de6e26b657bbe980b59ba893b900eabd282b7cf5d3447377af18ed90ad7"), looks := false }, kinds := [], alts := [], laidByText := true, laidKinds := [.data], laidTests := true, laidLooks := .later }
def BernoulliNumbersCardSaid : Prop := Claim7.holds Tryz.pinned (.plain (OpenSpec.ofChange bernoulliNumbersSpec)) bernoulliNumbersCard

/-- THE TIED CARD OF 'halfplanelaw30.BernoulliKummer'. -/
def bernoulliKummerCard : Claim7 := { stood := { row := bernoulliKummerRow, standIns := [], harness := (true, "1e520de6e26b657bbe980b59ba893b900eabd282b7cf5d3447377af18ed90ad7"), looks := false }, kinds := [], alts := [], laidByText := true, laidKinds := [.data], laidTests := true, laidLooks := .later }
def BernoulliKummerCardSaid : Prop := Claim7.holds Tryz.pinned (.plain (OpenSpec.ofChange bernoulliKummerSpec)) bernoulliKummerCard

/-- THE TIED CARD OF 'halfplanelaw30.BernoulliQuadratic'. -/
def bernoulliQuadraticCard : Claim7 := { stood := { row := bernoulliQuadraticRow, standIns := [], harness := (true, "1e520de6e26b657bbe980b59ba893b900eabd282b7cf5d3447377af18ed90ad7"), looks := false }, kinds := [], alts := [], laidByText := true, laidKinds := [.data], laidTests := true, laidLooks := .later }
def BernoulliQuadraticCardSaid : Prop := Claim7.holds Tryz.pinned (.plain (OpenSpec.ofChange bernoulliQuadraticSpec)) bernoulliQuadraticCard

/-- THE TIED CARD OF 'halfplanelaw30.BernoulliPolynomials'. -/
def bernoulliPolynomialsCard : Claim7 := { stood := { row := bernoulliPolynomialsRow, standIns := [], harness := (true, "1e520de6e26b657bbe980b59ba893b900eabd282b7cf5d3447377af18ed90ad7"), looks := false }, kinds := [], alts := [], laidByText := true, laidKinds := [.data], laidTests := true, laidLooks := .later }
def BernoulliPolynomialsCardSaid : Prop := Claim7.holds Tryz.pinned (.plain (OpenSpec.ofChange bernoulliPolynomialsSpec)) bernoulliPolynomialsCard

/-- THE TIED CARD OF 'halfplanelaw30.BernoulliDifferences'. -/
def bernoulliDifferencesCard : Claim7 := { stood := { row := bernoulliDifferencesRow, standIns := [], harness := (true, "1e520de6e26b657bbe980b59ba893b900eabd282b7cf5d3447377af18ed90ad7"), looks := false }, kinds := [], alts := [], laidByText := true, laidKinds := [.data], laidTests := true, laidLooks := .later }
def BernoulliDifferencesCardSaid : Prop := Claim7.holds Tryz.pinned (.plain (OpenSpec.ofChange bernoulliDifferencesSpec)) bernoulliDifferencesCard

/-- THE TIED CARD OF 'halfplanelaw30.BernoulliSums'. -/
def bernoulliSumsCard : Claim7 := { stood := { row := bernoulliSumsRow, standIns := [], harness := (true, "1e520de6e26b657bbe980b59ba893b900eabd282b7cf5d3447377af18ed90ad7"), looks := false }, kinds := [], alts := [], laidByText := true, laidKinds := [.data], laidTests := true, laidLooks := .later }
def BernoulliSumsCardSaid : Prop := Claim7.holds Tryz.pinned (.plain (OpenSpec.ofChange bernoulliSumsSpec)) bernoulliSumsCard

/-- THE TIED CARD OF 'halfplanelaw30.BernoulliStaudt'. -/
def bernoulliStaudtCard : Claim7 := { stood := { row := bernoulliStaudtRow, standIns := [], harness := (true, "1e520de6e26b657bbe980b59ba893b900eabd282b7cf5d3447377af18ed90ad7"), looks := false }, kinds := [], alts := [], laidByText := true, laidKinds := [.data], laidTests := true, laidLooks := .later }
def BernoulliStaudtCardSaid : Prop := Claim7.holds Tryz.pinned (.plain (OpenSpec.ofChange bernoulliStaudtSpec)) bernoulliStaudtCard

/-- THE SECOND FORM's CARD OF 'halfplanelaw30.BernoulliNumbers'. -/
def bernoulliNumbersUptoCard : Claim7 := { stood := { row := bernoulliNumbersUptoRow, standIns := [], harness := (true, "1e520de6e26b657bbe980b59ba893b900eabd282b7cf5d3447377af18ed90ad7"), looks := false }, kinds := [], alts := [], laidByText := true, laidKinds := [.data], laidTests := true, laidLooks := .later }
def BernoulliNumbersUptoCardSaid : Prop := Claim7.holds Tryz.pinned (.plain (OpenSpec.upto bernoulliNumbersSpec)) bernoulliNumbersUptoCard

/-- THE SECOND FORM's CARD OF 'halfplanelaw30.BernoulliKummer'. -/
def bernoulliKummerUptoCard : Claim7 := { stood := { row := bernoulliKummerUptoRow, standIns := [], harness := (true, "1e520de6e26b657bbe980b59ba893b900eabd282b7cf5d3447377af18ed90ad7"), looks := false }, kinds := [], alts := [], laidByText := true, laidKinds := [.data], laidTests := true, laidLooks := .later }
def BernoulliKummerUptoCardSaid : Prop := Claim7.holds Tryz.pinned (.plain (OpenSpec.upto bernoulliKummerSpec)) bernoulliKummerUptoCard

/-- THE SECOND FORM's CARD OF 'halfplanelaw30.BernoulliQuadratic'. -/
def bernoulliQuadraticUptoCard : Claim7 := { stood := { row := bernoulliQuadraticUptoRow, standIns := [], harness := (true, "1e520de6e26b657bbe980b59ba893b900eabd282b7cf5d3447377af18ed90ad7"), looks := false }, kinds := [], alts := [], laidByText := true, laidKinds := [.data], laidTests := true, laidLooks := .later }
def BernoulliQuadraticUptoCardSaid : Prop := Claim7.holds Tryz.pinned (.plain (OpenSpec.upto bernoulliQuadraticSpec)) bernoulliQuadraticUptoCard

/-- THE SECOND FORM's CARD OF 'halfplanelaw30.BernoulliPolynomials'. -/
def bernoulliPolynomialsUptoCard : Claim7 := { stood := { row := bernoulliPolynomialsUptoRow, standIns := [], harness := (true, "1e520de6e26b657bbe980b59ba893b900eabd282b7cf5d3447377af18ed90ad7"), looks := false }, kinds := [], alts := [], laidByText := true, laidKinds := [.data], laidTests := true, laidLooks := .later }
def BernoulliPolynomialsUptoCardSaid : Prop := Claim7.holds Tryz.pinned (.plain (OpenSpec.upto bernoulliPolynomialsSpec)) bernoulliPolynomialsUptoCard

/-- THE SECOND FORM's CARD OF 'halfplanelaw30.BernoulliDifferences'. -/
def bernoulliDifferencesUptoCard : Claim7 := { stood := { row := bernoulliDifferencesUptoRow, standIns := [], harness := (true, "1e520de6e26b657bbe980b59ba893b900eabd282b7cf5d3447377af18ed90ad7"), looks := false }, kinds := [], alts := [], laidByText := true, laidKinds := [.data], laidTests := true, laidLooks := .later }
def BernoulliDifferencesUptoCardSaid : Prop := Claim7.holds Tryz.pinned (.plain (OpenSpec.upto bernoulliDifferencesSpec)) bernoulliDifferencesUptoCard

/-- THE SECOND FORM's CARD OF 'halfplanelaw30.BernoulliSums'. -/
def bernoulliSumsUptoCard : Claim7 := { stood := { row := bernoulliSumsUptoRow, standIns := [], harness := (true, "1e520de6e26b657bbe980b59ba893b900eabd282b7cf5d3447377af18ed90ad7"), looks := false }, kinds := [], alts := [], laidByText := true, laidKinds := [.data], laidTests := true, laidLooks := .later }
def BernoulliSumsUptoCardSaid : Prop := Claim7.holds Tryz.pinned (.plain (OpenSpec.upto bernoulliSumsSpec)) bernoulliSumsUptoCard

/-- THE SECOND FORM's CARD OF 'halfplanelaw30.BernoulliStaudt'. -/
def bernoulliStaudtUptoCard : Claim7 := { stood := { row := bernoulliStaudtUptoRow, standIns := [], harness := (true, "1e520de6e26b657bbe980b59ba893b900eabd282b7cf5d3447377af18ed90ad7"), looks := false }, kinds := [], alts := [], laidByText := true, laidKinds := [.data], laidTests := true, laidLooks := .later }
def BernoulliStaudtUptoCardSaid : Prop := Claim7.holds Tryz.pinned (.plain (OpenSpec.upto bernoulliStaudtSpec)) bernoulliStaudtUptoCard
end Rows
end Go.Proofs.YtmblfadpimfagaaGreatDoor
