/-
  DERIVED. GIVEN WITH THE SEED: THE CARDS: each row of YteecamhdbilmoaaGreatDoorRows.lean that lists a variable, with what it lists TIED to the program's text (the seventh form; the later family's looks); each row that meets fmt, with fmt's text TOLD by the authors' own Lean function (tested against real Go, not proved from fmt's source: count such statements apart). THE CARD IS WHAT COUNTS. Prove the row's statement (the work); the ties are given (YteecamhdbilmoaaGreatDoorTie.lean); close each card by the builder's one call (the guide's Derived/Test/ToyasCard.lean, 'card_holds'). Laid BY PROGRAM, IN A SANDBOX (cutbox-door.mjs). By AI agents, Wed Nov 11 2026. No macro, syntax, notation, axiom, sorry.
-/
import Derived.Test.YteecamhdbilmoaaGreatDoorRows
import GoSem.ClaimSeven
namespace Go.Proofs.YteecamhdbilmoaaGreatDoor
namespace Rows

/-- THE TIED CARD OF 'halfplanelaw34.EisensteinLevelOne'. -/
def eisensteinLevelOneCard : Claim7 := { stood := { row := eisensteinLevelOneRow, standIns := [], harness := (true, "3ec25015ac38c1c132ef9f8ab68e49508e5d4b5cf03cd378265797a155da627f"), looks := false }, kinds := [], alts := [], laidByText := true, laidKinds := [.data], laidTests := true, laidLooks := .later }
def EisensteinLevelOneCardSaid : Prop := Claim7.holds Tryz.pinned (.plain (OpenSpec.ofChange eisensteinLevelOneSpec)) eisensteinLevelOneCard

/-- THE TIED CARD OF 'halfplanelaw34.EisensteinReal'. -/
def eisensteinRealCard : Claim7 := { stood := { row := eisensteinRealRow, standIns := [], harness := (true, "3ec25015ac38c1c132ef9f8ab68e49508e5d4b5cf03cd378265797a155da627f"), looks := false }, kinds := [], alts := [], laidByText := true, laidKinds := [.data], laidTests := true, laidLooks := .later }
def EisensteinRealCardSaid : Prop := Claim7.holds Tryz.pinned (.plain (OpenSpec.ofChange eisensteinRealSpec)) eisensteinRealCard

/-- THE TIED CARD OF 'halfplanelaw34.EisensteinEigen'. -/
def eisensteinEigenCard : Claim7 := { stood := { row := eisensteinEigenRow, standIns := [], harness := (true, "3ec25015ac38c1c132ef9f8ab68e49508e5d4b5cf03cd378265797a155da627f"), looks := false }, kinds := [], alts := [], laidByText := true, laidKinds := [.data], laidTests := true, laidLooks := .later }
def EisensteinEigenCardSaid : Prop := Claim7.holds Tryz.pinned (.plain (OpenSpec.ofChange eisensteinEigenSpec)) eisensteinEigenCard

/-- THE TIED CARD OF 'halfplanelaw34.EisensteinSums'. -/
def eisensteinSumsCard : Claim7 := { stood := { row := eisensteinSumsRow, standIns := [], harness := (true, "3ec25015ac38c1c132ef9f8ab68e49508e5d4b5cf03cd378265797a155da627f"), looks := false }, kinds := [], alts := [], laidByText := true, laidKinds := [.data], laidTests := true, laidLooks := .later }
def EisensteinSumsCardSaid : Prop := Claim7.holds Tryz.pinned (.plain (OpenSpec.ofChange eisensteinSumsSpec)) eisensteinSumsCard

/-- THE TIED CARD OF 'halfplanelaw34.EisensteinMultiplicative'. -/
def eisensteinMultiplicativeCard : Claim7 := { stood := { row := eisensteinMultiplicativeRow, standIns := [], harness := (true, "3ec25015ac38c1c132ef9f8ab68e49508e5d4b5cf03cd378265797a155da627f"), looks := false }, kinds := [], alts := [], laidByText := true, laidKinds := [.data], laidTests := true, laidLooks := .later }
def EisensteinMultiplicativeCardSaid : Prop := Claim7.holds Tryz.pinned (.plain (OpenSpec.ofChange eisensteinMultiplicativeSpec)) eisensteinMultiplicativeCard

/-- THE TIED CARD OF 'halfplanelaw34.EisensteinProducts'. -/
def eisensteinProductsCard : Claim7 := { stood := { row := eisensteinProductsRow, standIns := [], harness := (true, "3ec25015ac38c1c132ef9f8ab68e49508e5d4b5cf03cd378265797a155da627f"), looks := false }, kinds := [], alts := [], laidByText := true, laidKinds := [.data], laidTests := true, laidLooks := .later }
def EisensteinProductsCardSaid : Prop := Claim7.holds Tryz.pinned (.plain (OpenSpec.ofChange eisensteinProductsSpec)) eisensteinProductsCard

/-- THE SECOND FORM's CARD OF 'halfplanelaw34.EisensteinLevelOne'. -/
def eisensteinLevelOneUptoCard : Claim7 := { stood := { row := eisensteinLevelOneUptoRow, standIns := [], harness := (true, "3ec25015ac38c1c132ef9f8ab68e49508e5d4b5cf03cd378265797a155da627f"), looks := false }, kinds := [], alts := [], laidByText := true, laidKinds := [.data], laidTests := true, laidLooks := .later }
def EisensteinLevelOneUptoCardSaid : Prop := Claim7.holds Tryz.pinned (.plain (OpenSpec.upto eisensteinLevelOneSpec)) eisensteinLevelOneUptoCard

/-- THE SECOND FORM's CARD OF 'halfplanelaw34.EisensteinReal'. -/
def eisensteinRealUptoCard : Claim7 := { stood := { row := eisensteinRealUptoRow, standIns := [], harness := (true, "3ec25015ac38c1c132ef9f8ab68e49508e5d4b5cf03cd378265797a155da627f"), looks := false }, kinds := [], alts := [], laidByText := true, laidKinds := [.data], laidTests := true, laidLooks := .later }
def EisensteinRealUptoCardSaid : Prop := Claim7.holds Tryz.pinned (.plain (OpenSpec.upto eisensteinRealSpec)) eisensteinRealUptoCard

/-- THE SECOND FORM's CARD OF 'halfplanelaw34.EisensteinEigen'. -/
def eisensteinEigenUptoCard : Claim7 := { stood := { row := eisensteinEigenUptoRow, standIns := [], harness := (true, "3ec25015ac38c1c132ef9f8ab68e49508e5d4b5cf03cd378265797a155da627f"), looks := false }, kinds := [], alts := [], laidByText := true, laidKinds := [.data], laidTests := true, laidLooks := .later }
def EisensteinEigenUptoCardSaid : Prop := Claim7.holds Tryz.pinned (.plain (OpenSpec.upto eisensteinEigenSpec)) eisensteinEigenUptoCard

/-- THE SECOND FORM's CARD OF 'halfplanelaw34.EisensteinSums'. -/
def eisensteinSumsUptoCard : Claim7 := { stood := { row := eisensteinSumsUptoRow, standIns := [], harness := (true, "3ec25015ac38c1c132ef9f8ab68e49508e5d4b5cf03cd378265797a155da627f"), looks := false }, kinds := [], alts := [], laidByText := true, laidKinds := [.data], laidTests := true, laidLooks := .later }
def EisensteinSumsUptoCardSaid : Prop := Claim7.holds Tryz.pinned (.plain (OpenSpec.upto eisensteinSumsSpec)) eisensteinSumsUptoCard

/-- THE SECOND FORM's CARD OF 'halfplanelaw34.EisensteinMultiplicative'. -/
def eisensteinMultiplicativeUptoCard : Claim7 := { stood := { row := eisensteinMultiplicativeUptoRow, standIns := [], harness := (true, "3ec25015ac38c1c132ef9f8ab68e49508e5d4b5cf03cd378265797a155da627f"), looks := false }, kinds := [], alts := [], laidByText := true, laidKinds := [.data], laidTests := true, laidLooks := .later }
def EisensteinMultiplicativeUptoCardSaid : Prop := Claim7.holds Tryz.pinned (.plain (OpenSpec.upto eisensteinMultiplicativeSpec)) eisensteinMultiplicativeUptoCard

/-- THE SECOND FORM's CARD OF 'halfplanelaw34.EisensteinProducts'. -/
def eisensteinProductsUptoCard : Claim7 := { stood := { row := eisensteinProductsUptoRow, standIns := [], harness := (true, "3ec25015ac38c1c132ef9f8ab68e49508e5d4b5cf03cd378265797a155da627f"), looks := false }, kinds := [], alts := [], laidByText := true, laidKinds := [.data], laidTests := true, laidLooks := .later }
def EisensteinProductsUptoCardSaid : Prop := Claim7.holds Tryz.pinned (.plain (OpenSpec.upto eisensteinProductsSpec)) eisensteinProductsUptoCard
end Rows
end Go.Proofs.YteecamhdbilmoaaGreatDoor
