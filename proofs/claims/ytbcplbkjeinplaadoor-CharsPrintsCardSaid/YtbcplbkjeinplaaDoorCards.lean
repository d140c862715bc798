/-
  DERIVED. GIVEN WITH THE SEED: THE CARDS: each row of YtbcplbkjeinplaaDoorRows.lean that lists a variable, with what it lists TIED to the program's text (the seventh form; the later family's looks); each row that meets fmt, with fmt's text TOLD by the authors' own Lean function (tested against real Go, not proved from fmt's source: count such statements apart). THE CARD IS WHAT COUNTS. Prove the row's statement (the work); the ties are given (YtbcplbkjeinplaaDoorTie.lean); close each card by the builder's one call (the guide's Derived/Test/ToyasCard.lean, 'card_holds'). Laid BY PROGRAM, IN A SANDBOX (cutbox-door.mjs). By AI agents, Wed Nov 11 2026. No macro, syntax, notation, axiom, sorry.
-/
import Derived.Test.YtbcplbkjeinplaaDoorRows
import GoSem.ClaimSeven
namespace Go.Proofs.YtbcplbkjeinplaaDoor
namespace Rows

/-- THE TIED CARD OF 'fuguelaw01.CharsNames'. -/
def charsNamesCard : Claim7 := { stood := { row := charsNamesRow, standIns := [], harness := (true, "668f1091f6fd3338c2359153013ed0026eb358243e7b102a8d53e345bc5a52b5"), looks := true }, kinds := [], alts := [], laidByText := true, laidKinds := [.data, .data, .data], laidTests := true, laidLooks := .later }
def CharsNamesCardSaid : Prop := Claim7.holds Tryd.pinned (.plain (OpenSpec.ofChange charsNamesSpec)) charsNamesCard

/-- THE TIED CARD OF 'fuguelaw01.CharsLetters'. -/
def charsLettersCard : Claim7 := { stood := { row := charsLettersRow, standIns := [], harness := (true, "668f1091f6fd3338c2359153013ed0026eb358243e7b102a8d53e345bc5a52b5"), looks := true }, kinds := [], alts := [], laidByText := true, laidKinds := [.data, .data, .data], laidTests := true, laidLooks := .later }
def CharsLettersCardSaid : Prop := Claim7.holds Tryd.pinned (.plain (OpenSpec.ofChange charsLettersSpec)) charsLettersCard

/-- THE TIED CARD OF 'fuguelaw01.CharsPlaces'. -/
def charsPlacesCard : Claim7 := { stood := { row := charsPlacesRow, standIns := [], harness := (true, "668f1091f6fd3338c2359153013ed0026eb358243e7b102a8d53e345bc5a52b5"), looks := true }, kinds := [], alts := [], laidByText := true, laidKinds := [.data, .data, .data], laidTests := true, laidLooks := .later }
def CharsPlacesCardSaid : Prop := Claim7.holds Tryd.pinned (.plain (OpenSpec.ofChange charsPlacesSpec)) charsPlacesCard

/-- THE TIED CARD OF 'fuguelaw01.CharsRow'. -/
def charsRowCard : Claim7 := { stood := { row := charsRowRow, standIns := [], harness := (true, "668f1091f6fd3338c2359153013ed0026eb358243e7b102a8d53e345bc5a52b5"), looks := true }, kinds := [], alts := [], laidByText := true, laidKinds := [.data, .data, .data], laidTests := true, laidLooks := .later }
def CharsRowCardSaid : Prop := Claim7.holds Tryd.pinned (.plain (OpenSpec.ofChange charsRowSpec)) charsRowCard

/-- THE TIED CARD OF 'fuguelaw01.CharsPrints'. -/
def charsPrintsCard : Claim7 := { stood := { row := charsPrintsRow, standIns := [], harness := (true, "668f1091f6fd3338c2359153013ed0026eb358243e7b102a8d53e345bc5a52b5"), looks := true }, kinds := [], alts := [], laidByText := true, laidKinds := [.data, .data, .data, .sentinel, .sentinel], laidTests := true, laidLooks := .later }
def CharsPrintsCardSaid : Prop := Claim7.holds Tryd.pinned (.plain (OpenSpec.ofChange charsPrintsSpec)) charsPrintsCard

/-- THE TIED CARD OF 'fuguelaw01.CharsScans'. -/
def charsScansCard : Claim7 := { stood := { row := charsScansRow, standIns := [], harness := (true, "668f1091f6fd3338c2359153013ed0026eb358243e7b102a8d53e345bc5a52b5"), looks := true }, kinds := [], alts := [], laidByText := true, laidKinds := [.data, .data, .data, .sentinel, .sentinel], laidTests := true, laidLooks := .later }
def CharsScansCardSaid : Prop := Claim7.holds Tryd.pinned (.plain (OpenSpec.ofChange charsScansSpec)) charsScansCard

/-- THE SECOND FORM's CARD OF 'fuguelaw01.CharsNames'. -/
def charsNamesUptoCard : Claim7 := { stood := { row := charsNamesUptoRow, standIns := [], harness := (true, "668f1091f6fd3338c2359153013ed0026eb358243e7b102a8d53e345bc5a52b5"), looks := true }, kinds := [], alts := [], laidByText := true, laidKinds := [.data, .data, .data], laidTests := true, laidLooks := .later }
def CharsNamesUptoCardSaid : Prop := Claim7.holds Tryd.pinned (.plain (OpenSpec.upto charsNamesSpec)) charsNamesUptoCard

/-- THE SECOND FORM's CARD OF 'fuguelaw01.CharsLetters'. -/
def charsLettersUptoCard : Claim7 := { stood := { row := charsLettersUptoRow, standIns := [], harness := (true, "668f1091f6fd3338c2359153013ed0026eb358243e7b102a8d53e345bc5a52b5"), looks := true }, kinds := [], alts := [], laidByText := true, laidKinds := [.data, .data, .data], laidTests := true, laidLooks := .later }
def CharsLettersUptoCardSaid : Prop := Claim7.holds Tryd.pinned (.plain (OpenSpec.upto charsLettersSpec)) charsLettersUptoCard

/-- THE SECOND FORM's CARD OF 'fuguelaw01.CharsPlaces'. -/
def charsPlacesUptoCard : Claim7 := { stood := { row := charsPlacesUptoRow, standIns := [], harness := (true, "668f1091f6fd3338c2359153013ed0026eb358243e7b102a8d53e345bc5a52b5"), looks := true }, kinds := [], alts := [], laidByText := true, laidKinds := [.data, .data, .data], laidTests := true, laidLooks := .later }
def CharsPlacesUptoCardSaid : Prop := Claim7.holds Tryd.pinned (.plain (OpenSpec.upto charsPlacesSpec)) charsPlacesUptoCard

/-- THE SECOND FORM's CARD OF 'fuguelaw01.CharsRow'. -/
def charsRowUptoCard : Claim7 := { stood := { row := charsRowUptoRow, standIns := [], harness := (true, "668f1091f6fd3338c2359153013ed0026eb358243e7b102a8d53e345bc5a52b5"), looks := true }, kinds := [], alts := [], laidByText := true, laidKinds := [.data, .data, .data], laidTests := true, laidLooks := .later }
def CharsRowUptoCardSaid : Prop := Claim7.holds Tryd.pinned (.plain (OpenSpec.upto charsRowSpec)) charsRowUptoCard

/-- THE SECOND FORM's CARD OF 'fuguelaw01.CharsPrints'. -/
def charsPrintsUptoCard : Claim7 := { stood := { row := charsPrintsUptoRow, standIns := [], harness := (true, "668f1091f6fd3338c2359153013ed0026eb358243e7b102a8d53e345bc5a52b5"), looks := true }, kinds := [], alts := [], laidByText := true, laidKinds := [.data, .data, .data, .sentinel, .sentinel], laidTests := true, laidLooks := .later }
def CharsPrintsUptoCardSaid : Prop := Claim7.holds Tryd.pinned (.plain (OpenSpec.upto charsPrintsSpec)) charsPrintsUptoCard

/-- THE SECOND FORM's CARD OF 'fuguelaw01.CharsScans'. -/
def charsScansUptoCard : Claim7 := { stood := { row := charsScansUptoRow, standIns := [], harness := (true, "668f1091f6fd3338c2359153013ed0026eb358243e7b102a8d53e345bc5a52b5"), looks := true }, kinds := [], alts := [], laidByText := true, laidKinds := [.data, .data, .data, .sentinel, .sentinel], laidTests := true, laidLooks := .later }
def CharsScansUptoCardSaid : Prop := Claim7.holds Tryd.pinned (.plain (OpenSpec.upto charsScansSpec)) charsScansUptoCard
end Rows
end Go.Proofs.YtbcplbkjeinplaaDoor
