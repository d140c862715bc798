/-
  DERIVED. GIVEN WITH THE SEED: THE CARDS: each row of YtadbinckjmdokaaDoorRows.lean that lists a variable, with what it lists TIED to the program's text (the seventh form; the later family's looks); each row that meets fmt, with fmt's text TOLD by the authors' own Lean function (tested against real Go, not proved from fmt's source: count such statements apart). THE CARD IS WHAT COUNTS. Prove the row's statement (the work); the ties are given (YtadbinckjmdokaaDoorTie.lean); close each card by the builder's one call (the guide's Derived/Test/ToyasCard.lean, 'card_holds'). Laid BY PROGRAM, IN A SANDBOX (cutbox-door.mjs). By AI agents, Wed Nov 11 2026. No macro, syntax, notation, axiom, sorry.
-/
import Derived.Test.YtadbinckjmdokaaDoorRows
import GoSem.ClaimSeven
namespace Go.Proofs.YtadbinckjmdokaaDoor
namespace Rows

/-- THE TIED CARD OF 'fuguelaw05.TreadVars'. -/
def treadVarsCard : Claim7 := { stood := { row := treadVarsRow, standIns := [], harness := (true, "f45396f9859f45708343b18c3c9f0c7063164bc417d364e8aa849f2a7a2ceb51"), looks := false }, kinds := [], alts := [], laidByText := true, laidKinds := [.data, .data, .data], laidTests := true, laidLooks := .later }
def TreadVarsCardSaid : Prop := Claim7.holds Tryd.pinned (.plain (OpenSpec.ofChange treadVarsSpec)) treadVarsCard

/-- THE TIED CARD OF 'fuguelaw05.TreadRound'. -/
def treadRoundCard : Claim7 := { stood := { row := treadRoundRow, standIns := [], harness := (true, "f45396f9859f45708343b18c3c9f0c7063164bc417d364e8aa849f2a7a2ceb51"), looks := false }, kinds := [], alts := [], laidByText := true, laidKinds := [.data, .data, .data], laidTests := true, laidLooks := .later }
def TreadRoundCardSaid : Prop := Claim7.holds Tryd.pinned (.plain (OpenSpec.ofChange treadRoundSpec)) treadRoundCard

/-- THE SECOND FORM's CARD OF 'fuguelaw05.TreadVars'. -/
def treadVarsUptoCard : Claim7 := { stood := { row := treadVarsUptoRow, standIns := [], harness := (true, "f45396f9859f45708343b18c3c9f0c7063164bc417d364e8aa849f2a7a2ceb51"), looks := false }, kinds := [], alts := [], laidByText := true, laidKinds := [.data, .data, .data], laidTests := true, laidLooks := .later }
def TreadVarsUptoCardSaid : Prop := Claim7.holds Tryd.pinned (.plain (OpenSpec.upto treadVarsSpec)) treadVarsUptoCard

/-- THE SECOND FORM's CARD OF 'fuguelaw05.TreadRound'. -/
def treadRoundUptoCard : Claim7 := { stood := { row := treadRoundUptoRow, standIns := [], harness := (true, "f45396f9859f45708343b18c3c9f0c7063164bc417d364e8aa849f2a7a2ceb51"), looks := false }, kinds := [], alts := [], laidByText := true, laidKinds := [.data, .data, .data], laidTests := true, laidLooks := .later }
def TreadRoundUptoCardSaid : Prop := Claim7.holds Tryd.pinned (.plain (OpenSpec.upto treadRoundSpec)) treadRoundUptoCard
end Rows
end Go.Proofs.YtadbinckjmdokaaDoor
