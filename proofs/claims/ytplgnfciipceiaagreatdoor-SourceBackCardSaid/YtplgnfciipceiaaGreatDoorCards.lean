/-
  DERIVED. GIVEN WITH THE SEED: THE CARDS: each row of YtplgnfciipceiaaGreatDoorRows.lean that lists a variable, with what it lists TIED to the program's text (the seventh form; the later family's looks); each row that meets fmt, with fmt's text TOLD by the authors' own Lean function (tested against real Go, not proved from fmt's source: count such statements apart). THE CARD IS WHAT COUNTS. Prove the row's statement (the work); the ties are given (YtplgnfciipceiaaGreatDoorTie.lean); close each card by the builder's one call (the guide's Derived/Test/ToyasCard.lean, 'card_holds'). Laid BY PROGRAM, IN A SANDBOX (cutbox-door.mjs). By AI agents, Wed Nov 11 2026. No macro, syntax, notation, axiom, sorry.
-/
import Derived.Test.YtplgnfciipceiaaGreatDoorRows
import GoSem.ClaimSeven
namespace Go.Proofs.YtplgnfciipceiaaGreatDoor
namespace Rows

/-- THE TIED CARD OF 'lambentlaw10.SourceBack'. -/
def sourceBackCard : Claim7 := { stood := { row := sourceBackRow, standIns := [], harness := (true, "6cd1e32fb470c6ae5137e37296b7276fd0869187e6676a0301237fc813fd70da"), looks := true }, kinds := [], alts := [], laidByText := true, laidKinds := [.data, .data, .data, .data, .sentinel, .sentinel, .pinned], laidTests := true, laidLooks := .later }
def SourceBackCardSaid : Prop := Claim7.holds Tryz.pinned (.plain (OpenSpec.ofChange sourceBackSpec)) sourceBackCard

/-- THE TIED CARD OF 'lambentlaw14.PrettyTexts'. -/
def prettyTextsCard : Claim7 := { stood := { row := prettyTextsRow, standIns := [], harness := (true, "6cd1e32fb470c6ae5137e37296b7276fd0869187e6676a0301237fc813fd70da"), looks := true }, kinds := [], alts := [], laidByText := true, laidKinds := [.data, .data, .data, .data, .sentinel, .sentinel, .pinned], laidTests := true, laidLooks := .later }
def PrettyTextsCardSaid : Prop := Claim7.holds Tryz.pinned (.plain (OpenSpec.ofChange prettyTextsSpec)) prettyTextsCard

/-- THE TIED CARD OF 'lambentlaw14.PrettyNames'. -/
def prettyNamesCard : Claim7 := { stood := { row := prettyNamesRow, standIns := [], harness := (true, "6cd1e32fb470c6ae5137e37296b7276fd0869187e6676a0301237fc813fd70da"), looks := true }, kinds := [], alts := [], laidByText := true, laidKinds := [.data, .data, .data, .data, .sentinel, .sentinel, .pinned], laidTests := true, laidLooks := .later }
def PrettyNamesCardSaid : Prop := Claim7.holds Tryz.pinned (.plain (OpenSpec.ofChange prettyNamesSpec)) prettyNamesCard

/-- THE TIED CARD OF 'lambentlaw14.PrettyValues'. -/
def prettyValuesCard : Claim7 := { stood := { row := prettyValuesRow, standIns := [], harness := (true, "6cd1e32fb470c6ae5137e37296b7276fd0869187e6676a0301237fc813fd70da"), looks := true }, kinds := [], alts := [], laidByText := true, laidKinds := [.data, .data, .data, .data, .sentinel, .sentinel, .pinned], laidTests := true, laidLooks := .later }
def PrettyValuesCardSaid : Prop := Claim7.holds Tryz.pinned (.plain (OpenSpec.ofChange prettyValuesSpec)) prettyValuesCard

/-- THE SECOND FORM's CARD OF 'lambentlaw10.SourceBack'. -/
def sourceBackUptoCard : Claim7 := { stood := { row := sourceBackUptoRow, standIns := [], harness := (true, "6cd1e32fb470c6ae5137e37296b7276fd0869187e6676a0301237fc813fd70da"), looks := true }, kinds := [], alts := [], laidByText := true, laidKinds := [.data, .data, .data, .data, .sentinel, .sentinel, .pinned], laidTests := true, laidLooks := .later }
def SourceBackUptoCardSaid : Prop := Claim7.holds Tryz.pinned (.plain (OpenSpec.upto sourceBackSpec)) sourceBackUptoCard

/-- THE SECOND FORM's CARD OF 'lambentlaw14.PrettyTexts'. -/
def prettyTextsUptoCard : Claim7 := { stood := { row := prettyTextsUptoRow, standIns := [], harness := (true, "6cd1e32fb470c6ae5137e37296b7276fd0869187e6676a0301237fc813fd70da"), looks := true }, kinds := [], alts := [], laidByText := true, laidKinds := [.data, .data, .data, .data, .sentinel, .sentinel, .pinned], laidTests := true, laidLooks := .later }
def PrettyTextsUptoCardSaid : Prop := Claim7.holds Tryz.pinned (.plain (OpenSpec.upto prettyTextsSpec)) prettyTextsUptoCard

/-- THE SECOND FORM's CARD OF 'lambentlaw14.PrettyNames'. -/
def prettyNamesUptoCard : Claim7 := { stood := { row := prettyNamesUptoRow, standIns := [], harness := (true, "6cd1e32fb470c6ae5137e37296b7276fd0869187e6676a0301237fc813fd70da"), looks := true }, kinds := [], alts := [], laidByText := true, laidKinds := [.data, .data, .data, .data, .sentinel, .sentinel, .pinned], laidTests := true, laidLooks := .later }
def PrettyNamesUptoCardSaid : Prop := Claim7.holds Tryz.pinned (.plain (OpenSpec.upto prettyNamesSpec)) prettyNamesUptoCard

/-- THE SECOND FORM's CARD OF 'lambentlaw14.PrettyValues'. -/
def prettyValuesUptoCard : Claim7 := { stood := { row := prettyValuesUptoRow, standIns := [], harness := (true, "6cd1e32fb470c6ae5137e37296b7276fd0869187e6676a0301237fc813fd70da"), looks := true }, kinds := [], alts := [], laidByText := true, laidKinds := [.data, .data, .data, .data, .sentinel, .sentinel, .pinned], laidTests := true, laidLooks := .later }
def PrettyValuesUptoCardSaid : Prop := Claim7.holds Tryz.pinned (.plain (OpenSpec.upto prettyValuesSpec)) prettyValuesUptoCard
end Rows
end Go.Proofs.YtplgnfciipceiaaGreatDoor
