/-
  DERIVED. GIVEN WITH THE SEED: THE CARDS: each row of YtdlkenpilhakfaaGreatDoorRows.lean that lists a variable, with what it lists TIED to the program's text (the seventh form; the later family's looks); each row that meets fmt, with fmt's text TOLD by the authors' own Lean function (tested against real Go, not proved from fmt's source: count such statements apart). THE CARD IS WHAT COUNTS. Prove the row's statement (the work); the ties are given (YtdlkenpilhakfaaGreatDoorTie.lean); close each card by the builder's one call (the guide's Derived/Test/ToyasCard.lean, 'card_holds'). Laid BY PROGRAM, IN A SANDBOX (cutbox-door.mjs). By AI agents, Wed Nov 11 2026. No macro, syntax, notation, axiom, sorry.
-/
import Derived.Test.YtdlkenpilhakfaaGreatDoorRows
import GoSem.ClaimSeven
namespace Go.Proofs.YtdlkenpilhakfaaGreatDoor
namespace Rows

/-- THE TIED CARD OF 'lambentlaw12.InferTerms'. -/
def inferTermsCard : Claim7 := { stood := { row := inferTermsRow, standIns := [], harness := (true, "3f9b07bca97b3d9a9da658d3727994cc52df5383e53dffed3d2f7411b59157de"), looks := true }, kinds := [], alts := [], laidByText := true, laidKinds := [.data, .data, .data, .data, .sentinel, .sentinel, .pinned], laidTests := true, laidLooks := .later }
def InferTermsCardSaid : Prop := Claim7.holds Tryz.pinned (.plain (OpenSpec.ofChange inferTermsSpec)) inferTermsCard

/-- THE TIED CARD OF 'lambentlaw12.InferNames'. -/
def inferNamesCard : Claim7 := { stood := { row := inferNamesRow, standIns := [], harness := (true, "3f9b07bca97b3d9a9da658d3727994cc52df5383e53dffed3d2f7411b59157de"), looks := true }, kinds := [], alts := [], laidByText := true, laidKinds := [.data, .data, .data, .data, .sentinel, .sentinel, .pinned], laidTests := true, laidLooks := .later }
def InferNamesCardSaid : Prop := Claim7.holds Tryz.pinned (.plain (OpenSpec.ofChange inferNamesSpec)) inferNamesCard

/-- THE TIED CARD OF 'lambentlaw12.InferMore'. -/
def inferMoreCard : Claim7 := { stood := { row := inferMoreRow, standIns := [], harness := (true, "3f9b07bca97b3d9a9da658d3727994cc52df5383e53dffed3d2f7411b59157de"), looks := true }, kinds := [], alts := [], laidByText := true, laidKinds := [.data, .data, .data, .data, .sentinel, .sentinel, .pinned], laidTests := true, laidLooks := .later }
def InferMoreCardSaid : Prop := Claim7.holds Tryz.pinned (.plain (OpenSpec.ofChange inferMoreSpec)) inferMoreCard

/-- THE SECOND FORM's CARD OF 'lambentlaw12.InferTerms'. -/
def inferTermsUptoCard : Claim7 := { stood := { row := inferTermsUptoRow, standIns := [], harness := (true, "3f9b07bca97b3d9a9da658d3727994cc52df5383e53dffed3d2f7411b59157de"), looks := true }, kinds := [], alts := [], laidByText := true, laidKinds := [.data, .data, .data, .data, .sentinel, .sentinel, .pinned], laidTests := true, laidLooks := .later }
def InferTermsUptoCardSaid : Prop := Claim7.holds Tryz.pinned (.plain (OpenSpec.upto inferTermsSpec)) inferTermsUptoCard

/-- THE SECOND FORM's CARD OF 'lambentlaw12.InferNames'. -/
def inferNamesUptoCard : Claim7 := { stood := { row := inferNamesUptoRow, standIns := [], harness := (true, "3f9b07bca97b3d9a9da658d3727994cc52df5383e53dffed3d2f7411b59157de"), looks := true }, kinds := [], alts := [], laidByText := true, laidKinds := [.data, .data, .data, .data, .sentinel, .sentinel, .pinned], laidTests := true, laidLooks := .later }
def InferNamesUptoCardSaid : Prop := Claim7.holds Tryz.pinned (.plain (OpenSpec.upto inferNamesSpec)) inferNamesUptoCard

/-- THE SECOND FORM's CARD OF 'lambentlaw12.InferMore'. -/
def inferMoreUptoCard : Claim7 := { stood := { row := inferMoreUptoRow, standIns := [], harness := (true, "3f9b07bca97b3d9a9da658d3727994cc52df5383e53dffed3d2f7411b59157de"), looks := true }, kinds := [], alts := [], laidByText := true, laidKinds := [.data, .data, .data, .data, .sentinel, .sentinel, .pinned], laidTests := true, laidLooks := .later }
def InferMoreUptoCardSaid : Prop := Claim7.holds Tryz.pinned (.plain (OpenSpec.upto inferMoreSpec)) inferMoreUptoCard
end Rows
end Go.Proofs.YtdlkenpilhakfaaGreatDoor
