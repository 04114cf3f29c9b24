/-
  DERIVED. GIVEN WITH THE SEED: THE CARDS: each row of YtanmlhplncimpaaDoorRows.lean that lists a variable, with what it lists TIED to the program's text (the seventh form; the later family's looks); each row that meets fmt, with fmt's text TOLD by the authors' own Lean function (tested against real Go, not proved from fmt's source: count such statements apart). THE CARD IS WHAT COUNTS. Prove the row's statement (the work); the ties are given (YtanmlhplncimpaaDoorTie.lean); close each card by the builder's one call (the guide's Derived/Test/ToyasCard.lean, 'card_holds'). Laid BY PROGRAM, IN A SANDBOX (cutbox-door.mjs). By AI agents, Wed Nov 11 2026. No macro, syntax, notation, axiom, sorry.
-/
import Derived.Test.YtanmlhplncimpaaDoorRows
import GoSem.ClaimSeven
namespace Go.Proofs.YtanmlhplncimpaaDoor
namespace Rows

/-- THE TIED CARD OF 'lambentlaw01.LexLexes'. -/
def lexLexesCard : Claim7 := { stood := { row := lexLexesRow, standIns := [], harness := (true, "61c26ba99529538465096ce4279750e5ec9dda6aa70e02146d62f083cc10b6b7"), looks := true }, kinds := [], alts := [], laidByText := true, laidKinds := [.data, .data, .data, .data, .sentinel, .sentinel, .pinned], laidTests := true, laidLooks := .later }
def LexLexesCardSaid : Prop := Claim7.holds Tryd.pinned (.plain (OpenSpec.ofChange lexLexesSpec)) lexLexesCard

/-- THE TIED CARD OF 'lambentlaw01.LexWords'. -/
def lexWordsCard : Claim7 := { stood := { row := lexWordsRow, standIns := [], harness := (true, "61c26ba99529538465096ce4279750e5ec9dda6aa70e02146d62f083cc10b6b7"), looks := true }, kinds := [], alts := [], laidByText := true, laidKinds := [.data, .data, .data, .data, .sentinel, .sentinel, .pinned], laidTests := true, laidLooks := .later }
def LexWordsCardSaid : Prop := Claim7.holds Tryd.pinned (.plain (OpenSpec.ofChange lexWordsSpec)) lexWordsCard

/-- THE TIED CARD OF 'lambentlaw01.LexLong'. -/
def lexLongCard : Claim7 := { stood := { row := lexLongRow, standIns := [], harness := (true, "61c26ba99529538465096ce4279750e5ec9dda6aa70e02146d62f083cc10b6b7"), looks := true }, kinds := [], alts := [], laidByText := true, laidKinds := [.data, .data, .data, .data, .sentinel, .sentinel, .pinned], laidTests := true, laidLooks := .later }
def LexLongCardSaid : Prop := Claim7.holds Tryd.pinned (.plain (OpenSpec.ofChange lexLongSpec)) lexLongCard

/-- THE TIED CARD OF 'lambentlaw01.LexBack'. -/
def lexBackCard : Claim7 := { stood := { row := lexBackRow, standIns := [], harness := (true, "61c26ba99529538465096ce4279750e5ec9dda6aa70e02146d62f083cc10b6b7"), looks := true }, kinds := [], alts := [], laidByText := true, laidKinds := [.data, .data, .data, .data, .sentinel, .sentinel, .pinned], laidTests := true, laidLooks := .later }
def LexBackCardSaid : Prop := Claim7.holds Tryd.pinned (.plain (OpenSpec.ofChange lexBackSpec)) lexBackCard

/-- THE TIED CARD OF 'lambentlaw01.LexPlaces'. -/
def lexPlacesCard : Claim7 := { stood := { row := lexPlacesRow, standIns := [], harness := (true, "61c26ba99529538465096ce4279750e5ec9dda6aa70e02146d62f083cc10b6b7"), looks := true }, kinds := [], alts := [], laidByText := true, laidKinds := [.data, .data, .data, .data, .sentinel, .sentinel, .pinned], laidTests := true, laidLooks := .later }
def LexPlacesCardSaid : Prop := Claim7.holds Tryd.pinned (.plain (OpenSpec.ofChange lexPlacesSpec)) lexPlacesCard

/-- THE TIED CARD OF 'lambentlaw01.LexGlue'. -/
def lexGlueCard : Claim7 := { stood := { row := lexGlueRow, standIns := [], harness := (true, "61c26ba99529538465096ce4279750e5ec9dda6aa70e02146d62f083cc10b6b7"), looks := true }, kinds := [], alts := [], laidByText := true, laidKinds := [.data, .data, .data, .data, .sentinel, .sentinel, .pinned], laidTests := true, laidLooks := .later }
def LexGlueCardSaid : Prop := Claim7.holds Tryd.pinned (.plain (OpenSpec.ofChange lexGlueSpec)) lexGlueCard

/-- THE SECOND FORM's CARD OF 'lambentlaw01.LexLexes'. -/
def lexLexesUptoCard : Claim7 := { stood := { row := lexLexesUptoRow, standIns := [], harness := (true, "61c26ba99529538465096ce4279750e5ec9dda6aa70e02146d62f083cc10b6b7"), looks := true }, kinds := [], alts := [], laidByText := true, laidKinds := [.data, .data, .data, .data, .sentinel, .sentinel, .pinned], laidTests := true, laidLooks := .later }
def LexLexesUptoCardSaid : Prop := Claim7.holds Tryd.pinned (.plain (OpenSpec.upto lexLexesSpec)) lexLexesUptoCard

/-- THE SECOND FORM's CARD OF 'lambentlaw01.LexWords'. -/
def lexWordsUptoCard : Claim7 := { stood := { row := lexWordsUptoRow, standIns := [], harness := (true, "61c26ba99529538465096ce4279750e5ec9dda6aa70e02146d62f083cc10b6b7"), looks := true }, kinds := [], alts := [], laidByText := true, laidKinds := [.data, .data, .data, .data, .sentinel, .sentinel, .pinned], laidTests := true, laidLooks := .later }
def LexWordsUptoCardSaid : Prop := Claim7.holds Tryd.pinned (.plain (OpenSpec.upto lexWordsSpec)) lexWordsUptoCard

/-- THE SECOND FORM's CARD OF 'lambentlaw01.LexLong'. -/
def lexLongUptoCard : Claim7 := { stood := { row := lexLongUptoRow, standIns := [], harness := (true, "61c26ba99529538465096ce4279750e5ec9dda6aa70e02146d62f083cc10b6b7"), looks := true }, kinds := [], alts := [], laidByText := true, laidKinds := [.data, .data, .data, .data, .sentinel, .sentinel, .pinned], laidTests := true, laidLooks := .later }
def LexLongUptoCardSaid : Prop := Claim7.holds Tryd.pinned (.plain (OpenSpec.upto lexLongSpec)) lexLongUptoCard

/-- THE SECOND FORM's CARD OF 'lambentlaw01.LexBack'. -/
def lexBackUptoCard : Claim7 := { stood := { row := lexBackUptoRow, standIns := [], harness := (true, "61c26ba99529538465096ce4279750e5ec9dda6aa70e02146d62f083cc10b6b7"), looks := true }, kinds := [], alts := [], laidByText := true, laidKinds := [.data, .data, .data, .data, .sentinel, .sentinel, .pinned], laidTests := true, laidLooks := .later }
def LexBackUptoCardSaid : Prop := Claim7.holds Tryd.pinned (.plain (OpenSpec.upto lexBackSpec)) lexBackUptoCard

/-- THE SECOND FORM's CARD OF 'lambentlaw01.LexPlaces'. -/
def lexPlacesUptoCard : Claim7 := { stood := { row := lexPlacesUptoRow, standIns := [], harness := (true, "61c26ba99529538465096ce4279750e5ec9dda6aa70e02146d62f083cc10b6b7"), looks := true }, kinds := [], alts := [], laidByText := true, laidKinds := [.data, .data, .data, .data, .sentinel, .sentinel, .pinned], laidTests := true, laidLooks := .later }
def LexPlacesUptoCardSaid : Prop := Claim7.holds Tryd.pinned (.plain (OpenSpec.upto lexPlacesSpec)) lexPlacesUptoCard

/-- THE SECOND FORM's CARD OF 'lambentlaw01.LexGlue'. -/
def lexGlueUptoCard : Claim7 := { stood := { row := lexGlueUptoRow, standIns := [], harness := (true, "61c26ba99529538465096ce4279750e5ec9dda6aa70e02146d62f083cc10b6b7"), looks := true }, kinds := [], alts := [], laidByText := true, laidKinds := [.data, .data, .data, .data, .sentinel, .sentinel, .pinned], laidTests := true, laidLooks := .later }
def LexGlueUptoCardSaid : Prop := Claim7.holds Tryd.pinned (.plain (OpenSpec.upto lexGlueSpec)) lexGlueUptoCard
end Rows
end Go.Proofs.YtanmlhplncimpaaDoor
