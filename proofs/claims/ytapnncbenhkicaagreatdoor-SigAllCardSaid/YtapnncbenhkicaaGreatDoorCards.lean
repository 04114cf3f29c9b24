/-
  DERIVED. GIVEN WITH THE SEED: THE CARDS: each row of YtapnncbenhkicaaGreatDoorRows.lean that lists a variable, with what it lists TIED to the program's text (the seventh form; the later family's looks); each row that meets fmt, with fmt's text TOLD by the authors' own Lean function (tested against real Go, not proved from fmt's source: count such statements apart). THE CARD IS WHAT COUNTS. Prove the row's statement (the work); the ties are given (YtapnncbenhkicaaGreatDoorTie.lean); close each card by the builder's one call (the guide's Derived/Test/ToyasCard.lean, 'card_holds'). Laid BY PROGRAM, IN A SANDBOX (cutbox-door.mjs). By AI agents, Wed Nov 11 2026. No macro, syntax, notation, axiom, sorry.
-/
import Derived.Test.YtapnncbenhkicaaGreatDoorRows
import GoSem.ClaimSeven
namespace Go.Proofs.YtapnncbenhkicaaGreatDoor
namespace Rows

/-- THE TIED CARD OF 'lambentlaw11.SigAll'. -/
def sigAllCard : Claim7 := { stood := { row := sigAllRow, standIns := [], harness := (true, "d8293def942124f3ebaffd4336b6f46c419d35f953d06735271b40eee21e3ad7"), looks := true }, kinds := [], alts := [], laidByText := true, laidKinds := [.data, .data, .data, .data, .sentinel, .sentinel, .pinned], laidTests := true, laidLooks := .later }
def SigAllCardSaid : Prop := Claim7.holds Tryz.pinned (.plain (OpenSpec.ofChange sigAllSpec)) sigAllCard

/-- THE SECOND FORM's CARD OF 'lambentlaw11.SigAll'. -/
def sigAllUptoCard : Claim7 := { stood := { row := sigAllUptoRow, standIns := [], harness := (true, "d8293def942124f3ebaffd4336b6f46c419d35f953d06735271b40eee21e3ad7"), looks := true }, kinds := [], alts := [], laidByText := true, laidKinds := [.data, .data, .data, .data, .sentinel, .sentinel, .pinned], laidTests := true, laidLooks := .later }
def SigAllUptoCardSaid : Prop := Claim7.holds Tryz.pinned (.plain (OpenSpec.upto sigAllSpec)) sigAllUptoCard
end Rows
end Go.Proofs.YtapnncbenhkicaaGreatDoor
