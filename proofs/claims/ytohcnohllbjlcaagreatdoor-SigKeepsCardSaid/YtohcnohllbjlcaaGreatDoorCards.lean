/-
  DERIVED. GIVEN WITH THE SEED: THE CARDS: each row of YtohcnohllbjlcaaGreatDoorRows.lean that lists a variable, with what it lists TIED to the program's text (the seventh form; the later family's looks); each row that meets fmt, with fmt's text TOLD by the authors' own Lean function (tested against real Go, not proved from fmt's source: count such statements apart). THE CARD IS WHAT COUNTS. Prove the row's statement (the work); the ties are given (YtohcnohllbjlcaaGreatDoorTie.lean); close each card by the builder's one call (the guide's Derived/Test/ToyasCard.lean, 'card_holds'). Laid BY PROGRAM, IN A SANDBOX (cutbox-door.mjs). By AI agents, Wed Nov 11 2026. No macro, syntax, notation, axiom, sorry.
-/
import Derived.Test.YtohcnohllbjlcaaGreatDoorRows
import GoSem.ClaimSeven
namespace Go.Proofs.YtohcnohllbjlcaaGreatDoor
namespace Rows

/-- THE TIED CARD OF 'lambentlaw11.SigAdds'. -/
def sigAddsCard : Claim7 := { stood := { row := sigAddsRow, standIns := [], harness := (true, "7f81f2a27ab980b01d79d3af2ec96b3fd85e8e93ce52addc3c0f8ad73b3c3a64"), looks := true }, kinds := [], alts := [], laidByText := true, laidKinds := [.data, .data, .data], laidTests := true, laidLooks := .later }
def SigAddsCardSaid : Prop := Claim7.holds Tryz.pinned (.plain (OpenSpec.ofChange sigAddsSpec)) sigAddsCard

/-- THE TIED CARD OF 'lambentlaw11.SigFinds'. -/
def sigFindsCard : Claim7 := { stood := { row := sigFindsRow, standIns := [], harness := (true, "7f81f2a27ab980b01d79d3af2ec96b3fd85e8e93ce52addc3c0f8ad73b3c3a64"), looks := true }, kinds := [], alts := [], laidByText := true, laidKinds := [.data, .data, .data], laidTests := true, laidLooks := .later }
def SigFindsCardSaid : Prop := Claim7.holds Tryz.pinned (.plain (OpenSpec.ofChange sigFindsSpec)) sigFindsCard

/-- THE TIED CARD OF 'lambentlaw11.SigKeeps'. -/
def sigKeepsCard : Claim7 := { stood := { row := sigKeepsRow, standIns := [], harness := (true, "7f81f2a27ab980b01d79d3af2ec96b3fd85e8e93ce52addc3c0f8ad73b3c3a64"), looks := true }, kinds := [], alts := [], laidByText := true, laidKinds := [.data, .data, .data], laidTests := true, laidLooks := .later }
def SigKeepsCardSaid : Prop := Claim7.holds Tryz.pinned (.plain (OpenSpec.ofChange sigKeepsSpec)) sigKeepsCard

/-- THE TIED CARD OF 'lambentlaw05.TyReads'. -/
def tyReadsCard : Claim7 := { stood := { row := tyReadsRow, standIns := [], harness := (true, "7f81f2a27ab980b01d79d3af2ec96b3fd85e8e93ce52addc3c0f8ad73b3c3a64"), looks := true }, kinds := [], alts := [], laidByText := true, laidKinds := [.data, .data, .data, .data, .sentinel, .sentinel, .pinned], laidTests := true, laidLooks := .later }
def TyReadsCardSaid : Prop := Claim7.holds Tryz.pinned (.plain (OpenSpec.ofChange tyReadsSpec)) tyReadsCard

/-- THE TIED CARD OF 'lambentlaw05.TyArrows'. -/
def tyArrowsCard : Claim7 := { stood := { row := tyArrowsRow, standIns := [], harness := (true, "7f81f2a27ab980b01d79d3af2ec96b3fd85e8e93ce52addc3c0f8ad73b3c3a64"), looks := true }, kinds := [], alts := [], laidByText := true, laidKinds := [.data, .data, .data, .data, .sentinel, .sentinel, .pinned], laidTests := true, laidLooks := .later }
def TyArrowsCardSaid : Prop := Claim7.holds Tryz.pinned (.plain (OpenSpec.ofChange tyArrowsSpec)) tyArrowsCard

/-- THE TIED CARD OF 'lambentlaw05.TyChanges'. -/
def tyChangesCard : Claim7 := { stood := { row := tyChangesRow, standIns := [], harness := (true, "7f81f2a27ab980b01d79d3af2ec96b3fd85e8e93ce52addc3c0f8ad73b3c3a64"), looks := true }, kinds := [], alts := [], laidByText := true, laidKinds := [.data, .data, .data, .data, .sentinel, .sentinel, .pinned], laidTests := true, laidLooks := .later }
def TyChangesCardSaid : Prop := Claim7.holds Tryz.pinned (.plain (OpenSpec.ofChange tyChangesSpec)) tyChangesCard

/-- THE TIED CARD OF 'lambentlaw05.TyBack'. -/
def tyBackCard : Claim7 := { stood := { row := tyBackRow, standIns := [], harness := (true, "7f81f2a27ab980b01d79d3af2ec96b3fd85e8e93ce52addc3c0f8ad73b3c3a64"), looks := true }, kinds := [], alts := [], laidByText := true, laidKinds := [.data, .data, .data, .data, .sentinel, .sentinel, .pinned], laidTests := true, laidLooks := .later }
def TyBackCardSaid : Prop := Claim7.holds Tryz.pinned (.plain (OpenSpec.ofChange tyBackSpec)) tyBackCard

/-- THE SECOND FORM's CARD OF 'lambentlaw11.SigAdds'. -/
def sigAddsUptoCard : Claim7 := { stood := { row := sigAddsUptoRow, standIns := [], harness := (true, "7f81f2a27ab980b01d79d3af2ec96b3fd85e8e93ce52addc3c0f8ad73b3c3a64"), looks := true }, kinds := [], alts := [], laidByText := true, laidKinds := [.data, .data, .data], laidTests := true, laidLooks := .later }
def SigAddsUptoCardSaid : Prop := Claim7.holds Tryz.pinned (.plain (OpenSpec.upto sigAddsSpec)) sigAddsUptoCard

/-- THE SECOND FORM's CARD OF 'lambentlaw11.SigFinds'. -/
def sigFindsUptoCard : Claim7 := { stood := { row := sigFindsUptoRow, standIns := [], harness := (true, "7f81f2a27ab980b01d79d3af2ec96b3fd85e8e93ce52addc3c0f8ad73b3c3a64"), looks := true }, kinds := [], alts := [], laidByText := true, laidKinds := [.data, .data, .data], laidTests := true, laidLooks := .later }
def SigFindsUptoCardSaid : Prop := Claim7.holds Tryz.pinned (.plain (OpenSpec.upto sigFindsSpec)) sigFindsUptoCard

/-- THE SECOND FORM's CARD OF 'lambentlaw11.SigKeeps'. -/
def sigKeepsUptoCard : Claim7 := { stood := { row := sigKeepsUptoRow, standIns := [], harness := (true, "7f81f2a27ab980b01d79d3af2ec96b3fd85e8e93ce52addc3c0f8ad73b3c3a64"), looks := true }, kinds := [], alts := [], laidByText := true, laidKinds := [.data, .data, .data], laidTests := true, laidLooks := .later }
def SigKeepsUptoCardSaid : Prop := Claim7.holds Tryz.pinned (.plain (OpenSpec.upto sigKeepsSpec)) sigKeepsUptoCard

/-- THE SECOND FORM's CARD OF 'lambentlaw05.TyReads'. -/
def tyReadsUptoCard : Claim7 := { stood := { row := tyReadsUptoRow, standIns := [], harness := (true, "7f81f2a27ab980b01d79d3af2ec96b3fd85e8e93ce52addc3c0f8ad73b3c3a64"), looks := true }, kinds := [], alts := [], laidByText := true, laidKinds := [.data, .data, .data, .data, .sentinel, .sentinel, .pinned], laidTests := true, laidLooks := .later }
def TyReadsUptoCardSaid : Prop := Claim7.holds Tryz.pinned (.plain (OpenSpec.upto tyReadsSpec)) tyReadsUptoCard

/-- THE SECOND FORM's CARD OF 'lambentlaw05.TyArrows'. -/
def tyArrowsUptoCard : Claim7 := { stood := { row := tyArrowsUptoRow, standIns := [], harness := (true, "7f81f2a27ab980b01d79d3af2ec96b3fd85e8e93ce52addc3c0f8ad73b3c3a64"), looks := true }, kinds := [], alts := [], laidByText := true, laidKinds := [.data, .data, .data, .data, .sentinel, .sentinel, .pinned], laidTests := true, laidLooks := .later }
def TyArrowsUptoCardSaid : Prop := Claim7.holds Tryz.pinned (.plain (OpenSpec.upto tyArrowsSpec)) tyArrowsUptoCard

/-- THE SECOND FORM's CARD OF 'lambentlaw05.TyChanges'. -/
def tyChangesUptoCard : Claim7 := { stood := { row := tyChangesUptoRow, standIns := [], harness := (true, "7f81f2a27ab980b01d79d3af2ec96b3fd85e8e93ce52addc3c0f8ad73b3c3a64"), looks := true }, kinds := [], alts := [], laidByText := true, laidKinds := [.data, .data, .data, .data, .sentinel, .sentinel, .pinned], laidTests := true, laidLooks := .later }
def TyChangesUptoCardSaid : Prop := Claim7.holds Tryz.pinned (.plain (OpenSpec.upto tyChangesSpec)) tyChangesUptoCard

/-- THE SECOND FORM's CARD OF 'lambentlaw05.TyBack'. -/
def tyBackUptoCard : Claim7 := { stood := { row := tyBackUptoRow, standIns := [], harness := (true, "7f81f2a27ab980b01d79d3af2ec96b3fd85e8e93ce52addc3c0f8ad73b3c3a64"), looks := true }, kinds := [], alts := [], laidByText := true, laidKinds := [.data, .data, .data, .data, .sentinel, .sentinel, .pinned], laidTests := true, laidLooks := .later }
def TyBackUptoCardSaid : Prop := Claim7.holds Tryz.pinned (.plain (OpenSpec.upto tyBackSpec)) tyBackUptoCard
end Rows
end Go.Proofs.YtohcnohllbjlcaaGreatDoor
