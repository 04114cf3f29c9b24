/-
  DERIVED. GIVEN WITH THE SEED: THE CARDS: each row of YtpcmcfajfnpjeaaGreatDoorRows.lean that lists a variable, with what it lists TIED to the program's text (the seventh form; the later family's looks); each row that meets fmt, with fmt's text TOLD by the authors' own Lean function (tested against real Go, not proved from fmt's source: count such statements apart). THE CARD IS WHAT COUNTS. Prove the row's statement (the work); the ties are given (YtpcmcfajfnpjeaaGreatDoorTie.lean); close each card by the builder's one call (the guide's Derived/Test/ToyasCard.lean, 'card_holds'). Laid BY PROGRAM, IN A SANDBOX (cutbox-door.mjs). By AI agents, Wed Nov 11 2026. No macro, syntax, notation, axiom, sorry.
-/
import Derived.Test.YtpcmcfajfnpjeaaGreatDoorRows
import GoSem.ClaimSeven
namespace Go.Proofs.YtpcmcfajfnpjeaaGreatDoor
namespace Rows

/-- THE TIED CARD OF 'lambentlaw14.PrettyTexts'. -/
def prettyTextsCard : Claim7 := { stood := { row := prettyTextsRow, standIns := [], harness := (true, "d1847dc33798fc954762d59dcbe426824e1600a52c1be83b479124aae5017af3"), looks := true }, kinds := [], alts := [], laidByText := true, laidKinds := [.data, .data, .data, .data, .sentinel, .sentinel, .pinned], laidTests := true, laidLooks := .later }
def PrettyTextsCardSaid : Prop := Claim7.holds Tryz.pinned (.plain (OpenSpec.ofChange prettyTextsSpec)) prettyTextsCard

/-- THE TIED CARD OF 'lambentlaw14.PrettyNames'. -/
def prettyNamesCard : Claim7 := { stood := { row := prettyNamesRow, standIns := [], harness := (true, "d1847dc33798fc954762d59dcbe426824e1600a52c1be83b479124aae5017af3"), looks := true }, kinds := [], alts := [], laidByText := true, laidKinds := [.data, .data, .data, .data, .sentinel, .sentinel, .pinned], laidTests := true, laidLooks := .later }
def PrettyNamesCardSaid : Prop := Claim7.holds Tryz.pinned (.plain (OpenSpec.ofChange prettyNamesSpec)) prettyNamesCard

/-- THE TIED CARD OF 'lambentlaw14.PrettyValues'. -/
def prettyValuesCard : Claim7 := { stood := { row := prettyValuesRow, standIns := [], harness := (true, "d1847dc33798fc954762d59dcbe426824e1600a52c1be83b479124aae5017af3"), looks := true }, kinds := [], alts := [], laidByText := true, laidKinds := [.data, .data, .data, .data, .sentinel, .sentinel, .pinned], laidTests := true, laidLooks := .later }
def PrettyValuesCardSaid : Prop := Claim7.holds Tryz.pinned (.plain (OpenSpec.ofChange prettyValuesSpec)) prettyValuesCard

/-- THE TIED CARD OF 'lambentlaw12.InferTerms'. -/
def inferTermsCard : Claim7 := { stood := { row := inferTermsRow, standIns := [], harness := (true, "d1847dc33798fc954762d59dcbe426824e1600a52c1be83b479124aae5017af3"), looks := true }, kinds := [], alts := [], laidByText := true, laidKinds := [.data, .data, .data, .data, .sentinel, .sentinel, .pinned], laidTests := true, laidLooks := .later }
def InferTermsCardSaid : Prop := Claim7.holds Tryz.pinned (.plain (OpenSpec.ofChange inferTermsSpec)) inferTermsCard

/-- THE TIED CARD OF 'lambentlaw12.InferNames'. -/
def inferNamesCard : Claim7 := { stood := { row := inferNamesRow, standIns := [], harness := (true, "d1847dc33798fc954762d59dcbe426824e1600a52c1be83b479124aae5017af3"), looks := true }, kinds := [], alts := [], laidByText := true, laidKinds := [.data, .data, .data, .data, .sentinel, .sentinel, .pinned], laidTests := true, laidLooks := .later }
def InferNamesCardSaid : Prop := Claim7.holds Tryz.pinned (.plain (OpenSpec.ofChange inferNamesSpec)) inferNamesCard

/-- THE TIED CARD OF 'lambentlaw12.InferMore'. -/
def inferMoreCard : Claim7 := { stood := { row := inferMoreRow, standIns := [], harness := (true, "d1847dc33798fc954762d59dcbe426824e1600a52c1be83b479124aae5017af3"), looks := true }, kinds := [], alts := [], laidByText := true, laidKinds := [.data, .data, .data, .data, .sentinel, .sentinel, .pinned], laidTests := true, laidLooks := .later }
def InferMoreCardSaid : Prop := Claim7.holds Tryz.pinned (.plain (OpenSpec.ofChange inferMoreSpec)) inferMoreCard

/-- THE TIED CARD OF 'lambentlaw13.ClauseParts'. -/
def clausePartsCard : Claim7 := { stood := { row := clausePartsRow, standIns := [], harness := (true, "d1847dc33798fc954762d59dcbe426824e1600a52c1be83b479124aae5017af3"), looks := true }, kinds := [], alts := [], laidByText := true, laidKinds := [.data, .data, .data, .data, .sentinel, .sentinel, .pinned], laidTests := true, laidLooks := .later }
def ClausePartsCardSaid : Prop := Claim7.holds Tryz.pinned (.plain (OpenSpec.ofChange clausePartsSpec)) clausePartsCard

/-- THE TIED CARD OF 'lambentlaw13.ClauseGoals'. -/
def clauseGoalsCard : Claim7 := { stood := { row := clauseGoalsRow, standIns := [], harness := (true, "d1847dc33798fc954762d59dcbe426824e1600a52c1be83b479124aae5017af3"), looks := true }, kinds := [], alts := [], laidByText := true, laidKinds := [.data, .data, .data, .data, .sentinel, .sentinel, .pinned], laidTests := true, laidLooks := .later }
def ClauseGoalsCardSaid : Prop := Claim7.holds Tryz.pinned (.plain (OpenSpec.ofChange clauseGoalsSpec)) clauseGoalsCard

/-- THE TIED CARD OF 'lambentlaw13.ClauseOpens'. -/
def clauseOpensCard : Claim7 := { stood := { row := clauseOpensRow, standIns := [], harness := (true, "d1847dc33798fc954762d59dcbe426824e1600a52c1be83b479124aae5017af3"), looks := true }, kinds := [], alts := [], laidByText := true, laidKinds := [.data, .data, .data, .data, .sentinel, .sentinel, .pinned], laidTests := true, laidLooks := .later }
def ClauseOpensCardSaid : Prop := Claim7.holds Tryz.pinned (.plain (OpenSpec.ofChange clauseOpensSpec)) clauseOpensCard

/-- THE SECOND FORM's CARD OF 'lambentlaw14.PrettyTexts'. -/
def prettyTextsUptoCard : Claim7 := { stood := { row := prettyTextsUptoRow, standIns := [], harness := (true, "d1847dc33798fc954762d59dcbe426824e1600a52c1be83b479124aae5017af3"), looks := true }, kinds := [], alts := [], laidByText := true, laidKinds := [.data, .data, .data, .data, .sentinel, .sentinel, .pinned], laidTests := true, laidLooks := .later }
def PrettyTextsUptoCardSaid : Prop := Claim7.holds Tryz.pinned (.plain (OpenSpec.upto prettyTextsSpec)) prettyTextsUptoCard

/-- THE SECOND FORM's CARD OF 'lambentlaw14.PrettyNames'. -/
def prettyNamesUptoCard : Claim7 := { stood := { row := prettyNamesUptoRow, standIns := [], harness := (true, "d1847dc33798fc954762d59dcbe426824e1600a52c1be83b479124aae5017af3"), looks := true }, kinds := [], alts := [], laidByText := true, laidKinds := [.data, .data, .data, .data, .sentinel, .sentinel, .pinned], laidTests := true, laidLooks := .later }
def PrettyNamesUptoCardSaid : Prop := Claim7.holds Tryz.pinned (.plain (OpenSpec.upto prettyNamesSpec)) prettyNamesUptoCard

/-- THE SECOND FORM's CARD OF 'lambentlaw14.PrettyValues'. -/
def prettyValuesUptoCard : Claim7 := { stood := { row := prettyValuesUptoRow, standIns := [], harness := (true, "d1847dc33798fc954762d59dcbe426824e1600a52c1be83b479124aae5017af3"), looks := true }, kinds := [], alts := [], laidByText := true, laidKinds := [.data, .data, .data, .data, .sentinel, .sentinel, .pinned], laidTests := true, laidLooks := .later }
def PrettyValuesUptoCardSaid : Prop := Claim7.holds Tryz.pinned (.plain (OpenSpec.upto prettyValuesSpec)) prettyValuesUptoCard

/-- THE SECOND FORM's CARD OF 'lambentlaw12.InferTerms'. -/
def inferTermsUptoCard : Claim7 := { stood := { row := inferTermsUptoRow, standIns := [], harness := (true, "d1847dc33798fc954762d59dcbe426824e1600a52c1be83b479124aae5017af3"), looks := true }, kinds := [], alts := [], laidByText := true, laidKinds := [.data, .data, .data, .data, .sentinel, .sentinel, .pinned], laidTests := true, laidLooks := .later }
def InferTermsUptoCardSaid : Prop := Claim7.holds Tryz.pinned (.plain (OpenSpec.upto inferTermsSpec)) inferTermsUptoCard

/-- THE SECOND FORM's CARD OF 'lambentlaw12.InferNames'. -/
def inferNamesUptoCard : Claim7 := { stood := { row := inferNamesUptoRow, standIns := [], harness := (true, "d1847dc33798fc954762d59dcbe426824e1600a52c1be83b479124aae5017af3"), looks := true }, kinds := [], alts := [], laidByText := true, laidKinds := [.data, .data, .data, .data, .sentinel, .sentinel, .pinned], laidTests := true, laidLooks := .later }
def InferNamesUptoCardSaid : Prop := Claim7.holds Tryz.pinned (.plain (OpenSpec.upto inferNamesSpec)) inferNamesUptoCard

/-- THE SECOND FORM's CARD OF 'lambentlaw12.InferMore'. -/
def inferMoreUptoCard : Claim7 := { stood := { row := inferMoreUptoRow, standIns := [], harness := (true, "d1847dc33798fc954762d59dcbe426824e1600a52c1be83b479124aae5017af3"), looks := true }, kinds := [], alts := [], laidByText := true, laidKinds := [.data, .data, .data, .data, .sentinel, .sentinel, .pinned], laidTests := true, laidLooks := .later }
def InferMoreUptoCardSaid : Prop := Claim7.holds Tryz.pinned (.plain (OpenSpec.upto inferMoreSpec)) inferMoreUptoCard

/-- THE SECOND FORM's CARD OF 'lambentlaw13.ClauseParts'. -/
def clausePartsUptoCard : Claim7 := { stood := { row := clausePartsUptoRow, standIns := [], harness := (true, "d1847dc33798fc954762d59dcbe426824e1600a52c1be83b479124aae5017af3"), looks := true }, kinds := [], alts := [], laidByText := true, laidKinds := [.data, .data, .data, .data, .sentinel, .sentinel, .pinned], laidTests := true, laidLooks := .later }
def ClausePartsUptoCardSaid : Prop := Claim7.holds Tryz.pinned (.plain (OpenSpec.upto clausePartsSpec)) clausePartsUptoCard

/-- THE SECOND FORM's CARD OF 'lambentlaw13.ClauseGoals'. -/
def clauseGoalsUptoCard : Claim7 := { stood := { row := clauseGoalsUptoRow, standIns := [], harness := (true, "d1847dc33798fc954762d59dcbe426824e1600a52c1be83b479124aae5017af3"), looks := true }, kinds := [], alts := [], laidByText := true, laidKinds := [.data, .data, .data, .data, .sentinel, .sentinel, .pinned], laidTests := true, laidLooks := .later }
def ClauseGoalsUptoCardSaid : Prop := Claim7.holds Tryz.pinned (.plain (OpenSpec.upto clauseGoalsSpec)) clauseGoalsUptoCard

/-- THE SECOND FORM's CARD OF 'lambentlaw13.ClauseOpens'. -/
def clauseOpensUptoCard : Claim7 := { stood := { row := clauseOpensUptoRow, standIns := [], harness := (true, "d1847dc33798fc954762d59dcbe426824e1600a52c1be83b479124aae5017af3"), looks := true }, kinds := [], alts := [], laidByText := true, laidKinds := [.data, .data, .data, .data, .sentinel, .sentinel, .pinned], laidTests := true, laidLooks := .later }
def ClauseOpensUptoCardSaid : Prop := Claim7.holds Tryz.pinned (.plain (OpenSpec.upto clauseOpensSpec)) clauseOpensUptoCard
end Rows
end Go.Proofs.YtpcmcfajfnpjeaaGreatDoor
