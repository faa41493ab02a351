/-
  DERIVED. GIVEN WITH THE SEED: THE CARDS: each row of YtgejjocbhonkjaaGreatDoorRows.lean that lists a variable, with what it lists TIED to the program's text (the seventh form; the later family's looks); each row that meets fmt, with fmt's text TOLD by the authors' own Lean function (tested against real Go, not proved from fmt's source: count such statements apart). THE CARD IS WHAT COUNTS. Prove the row's statement (the work); the ties are given (YtgejjocbhonkjaaGreatDoorTie.lean); close each card by the builder's one call (the guide's Derived/Test/ToyasCard.lean, 'card_holds'). Laid BY PROGRAM, IN A SANDBOX (cutbox-door.mjs). By AI agents, Wed Nov 11 2026. No macro, syntax, notation, axiom, sorry.
-/
import Derived.Test.YtgejjocbhonkjaaGreatDoorRows
import GoSem.ClaimSeven
namespace Go.Proofs.YtgejjocbhonkjaaGreatDoor
namespace Rows

/-- THE TIED CARD OF 'conciergelaw42.PagePages'. -/
def pagePagesCard : Claim7 := { stood := { row := pagePagesRow, standIns := [], harness := (true, "fa543199c6a26a7a220cdd5b843aff3ec23d0f77afecb1ddc74659f899c93908"), looks := true }, kinds := [], alts := [], laidByText := true, laidKinds := [.data, .pinned], laidTests := true, laidLooks := .later }
def PagePagesCardSaid : Prop := Claim7.holds Tryz.pinned (.plain (OpenSpec.ofChange pagePagesSpec)) pagePagesCard

/-- THE TIED CARD OF 'conciergelaw42.PageWalks'. -/
def pageWalksCard : Claim7 := { stood := { row := pageWalksRow, standIns := [], harness := (true, "fa543199c6a26a7a220cdd5b843aff3ec23d0f77afecb1ddc74659f899c93908"), looks := true }, kinds := [], alts := [], laidByText := true, laidKinds := [.data, .pinned], laidTests := true, laidLooks := .later }
def PageWalksCardSaid : Prop := Claim7.holds Tryz.pinned (.plain (OpenSpec.ofChange pageWalksSpec)) pageWalksCard

/-- THE TIED CARD OF 'conciergelaw09.JsonForms'. -/
def jsonFormsCard : Claim7 := { stood := { row := jsonFormsRow, standIns := [], harness := (true, "fa543199c6a26a7a220cdd5b843aff3ec23d0f77afecb1ddc74659f899c93908"), looks := true }, kinds := [], alts := [], laidByText := true, laidKinds := [.data, .data, .data, .sentinel, .sentinel], laidTests := true, laidLooks := .later }
def JsonFormsCardSaid : Prop := Claim7.holds Tryz.pinned (.plain (OpenSpec.ofChange jsonFormsSpec)) jsonFormsCard

/-- THE TIED CARD OF 'conciergelaw09.JsonOrder'. -/
def jsonOrderCard : Claim7 := { stood := { row := jsonOrderRow, standIns := [], harness := (true, "fa543199c6a26a7a220cdd5b843aff3ec23d0f77afecb1ddc74659f899c93908"), looks := true }, kinds := [], alts := [], laidByText := true, laidKinds := [.data, .data, .data, .sentinel, .sentinel], laidTests := true, laidLooks := .later }
def JsonOrderCardSaid : Prop := Claim7.holds Tryz.pinned (.plain (OpenSpec.ofChange jsonOrderSpec)) jsonOrderCard

/-- THE TIED CARD OF 'conciergelaw09.JsonParts'. -/
def jsonPartsCard : Claim7 := { stood := { row := jsonPartsRow, standIns := [], harness := (true, "fa543199c6a26a7a220cdd5b843aff3ec23d0f77afecb1ddc74659f899c93908"), looks := true }, kinds := [], alts := [], laidByText := true, laidKinds := [.data, .data, .data, .sentinel, .sentinel], laidTests := true, laidLooks := .later }
def JsonPartsCardSaid : Prop := Claim7.holds Tryz.pinned (.plain (OpenSpec.ofChange jsonPartsSpec)) jsonPartsCard

/-- THE SECOND FORM's CARD OF 'conciergelaw42.PagePages'. -/
def pagePagesUptoCard : Claim7 := { stood := { row := pagePagesUptoRow, standIns := [], harness := (true, "fa543199c6a26a7a220cdd5b843aff3ec23d0f77afecb1ddc74659f899c93908"), looks := true }, kinds := [], alts := [], laidByText := true, laidKinds := [.data, .pinned], laidTests := true, laidLooks := .later }
def PagePagesUptoCardSaid : Prop := Claim7.holds Tryz.pinned (.plain (OpenSpec.upto pagePagesSpec)) pagePagesUptoCard

/-- THE SECOND FORM's CARD OF 'conciergelaw42.PageWalks'. -/
def pageWalksUptoCard : Claim7 := { stood := { row := pageWalksUptoRow, standIns := [], harness := (true, "fa543199c6a26a7a220cdd5b843aff3ec23d0f77afecb1ddc74659f899c93908"), looks := true }, kinds := [], alts := [], laidByText := true, laidKinds := [.data, .pinned], laidTests := true, laidLooks := .later }
def PageWalksUptoCardSaid : Prop := Claim7.holds Tryz.pinned (.plain (OpenSpec.upto pageWalksSpec)) pageWalksUptoCard

/-- THE SECOND FORM's CARD OF 'conciergelaw09.JsonForms'. -/
def jsonFormsUptoCard : Claim7 := { stood := { row := jsonFormsUptoRow, standIns := [], harness := (true, "fa543199c6a26a7a220cdd5b843aff3ec23d0f77afecb1ddc74659f899c93908"), looks := true }, kinds := [], alts := [], laidByText := true, laidKinds := [.data, .data, .data, .sentinel, .sentinel], laidTests := true, laidLooks := .later }
def JsonFormsUptoCardSaid : Prop := Claim7.holds Tryz.pinned (.plain (OpenSpec.upto jsonFormsSpec)) jsonFormsUptoCard

/-- THE SECOND FORM's CARD OF 'conciergelaw09.JsonOrder'. -/
def jsonOrderUptoCard : Claim7 := { stood := { row := jsonOrderUptoRow, standIns := [], harness := (true, "fa543199c6a26a7a220cdd5b843aff3ec23d0f77afecb1ddc74659f899c93908"), looks := true }, kinds := [], alts := [], laidByText := true, laidKinds := [.data, .data, .data, .sentinel, .sentinel], laidTests := true, laidLooks := .later }
def JsonOrderUptoCardSaid : Prop := Claim7.holds Tryz.pinned (.plain (OpenSpec.upto jsonOrderSpec)) jsonOrderUptoCard

/-- THE SECOND FORM's CARD OF 'conciergelaw09.JsonParts'. -/
def jsonPartsUptoCard : Claim7 := { stood := { row := jsonPartsUptoRow, standIns := [], harness := (true, "fa543199c6a26a7a220cdd5b843aff3ec23d0f77afecb1ddc74659f899c93908"), looks := true }, kinds := [], alts := [], laidByText := true, laidKinds := [.data, .data, .data, .sentinel, .sentinel], laidTests := true, laidLooks := .later }
def JsonPartsUptoCardSaid : Prop := Claim7.holds Tryz.pinned (.plain (OpenSpec.upto jsonPartsSpec)) jsonPartsUptoCard
end Rows
end Go.Proofs.YtgejjocbhonkjaaGreatDoor
