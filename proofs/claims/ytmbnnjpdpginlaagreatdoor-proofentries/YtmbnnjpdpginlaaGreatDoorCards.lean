/-
  DERIVED. GIVEN WITH THE SEED: THE CARDS: each row of YtmbnnjpdpginlaaGreatDoorRows.lean that lists a variable, with what it lists TIED to the program's text (the seventh form; the later family's looks); each row that meets fmt, with fmt's text TOLD by the authors' own Lean function (tested against real Go, not proved from fmt's source: count such statements apart). THE CARD IS WHAT COUNTS. Prove the row's statement (the work); the ties are given (YtmbnnjpdpginlaaGreatDoorTie.lean); close each card by the builder's one call (the guide's Derived/Test/ToyasCard.lean, 'card_holds'). Laid BY PROGRAM, IN A SANDBOX (cutbox-door.mjs). By AI agents, Wed Nov 11 2026. No macro, syntax, notation, axiom, sorry.
-/
import Derived.Test.YtmbnnjpdpginlaaGreatDoorRows
import GoSem.ClaimSeven
namespace Go.Proofs.YtmbnnjpdpginlaaGreatDoor
namespace Rows

/-- THE TIED CARD OF 'conciergelaw19.SnapBack'. -/
def snapBackCard : Claim7 := { stood := { row := snapBackRow, standIns := [], harness := (true, "fa174c21a7dc904136144d597b053306c16608c3c54aee205863597c91b40dff"), looks := false }, kinds := [], alts := [], laidByText := true, laidKinds := [.data, .pinned], laidTests := true, laidLooks := .later }
def SnapBackCardSaid : Prop := Claim7.holds Tryz.pinned (.plain (OpenSpec.ofChange snapBackSpec)) snapBackCard

/-- THE TIED CARD OF 'conciergelaw19.SnapAny'. -/
def snapAnyCard : Claim7 := { stood := { row := snapAnyRow, standIns := [], harness := (true, "fa174c21a7dc904136144d597b053306c16608c3c54aee205863597c91b40dff"), looks := false }, kinds := [], alts := [], laidByText := true, laidKinds := [.data, .pinned], laidTests := true, laidLooks := .later }
def SnapAnyCardSaid : Prop := Claim7.holds Tryz.pinned (.plain (OpenSpec.ofChange snapAnySpec)) snapAnyCard

/-- THE TIED CARD OF 'conciergelaw41.ProofEntries'. -/
def proofEntriesCard : Claim7 := { stood := { row := proofEntriesRow, standIns := [], harness := (true, "fa174c21a7dc904136144d597b053306c16608c3c54aee205863597c91b40dff"), looks := false }, kinds := [], alts := [], laidByText := true, laidKinds := [.data, .pinned], laidTests := true, laidLooks := .later }
def ProofEntriesCardSaid : Prop := Claim7.holds Tryz.pinned (.plain (OpenSpec.ofChange proofEntriesSpec)) proofEntriesCard

/-- THE SECOND FORM's CARD OF 'conciergelaw19.SnapBack'. -/
def snapBackUptoCard : Claim7 := { stood := { row := snapBackUptoRow, standIns := [], harness := (true, "fa174c21a7dc904136144d597b053306c16608c3c54aee205863597c91b40dff"), looks := false }, kinds := [], alts := [], laidByText := true, laidKinds := [.data, .pinned], laidTests := true, laidLooks := .later }
def SnapBackUptoCardSaid : Prop := Claim7.holds Tryz.pinned (.plain (OpenSpec.upto snapBackSpec)) snapBackUptoCard

/-- THE SECOND FORM's CARD OF 'conciergelaw19.SnapAny'. -/
def snapAnyUptoCard : Claim7 := { stood := { row := snapAnyUptoRow, standIns := [], harness := (true, "fa174c21a7dc904136144d597b053306c16608c3c54aee205863597c91b40dff"), looks := false }, kinds := [], alts := [], laidByText := true, laidKinds := [.data, .pinned], laidTests := true, laidLooks := .later }
def SnapAnyUptoCardSaid : Prop := Claim7.holds Tryz.pinned (.plain (OpenSpec.upto snapAnySpec)) snapAnyUptoCard

/-- THE SECOND FORM's CARD OF 'conciergelaw41.ProofEntries'. -/
def proofEntriesUptoCard : Claim7 := { stood := { row := proofEntriesUptoRow, standIns := [], harness := (true, "fa174c21a7dc904136144d597b053306c16608c3c54aee205863597c91b40dff"), looks := false }, kinds := [], alts := [], laidByText := true, laidKinds := [.data, .pinned], laidTests := true, laidLooks := .later }
def ProofEntriesUptoCardSaid : Prop := Claim7.holds Tryz.pinned (.plain (OpenSpec.upto proofEntriesSpec)) proofEntriesUptoCard
end Rows
end Go.Proofs.YtmbnnjpdpginlaaGreatDoor
