/-
  DERIVED. GIVEN WITH THE SEED: THE CARDS: each row of YtblbmkhlnaaopaaDoorRows.lean that lists a variable, with what it lists TIED to the program's text (the seventh form; the later family's looks); each row that meets fmt, with fmt's text TOLD by the authors' own Lean function (tested against real Go, not proved from fmt's source: count such statements apart). THE CARD IS WHAT COUNTS. Prove the row's statement (the work); the ties are given (YtblbmkhlnaaopaaDoorTie.lean); close each card by the builder's one call (the guide's Derived/Test/ToyasCard.lean, 'card_holds'). Laid BY PROGRAM, IN A SANDBOX (cutbox-door.mjs). By AI agents, Wed Nov 11 2026. No macro, syntax, notation, axiom, sorry.
-/
import Derived.Test.YtblbmkhlnaaopaaDoorRows
import GoSem.ClaimSeven
namespace Go.Proofs.YtblbmkhlnaaopaaDoor
namespace Rows

/-- THE TIED CARD OF 'conciergelaw05.CanonPaths'. -/
def canonPathsCard : Claim7 := { stood := { row := canonPathsRow, standIns := [], harness := (true, "2cdd596f11ff8d6560d73677dbb3e5c5173416df5e171f46a947bb3e065a17dc"), looks := false }, kinds := [], alts := [], laidByText := true, laidKinds := [.data, .pinned], laidTests := true, laidLooks := .later }
def CanonPathsCardSaid : Prop := Claim7.holds Tryd.pinned (.plain (OpenSpec.ofChange canonPathsSpec)) canonPathsCard

/-- THE TIED CARD OF 'conciergelaw05.CanonNames'. -/
def canonNamesCard : Claim7 := { stood := { row := canonNamesRow, standIns := [], harness := (true, "2cdd596f11ff8d6560d73677dbb3e5c5173416df5e171f46a947bb3e065a17dc"), looks := false }, kinds := [], alts := [], laidByText := true, laidKinds := [.data, .pinned], laidTests := true, laidLooks := .later }
def CanonNamesCardSaid : Prop := Claim7.holds Tryd.pinned (.plain (OpenSpec.ofChange canonNamesSpec)) canonNamesCard

/-- THE TIED CARD OF 'conciergelaw05.CanonPrints'. -/
def canonPrintsCard : Claim7 := { stood := { row := canonPrintsRow, standIns := [], harness := (true, "2cdd596f11ff8d6560d73677dbb3e5c5173416df5e171f46a947bb3e065a17dc"), looks := false }, kinds := [], alts := [], laidByText := true, laidKinds := [.data, .pinned], laidTests := true, laidLooks := .later }
def CanonPrintsCardSaid : Prop := Claim7.holds Tryd.pinned (.plain (OpenSpec.ofChange canonPrintsSpec)) canonPrintsCard

/-- THE TIED CARD OF 'conciergelaw05.CanonRequests'. -/
def canonRequestsCard : Claim7 := { stood := { row := canonRequestsRow, standIns := [], harness := (true, "2cdd596f11ff8d6560d73677dbb3e5c5173416df5e171f46a947bb3e065a17dc"), looks := false }, kinds := [], alts := [], laidByText := true, laidKinds := [.data, .pinned], laidTests := true, laidLooks := .later }
def CanonRequestsCardSaid : Prop := Claim7.holds Tryd.pinned (.plain (OpenSpec.ofChange canonRequestsSpec)) canonRequestsCard

/-- THE SECOND FORM's CARD OF 'conciergelaw05.CanonPaths'. -/
def canonPathsUptoCard : Claim7 := { stood := { row := canonPathsUptoRow, standIns := [], harness := (true, "2cdd596f11ff8d6560d73677dbb3e5c5173416df5e171f46a947bb3e065a17dc"), looks := false }, kinds := [], alts := [], laidByText := true, laidKinds := [.data, .pinned], laidTests := true, laidLooks := .later }
def CanonPathsUptoCardSaid : Prop := Claim7.holds Tryd.pinned (.plain (OpenSpec.upto canonPathsSpec)) canonPathsUptoCard

/-- THE SECOND FORM's CARD OF 'conciergelaw05.CanonNames'. -/
def canonNamesUptoCard : Claim7 := { stood := { row := canonNamesUptoRow, standIns := [], harness := (true, "2cdd596f11ff8d6560d73677dbb3e5c5173416df5e171f46a947bb3e065a17dc"), looks := false }, kinds := [], alts := [], laidByText := true, laidKinds := [.data, .pinned], laidTests := true, laidLooks := .later }
def CanonNamesUptoCardSaid : Prop := Claim7.holds Tryd.pinned (.plain (OpenSpec.upto canonNamesSpec)) canonNamesUptoCard

/-- THE SECOND FORM's CARD OF 'conciergelaw05.CanonPrints'. -/
def canonPrintsUptoCard : Claim7 := { stood := { row := canonPrintsUptoRow, standIns := [], harness := (true, "2cdd596f11ff8d6560d73677dbb3e5c5173416df5e171f46a947bb3e065a17dc"), looks := false }, kinds := [], alts := [], laidByText := true, laidKinds := [.data, .pinned], laidTests := true, laidLooks := .later }
def CanonPrintsUptoCardSaid : Prop := Claim7.holds Tryd.pinned (.plain (OpenSpec.upto canonPrintsSpec)) canonPrintsUptoCard

/-- THE SECOND FORM's CARD OF 'conciergelaw05.CanonRequests'. -/
def canonRequestsUptoCard : Claim7 := { stood := { row := canonRequestsUptoRow, standIns := [], harness := (true, "2cdd596f11ff8d6560d73677dbb3e5c5173416df5e171f46a947bb3e065a17dc"), looks := false }, kinds := [], alts := [], laidByText := true, laidKinds := [.data, .pinned], laidTests := true, laidLooks := .later }
def CanonRequestsUptoCardSaid : Prop := Claim7.holds Tryd.pinned (.plain (OpenSpec.upto canonRequestsSpec)) canonRequestsUptoCard
end Rows
end Go.Proofs.YtblbmkhlnaaopaaDoor
