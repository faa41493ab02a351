/-
  DERIVED. GIVEN WITH THE SEED: THE CARDS: each row of YtgeafoacmnlioaaDoorRows.lean that lists a variable, with what it lists TIED to the program's text (the seventh form; the later family's looks); each row that meets fmt, with fmt's text TOLD by the authors' own Lean function (tested against real Go, not proved from fmt's source: count such statements apart). THE CARD IS WHAT COUNTS. Prove the row's statement (the work); the ties are given (YtgeafoacmnlioaaDoorTie.lean); close each card by the builder's one call (the guide's Derived/Test/ToyasCard.lean, 'card_holds'). Laid BY PROGRAM, IN A SANDBOX (cutbox-door.mjs). By AI agents, Wed Nov 11 2026. No macro, syntax, notation, axiom, sorry.
-/
import Derived.Test.YtgeafoacmnlioaaDoorRows
import GoSem.ClaimSeven
namespace Go.Proofs.YtgeafoacmnlioaaDoor
namespace Rows

/-- THE TIED CARD OF 'conciergelaw42.PageMarks'. -/
def pageMarksCard : Claim7 := { stood := { row := pageMarksRow, standIns := [], harness := (true, "dbc2674e3c58bff7d21401558cef54afe90ea306819bd404b1fca094aa77cd31"), looks := false }, kinds := [], alts := [], laidByText := true, laidKinds := [.data, .pinned], laidTests := true, laidLooks := .later }
def PageMarksCardSaid : Prop := Claim7.holds Tryd.pinned (.plain (OpenSpec.ofChange pageMarksSpec)) pageMarksCard

/-- THE TIED CARD OF 'conciergelaw42.PageTurned'. -/
def pageTurnedCard : Claim7 := { stood := { row := pageTurnedRow, standIns := [], harness := (true, "dbc2674e3c58bff7d21401558cef54afe90ea306819bd404b1fca094aa77cd31"), looks := false }, kinds := [], alts := [], laidByText := true, laidKinds := [.data, .pinned], laidTests := true, laidLooks := .later }
def PageTurnedCardSaid : Prop := Claim7.holds Tryd.pinned (.plain (OpenSpec.ofChange pageTurnedSpec)) pageTurnedCard

/-- THE TIED CARD OF 'conciergelaw38.HeadAny'. -/
def headAnyCard : Claim7 := { stood := { row := headAnyRow, standIns := [], harness := (true, "dbc2674e3c58bff7d21401558cef54afe90ea306819bd404b1fca094aa77cd31"), looks := false }, kinds := [], alts := [], laidByText := true, laidKinds := [.data, .pinned], laidTests := true, laidLooks := .later }
def HeadAnyCardSaid : Prop := Claim7.holds Tryd.pinned (.plain (OpenSpec.ofChange headAnySpec)) headAnyCard

/-- THE TIED CARD OF 'conciergelaw38.HeadTurned'. -/
def headTurnedCard : Claim7 := { stood := { row := headTurnedRow, standIns := [], harness := (true, "dbc2674e3c58bff7d21401558cef54afe90ea306819bd404b1fca094aa77cd31"), looks := false }, kinds := [], alts := [], laidByText := true, laidKinds := [.data, .pinned], laidTests := true, laidLooks := .later }
def HeadTurnedCardSaid : Prop := Claim7.holds Tryd.pinned (.plain (OpenSpec.ofChange headTurnedSpec)) headTurnedCard

/-- THE TIED CARD OF 'conciergelaw38.HeadBack'. -/
def headBackCard : Claim7 := { stood := { row := headBackRow, standIns := [], harness := (true, "dbc2674e3c58bff7d21401558cef54afe90ea306819bd404b1fca094aa77cd31"), looks := false }, kinds := [], alts := [], laidByText := true, laidKinds := [.data, .pinned], laidTests := true, laidLooks := .later }
def HeadBackCardSaid : Prop := Claim7.holds Tryd.pinned (.plain (OpenSpec.ofChange headBackSpec)) headBackCard

/-- THE SECOND FORM's CARD OF 'conciergelaw42.PageMarks'. -/
def pageMarksUptoCard : Claim7 := { stood := { row := pageMarksUptoRow, standIns := [], harness := (true, "dbc2674e3c58bff7d21401558cef54afe90ea306819bd404b1fca094aa77cd31"), looks := false }, kinds := [], alts := [], laidByText := true, laidKinds := [.data, .pinned], laidTests := true, laidLooks := .later }
def PageMarksUptoCardSaid : Prop := Claim7.holds Tryd.pinned (.plain (OpenSpec.upto pageMarksSpec)) pageMarksUptoCard

/-- THE SECOND FORM's CARD OF 'conciergelaw42.PageTurned'. -/
def pageTurnedUptoCard : Claim7 := { stood := { row := pageTurnedUptoRow, standIns := [], harness := (true, "dbc2674e3c58bff7d21401558cef54afe90ea306819bd404b1fca094aa77cd31"), looks := false }, kinds := [], alts := [], laidByText := true, laidKinds := [.data, .pinned], laidTests := true, laidLooks := .later }
def PageTurnedUptoCardSaid : Prop := Claim7.holds Tryd.pinned (.plain (OpenSpec.upto pageTurnedSpec)) pageTurnedUptoCard

/-- THE SECOND FORM's CARD OF 'conciergelaw38.HeadAny'. -/
def headAnyUptoCard : Claim7 := { stood := { row := headAnyUptoRow, standIns := [], harness := (true, "dbc2674e3c58bff7d21401558cef54afe90ea306819bd404b1fca094aa77cd31"), looks := false }, kinds := [], alts := [], laidByText := true, laidKinds := [.data, .pinned], laidTests := true, laidLooks := .later }
def HeadAnyUptoCardSaid : Prop := Claim7.holds Tryd.pinned (.plain (OpenSpec.upto headAnySpec)) headAnyUptoCard

/-- THE SECOND FORM's CARD OF 'conciergelaw38.HeadTurned'. -/
def headTurnedUptoCard : Claim7 := { stood := { row := headTurnedUptoRow, standIns := [], harness := (true, "dbc2674e3c58bff7d21401558cef54afe90ea306819bd404b1fca094aa77cd31"), looks := false }, kinds := [], alts := [], laidByText := true, laidKinds := [.data, .pinned], laidTests := true, laidLooks := .later }
def HeadTurnedUptoCardSaid : Prop := Claim7.holds Tryd.pinned (.plain (OpenSpec.upto headTurnedSpec)) headTurnedUptoCard

/-- THE SECOND FORM's CARD OF 'conciergelaw38.HeadBack'. -/
def headBackUptoCard : Claim7 := { stood := { row := headBackUptoRow, standIns := [], harness := (true, "dbc2674e3c58bff7d21401558cef54afe90ea306819bd404b1fca094aa77cd31"), looks := false }, kinds := [], alts := [], laidByText := true, laidKinds := [.data, .pinned], laidTests := true, laidLooks := .later }
def HeadBackUptoCardSaid : Prop := Claim7.holds Tryd.pinned (.plain (OpenSpec.upto headBackSpec)) headBackUptoCard
end Rows
end Go.Proofs.YtgeafoacmnlioaaDoor
