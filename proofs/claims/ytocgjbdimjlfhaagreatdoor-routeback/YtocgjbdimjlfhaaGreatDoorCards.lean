/-
  DERIVED. GIVEN WITH THE SEED: THE CARDS: each row of YtocgjbdimjlfhaaGreatDoorRows.lean that lists a variable, with what it lists TIED to the program's text (the seventh form; the later family's looks); each row that meets fmt, with fmt's text TOLD by the authors' own Lean function (tested against real Go, not proved from fmt's source: count such statements apart). THE CARD IS WHAT COUNTS. Prove the row's statement (the work); the ties are given (YtocgjbdimjlfhaaGreatDoorTie.lean); close each card by the builder's one call (the guide's Derived/Test/ToyasCard.lean, 'card_holds'). Laid BY PROGRAM, IN A SANDBOX (cutbox-door.mjs). By AI agents, Wed Nov 11 2026. No macro, syntax, notation, axiom, sorry.
-/
import Derived.Test.YtocgjbdimjlfhaaGreatDoorRows
import GoSem.ClaimSeven
namespace Go.Proofs.YtocgjbdimjlfhaaGreatDoor
namespace Rows

/-- THE TIED CARD OF 'conciergelaw24.RouteFits'. -/
def routeFitsCard : Claim7 := { stood := { row := routeFitsRow, standIns := [], harness := (true, "6a8e5d7384cfcc131d58bdbb783b0a1006565c31bde8bf92522a2a8838e28f7e"), looks := true }, kinds := [], alts := [], laidByText := true, laidKinds := [.data, .data, .data, .data, .sentinel, .sentinel, .pinned], laidTests := true, laidLooks := .later }
def RouteFitsCardSaid : Prop := Claim7.holds Tryz.pinned (.plain (OpenSpec.ofChange routeFitsSpec)) routeFitsCard

/-- THE TIED CARD OF 'conciergelaw24.RouteBack'. -/
def routeBackCard : Claim7 := { stood := { row := routeBackRow, standIns := [], harness := (true, "6a8e5d7384cfcc131d58bdbb783b0a1006565c31bde8bf92522a2a8838e28f7e"), looks := true }, kinds := [], alts := [], laidByText := true, laidKinds := [.data, .data, .data, .data, .sentinel, .sentinel, .pinned], laidTests := true, laidLooks := .later }
def RouteBackCardSaid : Prop := Claim7.holds Tryz.pinned (.plain (OpenSpec.ofChange routeBackSpec)) routeBackCard

/-- THE TIED CARD OF 'conciergelaw24.RouteAny'. -/
def routeAnyCard : Claim7 := { stood := { row := routeAnyRow, standIns := [], harness := (true, "6a8e5d7384cfcc131d58bdbb783b0a1006565c31bde8bf92522a2a8838e28f7e"), looks := true }, kinds := [], alts := [], laidByText := true, laidKinds := [.data, .data, .data, .data, .sentinel, .sentinel, .pinned], laidTests := true, laidLooks := .later }
def RouteAnyCardSaid : Prop := Claim7.holds Tryz.pinned (.plain (OpenSpec.ofChange routeAnySpec)) routeAnyCard

/-- THE TIED CARD OF 'conciergelaw24.RouteFinds'. -/
def routeFindsCard : Claim7 := { stood := { row := routeFindsRow, standIns := [], harness := (true, "6a8e5d7384cfcc131d58bdbb783b0a1006565c31bde8bf92522a2a8838e28f7e"), looks := true }, kinds := [], alts := [], laidByText := true, laidKinds := [.data, .data, .data, .data, .sentinel, .sentinel, .pinned], laidTests := true, laidLooks := .later }
def RouteFindsCardSaid : Prop := Claim7.holds Tryz.pinned (.plain (OpenSpec.ofChange routeFindsSpec)) routeFindsCard

/-- THE TIED CARD OF 'conciergelaw34.ScriptBack'. -/
def scriptBackCard : Claim7 := { stood := { row := scriptBackRow, standIns := [], harness := (true, "6a8e5d7384cfcc131d58bdbb783b0a1006565c31bde8bf92522a2a8838e28f7e"), looks := true }, kinds := [], alts := [], laidByText := true, laidKinds := [.data, .data, .data, .data, .sentinel, .sentinel, .pinned], laidTests := true, laidLooks := .later }
def ScriptBackCardSaid : Prop := Claim7.holds Tryz.pinned (.plain (OpenSpec.ofChange scriptBackSpec)) scriptBackCard

/-- THE TIED CARD OF 'conciergelaw34.ScriptAny'. -/
def scriptAnyCard : Claim7 := { stood := { row := scriptAnyRow, standIns := [], harness := (true, "6a8e5d7384cfcc131d58bdbb783b0a1006565c31bde8bf92522a2a8838e28f7e"), looks := true }, kinds := [], alts := [], laidByText := true, laidKinds := [.data, .data, .data, .data, .sentinel, .sentinel, .pinned], laidTests := true, laidLooks := .later }
def ScriptAnyCardSaid : Prop := Claim7.holds Tryz.pinned (.plain (OpenSpec.ofChange scriptAnySpec)) scriptAnyCard

/-- THE TIED CARD OF 'conciergelaw34.ScriptReads'. -/
def scriptReadsCard : Claim7 := { stood := { row := scriptReadsRow, standIns := [], harness := (true, "6a8e5d7384cfcc131d58bdbb783b0a1006565c31bde8bf92522a2a8838e28f7e"), looks := true }, kinds := [], alts := [], laidByText := true, laidKinds := [.data, .data, .data, .data, .sentinel, .sentinel, .pinned], laidTests := true, laidLooks := .later }
def ScriptReadsCardSaid : Prop := Claim7.holds Tryz.pinned (.plain (OpenSpec.ofChange scriptReadsSpec)) scriptReadsCard

/-- THE TIED CARD OF 'conciergelaw34.ScriptLines'. -/
def scriptLinesCard : Claim7 := { stood := { row := scriptLinesRow, standIns := [], harness := (true, "6a8e5d7384cfcc131d58bdbb783b0a1006565c31bde8bf92522a2a8838e28f7e"), looks := true }, kinds := [], alts := [], laidByText := true, laidKinds := [.data, .data, .data, .data, .sentinel, .sentinel, .pinned], laidTests := true, laidLooks := .later }
def ScriptLinesCardSaid : Prop := Claim7.holds Tryz.pinned (.plain (OpenSpec.ofChange scriptLinesSpec)) scriptLinesCard

/-- THE TIED CARD OF 'conciergelaw22.PhraseChecks'. -/
def phraseChecksCard : Claim7 := { stood := { row := phraseChecksRow, standIns := [], harness := (true, "6a8e5d7384cfcc131d58bdbb783b0a1006565c31bde8bf92522a2a8838e28f7e"), looks := true }, kinds := [], alts := [], laidByText := true, laidKinds := [.data, .data, .data, .data, .sentinel, .sentinel, .pinned], laidTests := true, laidLooks := .later }
def PhraseChecksCardSaid : Prop := Claim7.holds Tryz.pinned (.plain (OpenSpec.ofChange phraseChecksSpec)) phraseChecksCard

/-- THE TIED CARD OF 'conciergelaw22.PhraseFills'. -/
def phraseFillsCard : Claim7 := { stood := { row := phraseFillsRow, standIns := [], harness := (true, "6a8e5d7384cfcc131d58bdbb783b0a1006565c31bde8bf92522a2a8838e28f7e"), looks := true }, kinds := [], alts := [], laidByText := true, laidKinds := [.data, .data, .data, .data, .sentinel, .sentinel, .pinned], laidTests := true, laidLooks := .later }
def PhraseFillsCardSaid : Prop := Claim7.holds Tryz.pinned (.plain (OpenSpec.ofChange phraseFillsSpec)) phraseFillsCard

/-- THE TIED CARD OF 'conciergelaw22.PhrasePlain'. -/
def phrasePlainCard : Claim7 := { stood := { row := phrasePlainRow, standIns := [], harness := (true, "6a8e5d7384cfcc131d58bdbb783b0a1006565c31bde8bf92522a2a8838e28f7e"), looks := true }, kinds := [], alts := [], laidByText := true, laidKinds := [.data, .data, .data, .data, .sentinel, .sentinel, .pinned], laidTests := true, laidLooks := .later }
def PhrasePlainCardSaid : Prop := Claim7.holds Tryz.pinned (.plain (OpenSpec.ofChange phrasePlainSpec)) phrasePlainCard

/-- THE TIED CARD OF 'conciergelaw22.PhraseHears'. -/
def phraseHearsCard : Claim7 := { stood := { row := phraseHearsRow, standIns := [], harness := (true, "6a8e5d7384cfcc131d58bdbb783b0a1006565c31bde8bf92522a2a8838e28f7e"), looks := true }, kinds := [], alts := [], laidByText := true, laidKinds := [.data, .data, .data, .data, .sentinel, .sentinel, .pinned], laidTests := true, laidLooks := .later }
def PhraseHearsCardSaid : Prop := Claim7.holds Tryz.pinned (.plain (OpenSpec.ofChange phraseHearsSpec)) phraseHearsCard

/-- THE SECOND FORM's CARD OF 'conciergelaw24.RouteFits'. -/
def routeFitsUptoCard : Claim7 := { stood := { row := routeFitsUptoRow, standIns := [], harness := (true, "6a8e5d7384cfcc131d58bdbb783b0a1006565c31bde8bf92522a2a8838e28f7e"), looks := true }, kinds := [], alts := [], laidByText := true, laidKinds := [.data, .data, .data, .data, .sentinel, .sentinel, .pinned], laidTests := true, laidLooks := .later }
def RouteFitsUptoCardSaid : Prop := Claim7.holds Tryz.pinned (.plain (OpenSpec.upto routeFitsSpec)) routeFitsUptoCard

/-- THE SECOND FORM's CARD OF 'conciergelaw24.RouteBack'. -/
def routeBackUptoCard : Claim7 := { stood := { row := routeBackUptoRow, standIns := [], harness := (true, "6a8e5d7384cfcc131d58bdbb783b0a1006565c31bde8bf92522a2a8838e28f7e"), looks := true }, kinds := [], alts := [], laidByText := true, laidKinds := [.data, .data, .data, .data, .sentinel, .sentinel, .pinned], laidTests := true, laidLooks := .later }
def RouteBackUptoCardSaid : Prop := Claim7.holds Tryz.pinned (.plain (OpenSpec.upto routeBackSpec)) routeBackUptoCard

/-- THE SECOND FORM's CARD OF 'conciergelaw24.RouteAny'. -/
def routeAnyUptoCard : Claim7 := { stood := { row := routeAnyUptoRow, standIns := [], harness := (true, "6a8e5d7384cfcc131d58bdbb783b0a1006565c31bde8bf92522a2a8838e28f7e"), looks := true }, kinds := [], alts := [], laidByText := true, laidKinds := [.data, .data, .data, .data, .sentinel, .sentinel, .pinned], laidTests := true, laidLooks := .later }
def RouteAnyUptoCardSaid : Prop := Claim7.holds Tryz.pinned (.plain (OpenSpec.upto routeAnySpec)) routeAnyUptoCard

/-- THE SECOND FORM's CARD OF 'conciergelaw24.RouteFinds'. -/
def routeFindsUptoCard : Claim7 := { stood := { row := routeFindsUptoRow, standIns := [], harness := (true, "6a8e5d7384cfcc131d58bdbb783b0a1006565c31bde8bf92522a2a8838e28f7e"), looks := true }, kinds := [], alts := [], laidByText := true, laidKinds := [.data, .data, .data, .data, .sentinel, .sentinel, .pinned], laidTests := true, laidLooks := .later }
def RouteFindsUptoCardSaid : Prop := Claim7.holds Tryz.pinned (.plain (OpenSpec.upto routeFindsSpec)) routeFindsUptoCard

/-- THE SECOND FORM's CARD OF 'conciergelaw34.ScriptBack'. -/
def scriptBackUptoCard : Claim7 := { stood := { row := scriptBackUptoRow, standIns := [], harness := (true, "6a8e5d7384cfcc131d58bdbb783b0a1006565c31bde8bf92522a2a8838e28f7e"), looks := true }, kinds := [], alts := [], laidByText := true, laidKinds := [.data, .data, .data, .data, .sentinel, .sentinel, .pinned], laidTests := true, laidLooks := .later }
def ScriptBackUptoCardSaid : Prop := Claim7.holds Tryz.pinned (.plain (OpenSpec.upto scriptBackSpec)) scriptBackUptoCard

/-- THE SECOND FORM's CARD OF 'conciergelaw34.ScriptAny'. -/
def scriptAnyUptoCard : Claim7 := { stood := { row := scriptAnyUptoRow, standIns := [], harness := (true, "6a8e5d7384cfcc131d58bdbb783b0a1006565c31bde8bf92522a2a8838e28f7e"), looks := true }, kinds := [], alts := [], laidByText := true, laidKinds := [.data, .data, .data, .data, .sentinel, .sentinel, .pinned], laidTests := true, laidLooks := .later }
def ScriptAnyUptoCardSaid : Prop := Claim7.holds Tryz.pinned (.plain (OpenSpec.upto scriptAnySpec)) scriptAnyUptoCard

/-- THE SECOND FORM's CARD OF 'conciergelaw34.ScriptReads'. -/
def scriptReadsUptoCard : Claim7 := { stood := { row := scriptReadsUptoRow, standIns := [], harness := (true, "6a8e5d7384cfcc131d58bdbb783b0a1006565c31bde8bf92522a2a8838e28f7e"), looks := true }, kinds := [], alts := [], laidByText := true, laidKinds := [.data, .data, .data, .data, .sentinel, .sentinel, .pinned], laidTests := true, laidLooks := .later }
def ScriptReadsUptoCardSaid : Prop := Claim7.holds Tryz.pinned (.plain (OpenSpec.upto scriptReadsSpec)) scriptReadsUptoCard

/-- THE SECOND FORM's CARD OF 'conciergelaw34.ScriptLines'. -/
def scriptLinesUptoCard : Claim7 := { stood := { row := scriptLinesUptoRow, standIns := [], harness := (true, "6a8e5d7384cfcc131d58bdbb783b0a1006565c31bde8bf92522a2a8838e28f7e"), looks := true }, kinds := [], alts := [], laidByText := true, laidKinds := [.data, .data, .data, .data, .sentinel, .sentinel, .pinned], laidTests := true, laidLooks := .later }
def ScriptLinesUptoCardSaid : Prop := Claim7.holds Tryz.pinned (.plain (OpenSpec.upto scriptLinesSpec)) scriptLinesUptoCard

/-- THE SECOND FORM's CARD OF 'conciergelaw22.PhraseChecks'. -/
def phraseChecksUptoCard : Claim7 := { stood := { row := phraseChecksUptoRow, standIns := [], harness := (true, "6a8e5d7384cfcc131d58bdbb783b0a1006565c31bde8bf92522a2a8838e28f7e"), looks := true }, kinds := [], alts := [], laidByText := true, laidKinds := [.data, .data, .data, .data, .sentinel, .sentinel, .pinned], laidTests := true, laidLooks := .later }
def PhraseChecksUptoCardSaid : Prop := Claim7.holds Tryz.pinned (.plain (OpenSpec.upto phraseChecksSpec)) phraseChecksUptoCard

/-- THE SECOND FORM's CARD OF 'conciergelaw22.PhraseFills'. -/
def phraseFillsUptoCard : Claim7 := { stood := { row := phraseFillsUptoRow, standIns := [], harness := (true, "6a8e5d7384cfcc131d58bdbb783b0a1006565c31bde8bf92522a2a8838e28f7e"), looks := true }, kinds := [], alts := [], laidByText := true, laidKinds := [.data, .data, .data, .data, .sentinel, .sentinel, .pinned], laidTests := true, laidLooks := .later }
def PhraseFillsUptoCardSaid : Prop := Claim7.holds Tryz.pinned (.plain (OpenSpec.upto phraseFillsSpec)) phraseFillsUptoCard

/-- THE SECOND FORM's CARD OF 'conciergelaw22.PhrasePlain'. -/
def phrasePlainUptoCard : Claim7 := { stood := { row := phrasePlainUptoRow, standIns := [], harness := (true, "6a8e5d7384cfcc131d58bdbb783b0a1006565c31bde8bf92522a2a8838e28f7e"), looks := true }, kinds := [], alts := [], laidByText := true, laidKinds := [.data, .data, .data, .data, .sentinel, .sentinel, .pinned], laidTests := true, laidLooks := .later }
def PhrasePlainUptoCardSaid : Prop := Claim7.holds Tryz.pinned (.plain (OpenSpec.upto phrasePlainSpec)) phrasePlainUptoCard

/-- THE SECOND FORM's CARD OF 'conciergelaw22.PhraseHears'. -/
def phraseHearsUptoCard : Claim7 := { stood := { row := phraseHearsUptoRow, standIns := [], harness := (true, "6a8e5d7384cfcc131d58bdbb783b0a1006565c31bde8bf92522a2a8838e28f7e"), looks := true }, kinds := [], alts := [], laidByText := true, laidKinds := [.data, .data, .data, .data, .sentinel, .sentinel, .pinned], laidTests := true, laidLooks := .later }
def PhraseHearsUptoCardSaid : Prop := Claim7.holds Tryz.pinned (.plain (OpenSpec.upto phraseHearsSpec)) phraseHearsUptoCard
end Rows
end Go.Proofs.YtocgjbdimjlfhaaGreatDoor
