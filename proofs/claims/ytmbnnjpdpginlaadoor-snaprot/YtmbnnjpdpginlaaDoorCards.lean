/-
  DERIVED. GIVEN WITH THE SEED: THE CARDS: each row of YtmbnnjpdpginlaaDoorRows.lean that lists a variable, with what it lists TIED to the program's text (the seventh form; the later family's looks); each row that meets fmt, with fmt's text TOLD by the authors' own Lean function (tested against real Go, not proved from fmt's source: count such statements apart). THE CARD IS WHAT COUNTS. Prove the row's statement (the work); the ties are given (YtmbnnjpdpginlaaDoorTie.lean); close each card by the builder's one call (the guide's Derived/Test/ToyasCard.lean, 'card_holds'). Laid BY PROGRAM, IN A SANDBOX (cutbox-door.mjs). By AI agents, Wed Nov 11 2026. No macro, syntax, notation, axiom, sorry.
-/
import Derived.Test.YtmbnnjpdpginlaaDoorRows
import GoSem.ClaimSeven
namespace Go.Proofs.YtmbnnjpdpginlaaDoor
namespace Rows

/-- THE TIED CARD OF 'conciergelaw14.EntryBack'. -/
def entryBackCard : Claim7 := { stood := { row := entryBackRow, standIns := [], harness := (true, "e9b8d7dde7570cbc4549e2336805e02f7c11f061f8cd63747b29774c3ce1921d"), looks := false }, kinds := [], alts := [], laidByText := true, laidKinds := [.data, .pinned], laidTests := true, laidLooks := .later }
def EntryBackCardSaid : Prop := Claim7.holds Tryd.pinned (.plain (OpenSpec.ofChange entryBackSpec)) entryBackCard

/-- THE TIED CARD OF 'conciergelaw14.EntryAny'. -/
def entryAnyCard : Claim7 := { stood := { row := entryAnyRow, standIns := [], harness := (true, "e9b8d7dde7570cbc4549e2336805e02f7c11f061f8cd63747b29774c3ce1921d"), looks := false }, kinds := [], alts := [], laidByText := true, laidKinds := [.data, .pinned], laidTests := true, laidLooks := .later }
def EntryAnyCardSaid : Prop := Claim7.holds Tryd.pinned (.plain (OpenSpec.ofChange entryAnySpec)) entryAnyCard

/-- THE TIED CARD OF 'conciergelaw14.EntryUnlike'. -/
def entryUnlikeCard : Claim7 := { stood := { row := entryUnlikeRow, standIns := [], harness := (true, "e9b8d7dde7570cbc4549e2336805e02f7c11f061f8cd63747b29774c3ce1921d"), looks := false }, kinds := [], alts := [], laidByText := true, laidKinds := [.data, .pinned], laidTests := true, laidLooks := .later }
def EntryUnlikeCardSaid : Prop := Claim7.holds Tryd.pinned (.plain (OpenSpec.ofChange entryUnlikeSpec)) entryUnlikeCard

/-- THE TIED CARD OF 'conciergelaw14.EntryRecords'. -/
def entryRecordsCard : Claim7 := { stood := { row := entryRecordsRow, standIns := [], harness := (true, "e9b8d7dde7570cbc4549e2336805e02f7c11f061f8cd63747b29774c3ce1921d"), looks := false }, kinds := [], alts := [], laidByText := true, laidKinds := [.data, .pinned], laidTests := true, laidLooks := .later }
def EntryRecordsCardSaid : Prop := Claim7.holds Tryd.pinned (.plain (OpenSpec.ofChange entryRecordsSpec)) entryRecordsCard

/-- THE TIED CARD OF 'conciergelaw14.EntryParses'. -/
def entryParsesCard : Claim7 := { stood := { row := entryParsesRow, standIns := [], harness := (true, "e9b8d7dde7570cbc4549e2336805e02f7c11f061f8cd63747b29774c3ce1921d"), looks := false }, kinds := [], alts := [], laidByText := true, laidKinds := [.data, .pinned], laidTests := true, laidLooks := .later }
def EntryParsesCardSaid : Prop := Claim7.holds Tryd.pinned (.plain (OpenSpec.ofChange entryParsesSpec)) entryParsesCard

/-- THE TIED CARD OF 'conciergelaw19.SnapRot'. -/
def snapRotCard : Claim7 := { stood := { row := snapRotRow, standIns := [], harness := (true, "e9b8d7dde7570cbc4549e2336805e02f7c11f061f8cd63747b29774c3ce1921d"), looks := false }, kinds := [], alts := [], laidByText := true, laidKinds := [.data, .pinned], laidTests := true, laidLooks := .later }
def SnapRotCardSaid : Prop := Claim7.holds Tryd.pinned (.plain (OpenSpec.ofChange snapRotSpec)) snapRotCard

/-- THE TIED CARD OF 'conciergelaw19.SnapCut'. -/
def snapCutCard : Claim7 := { stood := { row := snapCutRow, standIns := [], harness := (true, "e9b8d7dde7570cbc4549e2336805e02f7c11f061f8cd63747b29774c3ce1921d"), looks := false }, kinds := [], alts := [], laidByText := true, laidKinds := [.data, .pinned], laidTests := true, laidLooks := .later }
def SnapCutCardSaid : Prop := Claim7.holds Tryd.pinned (.plain (OpenSpec.ofChange snapCutSpec)) snapCutCard

/-- THE SECOND FORM's CARD OF 'conciergelaw14.EntryBack'. -/
def entryBackUptoCard : Claim7 := { stood := { row := entryBackUptoRow, standIns := [], harness := (true, "e9b8d7dde7570cbc4549e2336805e02f7c11f061f8cd63747b29774c3ce1921d"), looks := false }, kinds := [], alts := [], laidByText := true, laidKinds := [.data, .pinned], laidTests := true, laidLooks := .later }
def EntryBackUptoCardSaid : Prop := Claim7.holds Tryd.pinned (.plain (OpenSpec.upto entryBackSpec)) entryBackUptoCard

/-- THE SECOND FORM's CARD OF 'conciergelaw14.EntryAny'. -/
def entryAnyUptoCard : Claim7 := { stood := { row := entryAnyUptoRow, standIns := [], harness := (true, "e9b8d7dde7570cbc4549e2336805e02f7c11f061f8cd63747b29774c3ce1921d"), looks := false }, kinds := [], alts := [], laidByText := true, laidKinds := [.data, .pinned], laidTests := true, laidLooks := .later }
def EntryAnyUptoCardSaid : Prop := Claim7.holds Tryd.pinned (.plain (OpenSpec.upto entryAnySpec)) entryAnyUptoCard

/-- THE SECOND FORM's CARD OF 'conciergelaw14.EntryUnlike'. -/
def entryUnlikeUptoCard : Claim7 := { stood := { row := entryUnlikeUptoRow, standIns := [], harness := (true, "e9b8d7dde7570cbc4549e2336805e02f7c11f061f8cd63747b29774c3ce1921d"), looks := false }, kinds := [], alts := [], laidByText := true, laidKinds := [.data, .pinned], laidTests := true, laidLooks := .later }
def EntryUnlikeUptoCardSaid : Prop := Claim7.holds Tryd.pinned (.plain (OpenSpec.upto entryUnlikeSpec)) entryUnlikeUptoCard

/-- THE SECOND FORM's CARD OF 'conciergelaw14.EntryRecords'. -/
def entryRecordsUptoCard : Claim7 := { stood := { row := entryRecordsUptoRow, standIns := [], harness := (true, "e9b8d7dde7570cbc4549e2336805e02f7c11f061f8cd63747b29774c3ce1921d"), looks := false }, kinds := [], alts := [], laidByText := true, laidKinds := [.data, .pinned], laidTests := true, laidLooks := .later }
def EntryRecordsUptoCardSaid : Prop := Claim7.holds Tryd.pinned (.plain (OpenSpec.upto entryRecordsSpec)) entryRecordsUptoCard

/-- THE SECOND FORM's CARD OF 'conciergelaw14.EntryParses'. -/
def entryParsesUptoCard : Claim7 := { stood := { row := entryParsesUptoRow, standIns := [], harness := (true, "e9b8d7dde7570cbc4549e2336805e02f7c11f061f8cd63747b29774c3ce1921d"), looks := false }, kinds := [], alts := [], laidByText := true, laidKinds := [.data, .pinned], laidTests := true, laidLooks := .later }
def EntryParsesUptoCardSaid : Prop := Claim7.holds Tryd.pinned (.plain (OpenSpec.upto entryParsesSpec)) entryParsesUptoCard

/-- THE SECOND FORM's CARD OF 'conciergelaw19.SnapRot'. -/
def snapRotUptoCard : Claim7 := { stood := { row := snapRotUptoRow, standIns := [], harness := (true, "e9b8d7dde7570cbc4549e2336805e02f7c11f061f8cd63747b29774c3ce1921d"), looks := false }, kinds := [], alts := [], laidByText := true, laidKinds := [.data, .pinned], laidTests := true, laidLooks := .later }
def SnapRotUptoCardSaid : Prop := Claim7.holds Tryd.pinned (.plain (OpenSpec.upto snapRotSpec)) snapRotUptoCard

/-- THE SECOND FORM's CARD OF 'conciergelaw19.SnapCut'. -/
def snapCutUptoCard : Claim7 := { stood := { row := snapCutUptoRow, standIns := [], harness := (true, "e9b8d7dde7570cbc4549e2336805e02f7c11f061f8cd63747b29774c3ce1921d"), looks := false }, kinds := [], alts := [], laidByText := true, laidKinds := [.data, .pinned], laidTests := true, laidLooks := .later }
def SnapCutUptoCardSaid : Prop := Claim7.holds Tryd.pinned (.plain (OpenSpec.upto snapCutSpec)) snapCutUptoCard
end Rows
end Go.Proofs.YtmbnnjpdpginlaaDoor
