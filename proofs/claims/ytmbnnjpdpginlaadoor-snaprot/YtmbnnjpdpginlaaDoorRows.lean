/-
  NARROWER THAN 'FOR EVERY INPUT', by the rows' own cells (each row's printed sentence says how): EntryBack: laid · EntryAny: laid · EntryUnlike: laid · EntryRecords: laid · EntryParses: laid · SnapRot: laid · SnapCut: laid.
  DERIVED. THE GIVEN ROWS OF THIS SEAT. 7 by the template 'for every input the law returns true; each argument reads behind the call as it read before'; 0 by the template 'total and deterministic' (their statements: YtmbnnjpdpginlaaDoorTotals.lean).
  GIVEN WITH THE SEED: the statements are not yours to turn. If you find one false, say at which input.
  Laid BY PROGRAM, IN A SANDBOX (cutbox-rows.mjs): the forced cells as the released guide's own fill.sh prints them over the translation b55b3b71f225c274… (all of the seat's roots in one cut). By AI agents, Wed Nov 11 2026. No macro, syntax, notation, axiom, sorry.
-/
import Derived.Test.YtmbnnjpdpginlaaDoorChecked
import GoSem.PinnedTables
import GoSem.Claim
import GoSem.ClaimJoined
import GoSem.ClaimMapViews
import Derived.JoinedTies
import Derived.KernelRfl
namespace Go.Proofs.YtmbnnjpdpginlaaDoor
/- THE CELL 'sum', in the pinned program and in every row, IS THE sha256 OF THE DUMP (.gsa) THAT YtmbnnjpdpginlaaDoorProg.lean LOADS. Nothing in Lean hashes anything: it is a label: what it is worth is what the hold of that sum in a sandbox is worth. -/
noncomputable def Tryd.pinned : Pinned := { name := "ytmbnnjpdpginlaadoor", sum := "b55b3b71f225c274198e52a64580e0cfdce5f10111229803a89fe712f02d8997", checked := Tryd.checked }
namespace Rows
def none {H : Type} : Left H := { results := [], args := [] }

/- WHAT THE LISTED PACKAGE-LEVEL VARIABLES READ AS WHEN THE CALL BEGINS. Each datum BY PROGRAM (the guide's laid-datum.mjs) off the statement by which the dump's own 'gosem.cut.vars' lays the variable. In a bare row this is a premise. The card (YtmbnnjpdpginlaaDoorCards.lean) ties it to the program's text. -/
def laid_unicode_utf8_acceptRanges {H : Type} : DataW H := .agg [.agg [.lit (.int .u8 128), .lit (.int .u8 191)], .agg [.lit (.int .u8 160), .lit (.int .u8 191)], .agg [.lit (.int .u8 128), .lit (.int .u8 159)], .agg [.lit (.int .u8 144), .lit (.int .u8 191)], .agg [.lit (.int .u8 128), .lit (.int .u8 143)], .agg [.lit (.int .u8 0), .lit (.int .u8 0)], .agg [.lit (.int .u8 0), .lit (.int .u8 0)], .agg [.lit (.int .u8 0), .lit (.int .u8 0)], .agg [.lit (.int .u8 0), .lit (.int .u8 0)], .agg [.lit (.int .u8 0), .lit (.int .u8 0)], .agg [.lit (.int .u8 0), .lit (.int .u8 0)], .agg [.lit (.int .u8 0), .lit (.int .u8 0)], .agg [.lit (.int .u8 0), .lit (.int .u8 0)], .agg [.lit (.int .u8 0), .lit (.int .u8 0)], .agg [.lit (.int .u8 0), .lit (.int .u8 0)], .agg [.lit (.int .u8 0), .lit (.int .u8 0)]]
/-- One of Go's own tables, pinned by name: the form's constant. -/
def laid_unicode_utf8_first : DataW Unit := Go.Pinned.utf8First

/-- 'conciergelaw14.EntryBack': WHATEVER THE INPUT: true; the input reads as it did. -/
def entryBackSpec : ChangeSpec := { name := "entryBack", fn := fun _ => fun
  | [d] => { results := [.lit (.bool true)], args := [d] }
  | _ => none }
def entryBackRow : OpenClaim := { program := "ytmbnnjpdpginlaadoor", sum := "b55b3b71f225c274198e52a64580e0cfdce5f10111229803a89fe712f02d8997", func := "concierge/conciergelaw14.EntryBack", spec := "entryBack", inPlace := ["internal/abi.NoEscape", "internal/bytealg.CountString", "internal/bytealg.IndexByteString", "internal/bytealg.IndexString"], named := ["unicode/utf8.first", "unicode/utf8.acceptRanges", "internal/bytealg.MaxLen"], apart := false, laid := [("unicode/utf8.acceptRanges", laid_unicode_utf8_acceptRanges), ("unicode/utf8.first", laid_unicode_utf8_first)] }
def EntryBackSaid : Prop := entryBackRow.holds Tryd.pinned (OpenSpec.ofChange entryBackSpec)

/-- ITS FALSE NEIGHBOUR: 'it returns false'. Refute it at one input. -/
def entryBackWrong : ChangeSpec := { name := "entryBack", fn := fun _ => fun
  | [d] => { results := [.lit (.bool false)], args := [d] }
  | _ => none }
def EntryBackWrongFalsely : Prop := entryBackRow.holds Tryd.pinned (OpenSpec.ofChange entryBackWrong)

/-- 'conciergelaw14.EntryAny': WHATEVER THE INPUT: true; the input reads as it did. -/
def entryAnySpec : ChangeSpec := { name := "entryAny", fn := fun _ => fun
  | [d] => { results := [.lit (.bool true)], args := [d] }
  | _ => none }
def entryAnyRow : OpenClaim := { program := "ytmbnnjpdpginlaadoor", sum := "b55b3b71f225c274198e52a64580e0cfdce5f10111229803a89fe712f02d8997", func := "concierge/conciergelaw14.EntryAny", spec := "entryAny", inPlace := ["internal/abi.NoEscape", "internal/bytealg.CountString", "internal/bytealg.IndexByteString", "internal/bytealg.IndexString"], named := ["unicode/utf8.first", "unicode/utf8.acceptRanges", "internal/bytealg.MaxLen"], apart := false, laid := [("unicode/utf8.acceptRanges", laid_unicode_utf8_acceptRanges), ("unicode/utf8.first", laid_unicode_utf8_first)] }
def EntryAnySaid : Prop := entryAnyRow.holds Tryd.pinned (OpenSpec.ofChange entryAnySpec)

/-- ITS FALSE NEIGHBOUR: 'it returns false'. Refute it at one input. -/
def entryAnyWrong : ChangeSpec := { name := "entryAny", fn := fun _ => fun
  | [d] => { results := [.lit (.bool false)], args := [d] }
  | _ => none }
def EntryAnyWrongFalsely : Prop := entryAnyRow.holds Tryd.pinned (OpenSpec.ofChange entryAnyWrong)

/-- 'conciergelaw14.EntryUnlike': WHATEVER THE INPUT: true; the input reads as it did. -/
def entryUnlikeSpec : ChangeSpec := { name := "entryUnlike", fn := fun _ => fun
  | [d1, d2] => { results := [.lit (.bool true)], args := [d1, d2] }
  | _ => none }
def entryUnlikeRow : OpenClaim := { program := "ytmbnnjpdpginlaadoor", sum := "b55b3b71f225c274198e52a64580e0cfdce5f10111229803a89fe712f02d8997", func := "concierge/conciergelaw14.EntryUnlike", spec := "entryUnlike", inPlace := ["internal/abi.NoEscape", "internal/bytealg.CountString", "internal/bytealg.IndexByteString", "internal/bytealg.IndexString"], named := ["unicode/utf8.first", "unicode/utf8.acceptRanges", "internal/bytealg.MaxLen"], apart := false, laid := [("unicode/utf8.acceptRanges", laid_unicode_utf8_acceptRanges), ("unicode/utf8.first", laid_unicode_utf8_first)] }
def EntryUnlikeSaid : Prop := entryUnlikeRow.holds Tryd.pinned (OpenSpec.ofChange entryUnlikeSpec)

/-- ITS FALSE NEIGHBOUR: 'it returns false'. Refute it at one input. -/
def entryUnlikeWrong : ChangeSpec := { name := "entryUnlike", fn := fun _ => fun
  | [d1, d2] => { results := [.lit (.bool false)], args := [d1, d2] }
  | _ => none }
def EntryUnlikeWrongFalsely : Prop := entryUnlikeRow.holds Tryd.pinned (OpenSpec.ofChange entryUnlikeWrong)

/-- 'conciergelaw14.EntryRecords': WHATEVER THE INPUT: true; the input reads as it did. -/
def entryRecordsSpec : ChangeSpec := { name := "entryRecords", fn := fun _ => fun
  | [d] => { results := [.lit (.bool true)], args := [d] }
  | _ => none }
def entryRecordsRow : OpenClaim := { program := "ytmbnnjpdpginlaadoor", sum := "b55b3b71f225c274198e52a64580e0cfdce5f10111229803a89fe712f02d8997", func := "concierge/conciergelaw14.EntryRecords", spec := "entryRecords", inPlace := ["internal/abi.NoEscape", "internal/bytealg.CountString", "internal/bytealg.IndexByteString", "internal/bytealg.IndexString"], named := ["unicode/utf8.first", "unicode/utf8.acceptRanges", "internal/bytealg.MaxLen"], apart := false, laid := [("unicode/utf8.acceptRanges", laid_unicode_utf8_acceptRanges), ("unicode/utf8.first", laid_unicode_utf8_first)] }
def EntryRecordsSaid : Prop := entryRecordsRow.holds Tryd.pinned (OpenSpec.ofChange entryRecordsSpec)

/-- ITS FALSE NEIGHBOUR: 'it returns false'. Refute it at one input. -/
def entryRecordsWrong : ChangeSpec := { name := "entryRecords", fn := fun _ => fun
  | [d] => { results := [.lit (.bool false)], args := [d] }
  | _ => none }
def EntryRecordsWrongFalsely : Prop := entryRecordsRow.holds Tryd.pinned (OpenSpec.ofChange entryRecordsWrong)

/-- 'conciergelaw14.EntryParses': WHATEVER THE INPUT: true; the input reads as it did. -/
def entryParsesSpec : ChangeSpec := { name := "entryParses", fn := fun _ => fun
  | [d] => { results := [.lit (.bool true)], args := [d] }
  | _ => none }
def entryParsesRow : OpenClaim := { program := "ytmbnnjpdpginlaadoor", sum := "b55b3b71f225c274198e52a64580e0cfdce5f10111229803a89fe712f02d8997", func := "concierge/conciergelaw14.EntryParses", spec := "entryParses", inPlace := ["internal/abi.NoEscape", "internal/bytealg.CountString", "internal/bytealg.IndexByteString", "internal/bytealg.IndexString"], named := ["unicode/utf8.first", "unicode/utf8.acceptRanges", "internal/bytealg.MaxLen"], apart := false, laid := [("unicode/utf8.acceptRanges", laid_unicode_utf8_acceptRanges), ("unicode/utf8.first", laid_unicode_utf8_first)] }
def EntryParsesSaid : Prop := entryParsesRow.holds Tryd.pinned (OpenSpec.ofChange entryParsesSpec)

/-- ITS FALSE NEIGHBOUR: 'it returns false'. Refute it at one input. -/
def entryParsesWrong : ChangeSpec := { name := "entryParses", fn := fun _ => fun
  | [d] => { results := [.lit (.bool false)], args := [d] }
  | _ => none }
def EntryParsesWrongFalsely : Prop := entryParsesRow.holds Tryd.pinned (OpenSpec.ofChange entryParsesWrong)

/-- 'conciergelaw19.SnapRot': WHATEVER THE INPUT: true; the input reads as it did. -/
def snapRotSpec : ChangeSpec := { name := "snapRot", fn := fun _ => fun
  | [d1, d2, d3] => { results := [.lit (.bool true)], args := [d1, d2, d3] }
  | _ => none }
def snapRotRow : OpenClaim := { program := "ytmbnnjpdpginlaadoor", sum := "b55b3b71f225c274198e52a64580e0cfdce5f10111229803a89fe712f02d8997", func := "concierge/conciergelaw19.SnapRot", spec := "snapRot", inPlace := ["internal/abi.NoEscape", "internal/bytealg.CountString", "internal/bytealg.IndexByteString", "internal/bytealg.IndexString"], named := ["unicode/utf8.first", "unicode/utf8.acceptRanges", "internal/bytealg.MaxLen"], apart := false, laid := [("unicode/utf8.acceptRanges", laid_unicode_utf8_acceptRanges), ("unicode/utf8.first", laid_unicode_utf8_first)] }
def SnapRotSaid : Prop := snapRotRow.holds Tryd.pinned (OpenSpec.ofChange snapRotSpec)

/-- ITS FALSE NEIGHBOUR: 'it returns false'. Refute it at one input. -/
def snapRotWrong : ChangeSpec := { name := "snapRot", fn := fun _ => fun
  | [d1, d2, d3] => { results := [.lit (.bool false)], args := [d1, d2, d3] }
  | _ => none }
def SnapRotWrongFalsely : Prop := snapRotRow.holds Tryd.pinned (OpenSpec.ofChange snapRotWrong)

/-- 'conciergelaw19.SnapCut': WHATEVER THE INPUT: true; the input reads as it did. -/
def snapCutSpec : ChangeSpec := { name := "snapCut", fn := fun _ => fun
  | [d1, d2, d3] => { results := [.lit (.bool true)], args := [d1, d2, d3] }
  | _ => none }
def snapCutRow : OpenClaim := { program := "ytmbnnjpdpginlaadoor", sum := "b55b3b71f225c274198e52a64580e0cfdce5f10111229803a89fe712f02d8997", func := "concierge/conciergelaw19.SnapCut", spec := "snapCut", inPlace := ["internal/abi.NoEscape", "internal/bytealg.CountString", "internal/bytealg.IndexByteString", "internal/bytealg.IndexString"], named := ["unicode/utf8.first", "unicode/utf8.acceptRanges", "internal/bytealg.MaxLen"], apart := false, laid := [("unicode/utf8.acceptRanges", laid_unicode_utf8_acceptRanges), ("unicode/utf8.first", laid_unicode_utf8_first)] }
def SnapCutSaid : Prop := snapCutRow.holds Tryd.pinned (OpenSpec.ofChange snapCutSpec)

/-- ITS FALSE NEIGHBOUR: 'it returns false'. Refute it at one input. -/
def snapCutWrong : ChangeSpec := { name := "snapCut", fn := fun _ => fun
  | [d1, d2, d3] => { results := [.lit (.bool false)], args := [d1, d2, d3] }
  | _ => none }
def SnapCutWrongFalsely : Prop := snapCutRow.holds Tryd.pinned (OpenSpec.ofChange snapCutWrong)

/- THE SECOND FORM. 'bulk': how many values and letters a reading holds, each counted each time it is reached (what is shared counts as often as it is met; a slice's spare places count too). A statement '..UptoSaid' is the law's where the arguments, and the package variables that the reading takes, are together of bulk at most 1048576: NARROWER than '..Said'. Prove '..Said' where nothing that the law and all that it calls make is longer than what came in: it says more and counts as full. Else prove '..UptoSaid'. A law counts once. -/
mutual
def uptoBulk {H : Type} : DataW H → Nat
  | .lit (.string bytes) => bytes.length + 1
  | .lit _ => 1
  | .nil => 1
  | .ptr d => uptoBulk d + 1
  | .slice elems spare => uptoBulkAll elems + uptoBulkAll spare + 1
  | .agg parts => uptoBulkAll parts + 1
  | .iface _ d => uptoBulk d + 1
  | .map entries => uptoBulkEntries entries + 1
  | .held _ => 1
def uptoBulkAll {H : Type} : List (DataW H) → Nat
  | [] => 0
  | d :: r => uptoBulk d + uptoBulkAll r
def uptoBulkEntries {H : Type} : List (Lit × DataW H) → Nat
  | [] => 0
  | x :: r => uptoBulkEntry x + uptoBulkEntries r
def uptoBulkEntry {H : Type} : Lit × DataW H → Nat
  | (.string bytes, d) => bytes.length + uptoBulk d + 1
  | (_, d) => uptoBulk d + 1
 end
def uptoSmall : (H : Type) → List (DataW H) → Bool := fun _ ds => decide (uptoBulkAll ds ≤ 1048576)
def OpenSpec.upto (s : _root_.Go.ChangeSpec) : _root_.Go.OpenSpec := { _root_.Go.OpenSpec.ofChange s with cond := some uptoSmall }

/-- 'conciergelaw14.EntryBack', WHERE WHAT IT READS IS OF BULK AT MOST 1048576: true; the input reads as it did. -/
def entryBackUptoRow : OpenClaim := { program := "ytmbnnjpdpginlaadoor", sum := "b55b3b71f225c274198e52a64580e0cfdce5f10111229803a89fe712f02d8997", func := "concierge/conciergelaw14.EntryBack", spec := "entryBack", inPlace := ["internal/abi.NoEscape", "internal/bytealg.CountString", "internal/bytealg.IndexByteString", "internal/bytealg.IndexString"], named := ["unicode/utf8.first", "unicode/utf8.acceptRanges", "internal/bytealg.MaxLen"], apart := false, laid := [("unicode/utf8.acceptRanges", laid_unicode_utf8_acceptRanges), ("unicode/utf8.first", laid_unicode_utf8_first)], narrowed := true }
def EntryBackUptoSaid : Prop := entryBackUptoRow.holds Tryd.pinned (OpenSpec.upto entryBackSpec)

/-- 'conciergelaw14.EntryAny', WHERE WHAT IT READS IS OF BULK AT MOST 1048576: true; the input reads as it did. -/
def entryAnyUptoRow : OpenClaim := { program := "ytmbnnjpdpginlaadoor", sum := "b55b3b71f225c274198e52a64580e0cfdce5f10111229803a89fe712f02d8997", func := "concierge/conciergelaw14.EntryAny", spec := "entryAny", inPlace := ["internal/abi.NoEscape", "internal/bytealg.CountString", "internal/bytealg.IndexByteString", "internal/bytealg.IndexString"], named := ["unicode/utf8.first", "unicode/utf8.acceptRanges", "internal/bytealg.MaxLen"], apart := false, laid := [("unicode/utf8.acceptRanges", laid_unicode_utf8_acceptRanges), ("unicode/utf8.first", laid_unicode_utf8_first)], narrowed := true }
def EntryAnyUptoSaid : Prop := entryAnyUptoRow.holds Tryd.pinned (OpenSpec.upto entryAnySpec)

/-- 'conciergelaw14.EntryUnlike', WHERE WHAT IT READS IS OF BULK AT MOST 1048576: true; the input reads as it did. -/
def entryUnlikeUptoRow : OpenClaim := { program := "ytmbnnjpdpginlaadoor", sum := "b55b3b71f225c274198e52a64580e0cfdce5f10111229803a89fe712f02d8997", func := "concierge/conciergelaw14.EntryUnlike", spec := "entryUnlike", inPlace := ["internal/abi.NoEscape", "internal/bytealg.CountString", "internal/bytealg.IndexByteString", "internal/bytealg.IndexString"], named := ["unicode/utf8.first", "unicode/utf8.acceptRanges", "internal/bytealg.MaxLen"], apart := false, laid := [("unicode/utf8.acceptRanges", laid_unicode_utf8_acceptRanges), ("unicode/utf8.first", laid_unicode_utf8_first)], narrowed := true }
def EntryUnlikeUptoSaid : Prop := entryUnlikeUptoRow.holds Tryd.pinned (OpenSpec.upto entryUnlikeSpec)

/-- 'conciergelaw14.EntryRecords', WHERE WHAT IT READS IS OF BULK AT MOST 1048576: true; the input reads as it did. -/
def entryRecordsUptoRow : OpenClaim := { program := "ytmbnnjpdpginlaadoor", sum := "b55b3b71f225c274198e52a64580e0cfdce5f10111229803a89fe712f02d8997", func := "concierge/conciergelaw14.EntryRecords", spec := "entryRecords", inPlace := ["internal/abi.NoEscape", "internal/bytealg.CountString", "internal/bytealg.IndexByteString", "internal/bytealg.IndexString"], named := ["unicode/utf8.first", "unicode/utf8.acceptRanges", "internal/bytealg.MaxLen"], apart := false, laid := [("unicode/utf8.acceptRanges", laid_unicode_utf8_acceptRanges), ("unicode/utf8.first", laid_unicode_utf8_first)], narrowed := true }
def EntryRecordsUptoSaid : Prop := entryRecordsUptoRow.holds Tryd.pinned (OpenSpec.upto entryRecordsSpec)

/-- 'conciergelaw14.EntryParses', WHERE WHAT IT READS IS OF BULK AT MOST 1048576: true; the input reads as it did. -/
def entryParsesUptoRow : OpenClaim := { program := "ytmbnnjpdpginlaadoor", sum := "b55b3b71f225c274198e52a64580e0cfdce5f10111229803a89fe712f02d8997", func := "concierge/conciergelaw14.EntryParses", spec := "entryParses", inPlace := ["internal/abi.NoEscape", "internal/bytealg.CountString", "internal/bytealg.IndexByteString", "internal/bytealg.IndexString"], named := ["unicode/utf8.first", "unicode/utf8.acceptRanges", "internal/bytealg.MaxLen"], apart := false, laid := [("unicode/utf8.acceptRanges", laid_unicode_utf8_acceptRanges), ("unicode/utf8.first", laid_unicode_utf8_first)], narrowed := true }
def EntryParsesUptoSaid : Prop := entryParsesUptoRow.holds Tryd.pinned (OpenSpec.upto entryParsesSpec)

/-- 'conciergelaw19.SnapRot', WHERE WHAT IT READS IS OF BULK AT MOST 1048576: true; the input reads as it did. -/
def snapRotUptoRow : OpenClaim := { program := "ytmbnnjpdpginlaadoor", sum := "b55b3b71f225c274198e52a64580e0cfdce5f10111229803a89fe712f02d8997", func := "concierge/conciergelaw19.SnapRot", spec := "snapRot", inPlace := ["internal/abi.NoEscape", "internal/bytealg.CountString", "internal/bytealg.IndexByteString", "internal/bytealg.IndexString"], named := ["unicode/utf8.first", "unicode/utf8.acceptRanges", "internal/bytealg.MaxLen"], apart := false, laid := [("unicode/utf8.acceptRanges", laid_unicode_utf8_acceptRanges), ("unicode/utf8.first", laid_unicode_utf8_first)], narrowed := true }
def SnapRotUptoSaid : Prop := snapRotUptoRow.holds Tryd.pinned (OpenSpec.upto snapRotSpec)

/-- 'conciergelaw19.SnapCut', WHERE WHAT IT READS IS OF BULK AT MOST 1048576: true; the input reads as it did. -/
def snapCutUptoRow : OpenClaim := { program := "ytmbnnjpdpginlaadoor", sum := "b55b3b71f225c274198e52a64580e0cfdce5f10111229803a89fe712f02d8997", func := "concierge/conciergelaw19.SnapCut", spec := "snapCut", inPlace := ["internal/abi.NoEscape", "internal/bytealg.CountString", "internal/bytealg.IndexByteString", "internal/bytealg.IndexString"], named := ["unicode/utf8.first", "unicode/utf8.acceptRanges", "internal/bytealg.MaxLen"], apart := false, laid := [("unicode/utf8.acceptRanges", laid_unicode_utf8_acceptRanges), ("unicode/utf8.first", laid_unicode_utf8_first)], narrowed := true }
def SnapCutUptoSaid : Prop := snapCutUptoRow.holds Tryd.pinned (OpenSpec.upto snapCutSpec)

end Rows
end Go.Proofs.YtmbnnjpdpginlaaDoor
