/-
  NARROWER THAN 'FOR EVERY INPUT', by the rows' own cells (each row's printed sentence says how): CanonPaths: laid · CanonNames: laid · CanonPrints: laid · CanonRequests: laid.
  DERIVED. THE GIVEN ROWS OF THIS SEAT. 4 by the template 'for every input the law returns true; each argument reads behind the call as it read before'; 0 by the template 'total and deterministic' (their statements: YtblbmkhlnaaopaaDoorTotals.lean).
  GIVEN WITH THE SEED: the statements are not yours to turn. If you find one false, say at which input.
  Laid BY PROGRAM, IN A SANDBOX (cutbox-rows.mjs): the forced cells as the released guide's own fill.sh prints them over the translation dcb9ae6f3289ce14… (all of the seat's roots in one cut). By AI agents, Wed Nov 11 2026. No macro, syntax, notation, axiom, sorry.
-/
import Derived.Test.YtblbmkhlnaaopaaDoorChecked
import GoSem.PinnedTables
import GoSem.Claim
import GoSem.ClaimJoined
import GoSem.ClaimMapViews
import Derived.JoinedTies
import Derived.KernelRfl
namespace Go.Proofs.YtblbmkhlnaaopaaDoor
/- THE CELL 'sum', in the pinned program and in every row, IS THE sha256 OF THE DUMP (.gsa) THAT YtblbmkhlnaaopaaDoorProg.lean LOADS. Nothing in Lean hashes anything: it is a label: what it is worth is what the hold of that sum in a sandbox is worth. -/
noncomputable def Tryd.pinned : Pinned := { name := "ytblbmkhlnaaopaadoor", sum := "dcb9ae6f3289ce14c6ac16c185878423f108b0cbf2f7624dfadc864ff5105f65", checked := Tryd.checked }
namespace Rows
def none {H : Type} : Left H := { results := [], args := [] }

/- WHAT THE LISTED PACKAGE-LEVEL VARIABLES READ AS WHEN THE CALL BEGINS. Each datum BY PROGRAM (the guide's laid-datum.mjs) off the statement by which the dump's own 'gosem.cut.vars' lays the variable. In a bare row this is a premise. The card (YtblbmkhlnaaopaaDoorCards.lean) ties it to the program's text. -/
def laid_unicode_utf8_acceptRanges {H : Type} : DataW H := .agg [.agg [.lit (.int .u8 128), .lit (.int .u8 191)], .agg [.lit (.int .u8 160), .lit (.int .u8 191)], .agg [.lit (.int .u8 128), .lit (.int .u8 159)], .agg [.lit (.int .u8 144), .lit (.int .u8 191)], .agg [.lit (.int .u8 128), .lit (.int .u8 143)], .agg [.lit (.int .u8 0), .lit (.int .u8 0)], .agg [.lit (.int .u8 0), .lit (.int .u8 0)], .agg [.lit (.int .u8 0), .lit (.int .u8 0)], .agg [.lit (.int .u8 0), .lit (.int .u8 0)], .agg [.lit (.int .u8 0), .lit (.int .u8 0)], .agg [.lit (.int .u8 0), .lit (.int .u8 0)], .agg [.lit (.int .u8 0), .lit (.int .u8 0)], .agg [.lit (.int .u8 0), .lit (.int .u8 0)], .agg [.lit (.int .u8 0), .lit (.int .u8 0)], .agg [.lit (.int .u8 0), .lit (.int .u8 0)], .agg [.lit (.int .u8 0), .lit (.int .u8 0)]]
/-- One of Go's own tables, pinned by name: the form's constant. -/
def laid_unicode_utf8_first : DataW Unit := Go.Pinned.utf8First

/-- 'conciergelaw05.CanonPaths': WHATEVER THE INPUT: true; the input reads as it did. -/
def canonPathsSpec : ChangeSpec := { name := "canonPaths", fn := fun _ => fun
  | [d] => { results := [.lit (.bool true)], args := [d] }
  | _ => none }
def canonPathsRow : OpenClaim := { program := "ytblbmkhlnaaopaadoor", sum := "dcb9ae6f3289ce14c6ac16c185878423f108b0cbf2f7624dfadc864ff5105f65", func := "concierge/conciergelaw05.CanonPaths", spec := "canonPaths", inPlace := ["internal/bytealg.CountString", "internal/bytealg.IndexByteString", "internal/bytealg.IndexString", "internal/abi.NoEscape"], named := ["unicode/utf8.first", "unicode/utf8.acceptRanges", "internal/bytealg.MaxLen"], apart := false, laid := [("unicode/utf8.acceptRanges", laid_unicode_utf8_acceptRanges), ("unicode/utf8.first", laid_unicode_utf8_first)] }
def CanonPathsSaid : Prop := canonPathsRow.holds Tryd.pinned (OpenSpec.ofChange canonPathsSpec)

/-- ITS FALSE NEIGHBOUR: 'it returns false'. Refute it at one input. -/
def canonPathsWrong : ChangeSpec := { name := "canonPaths", fn := fun _ => fun
  | [d] => { results := [.lit (.bool false)], args := [d] }
  | _ => none }
def CanonPathsWrongFalsely : Prop := canonPathsRow.holds Tryd.pinned (OpenSpec.ofChange canonPathsWrong)

/-- 'conciergelaw05.CanonNames': WHATEVER THE INPUT: true; the input reads as it did. -/
def canonNamesSpec : ChangeSpec := { name := "canonNames", fn := fun _ => fun
  | [d1, d2] => { results := [.lit (.bool true)], args := [d1, d2] }
  | _ => none }
def canonNamesRow : OpenClaim := { program := "ytblbmkhlnaaopaadoor", sum := "dcb9ae6f3289ce14c6ac16c185878423f108b0cbf2f7624dfadc864ff5105f65", func := "concierge/conciergelaw05.CanonNames", spec := "canonNames", inPlace := ["internal/bytealg.CountString", "internal/bytealg.IndexByteString", "internal/bytealg.IndexString", "internal/abi.NoEscape"], named := ["unicode/utf8.first", "unicode/utf8.acceptRanges", "internal/bytealg.MaxLen"], apart := false, laid := [("unicode/utf8.acceptRanges", laid_unicode_utf8_acceptRanges), ("unicode/utf8.first", laid_unicode_utf8_first)] }
def CanonNamesSaid : Prop := canonNamesRow.holds Tryd.pinned (OpenSpec.ofChange canonNamesSpec)

/-- ITS FALSE NEIGHBOUR: 'it returns false'. Refute it at one input. -/
def canonNamesWrong : ChangeSpec := { name := "canonNames", fn := fun _ => fun
  | [d1, d2] => { results := [.lit (.bool false)], args := [d1, d2] }
  | _ => none }
def CanonNamesWrongFalsely : Prop := canonNamesRow.holds Tryd.pinned (OpenSpec.ofChange canonNamesWrong)

/-- 'conciergelaw05.CanonPrints': WHATEVER THE INPUT: true; the input reads as it did. -/
def canonPrintsSpec : ChangeSpec := { name := "canonPrints", fn := fun _ => fun
  | [d1, d2, d3] => { results := [.lit (.bool true)], args := [d1, d2, d3] }
  | _ => none }
def canonPrintsRow : OpenClaim := { program := "ytblbmkhlnaaopaadoor", sum := "dcb9ae6f3289ce14c6ac16c185878423f108b0cbf2f7624dfadc864ff5105f65", func := "concierge/conciergelaw05.CanonPrints", spec := "canonPrints", inPlace := ["internal/bytealg.CountString", "internal/bytealg.IndexByteString", "internal/bytealg.IndexString", "internal/abi.NoEscape"], named := ["unicode/utf8.first", "unicode/utf8.acceptRanges", "internal/bytealg.MaxLen"], apart := false, laid := [("unicode/utf8.acceptRanges", laid_unicode_utf8_acceptRanges), ("unicode/utf8.first", laid_unicode_utf8_first)] }
def CanonPrintsSaid : Prop := canonPrintsRow.holds Tryd.pinned (OpenSpec.ofChange canonPrintsSpec)

/-- ITS FALSE NEIGHBOUR: 'it returns false'. Refute it at one input. -/
def canonPrintsWrong : ChangeSpec := { name := "canonPrints", fn := fun _ => fun
  | [d1, d2, d3] => { results := [.lit (.bool false)], args := [d1, d2, d3] }
  | _ => none }
def CanonPrintsWrongFalsely : Prop := canonPrintsRow.holds Tryd.pinned (OpenSpec.ofChange canonPrintsWrong)

/-- 'conciergelaw05.CanonRequests': WHATEVER THE INPUT: true; the input reads as it did. -/
def canonRequestsSpec : ChangeSpec := { name := "canonRequests", fn := fun _ => fun
  | [d] => { results := [.lit (.bool true)], args := [d] }
  | _ => none }
def canonRequestsRow : OpenClaim := { program := "ytblbmkhlnaaopaadoor", sum := "dcb9ae6f3289ce14c6ac16c185878423f108b0cbf2f7624dfadc864ff5105f65", func := "concierge/conciergelaw05.CanonRequests", spec := "canonRequests", inPlace := ["internal/bytealg.CountString", "internal/bytealg.IndexByteString", "internal/bytealg.IndexString", "internal/abi.NoEscape"], named := ["unicode/utf8.first", "unicode/utf8.acceptRanges", "internal/bytealg.MaxLen"], apart := false, laid := [("unicode/utf8.acceptRanges", laid_unicode_utf8_acceptRanges), ("unicode/utf8.first", laid_unicode_utf8_first)] }
def CanonRequestsSaid : Prop := canonRequestsRow.holds Tryd.pinned (OpenSpec.ofChange canonRequestsSpec)

/-- ITS FALSE NEIGHBOUR: 'it returns false'. Refute it at one input. -/
def canonRequestsWrong : ChangeSpec := { name := "canonRequests", fn := fun _ => fun
  | [d] => { results := [.lit (.bool false)], args := [d] }
  | _ => none }
def CanonRequestsWrongFalsely : Prop := canonRequestsRow.holds Tryd.pinned (OpenSpec.ofChange canonRequestsWrong)

/- THE SECOND FORM. 'bulk': how many values and letters a reading holds, each counted each time it is reached (what is shared counts as often as it is met; a slice's spare places count too). A statement '..UptoSaid' is the law's where the arguments, and the package variables that the reading takes, are together of bulk at most 1048576: NARROWER than '..Said'. Prove '..Said' where nothing that the law and all that it calls make is longer than what came in: it says more and counts as full. Else prove '..UptoSaid'. A law counts once. -/
mutual
def uptoBulk {H : Type} : DataW H → Nat
  | .lit (.string bytes) => bytes.length + 1
  | .lit _ => 1
  | .nil => 1
  | .ptr d => uptoBulk d + 1
  | .slice elems spare => uptoBulkAll elems + uptoBulkAll spare + 1
  | .agg parts => uptoBulkAll parts + 1
  | .iface _ d => uptoBulk d + 1
  | .map entries => uptoBulkEntries entries + 1
  | .held _ => 1
def uptoBulkAll {H : Type} : List (DataW H) → Nat
  | [] => 0
  | d :: r => uptoBulk d + uptoBulkAll r
def uptoBulkEntries {H : Type} : List (Lit × DataW H) → Nat
  | [] => 0
  | x :: r => uptoBulkEntry x + uptoBulkEntries r
def uptoBulkEntry {H : Type} : Lit × DataW H → Nat
  | (.string bytes, d) => bytes.length + uptoBulk d + 1
  | (_, d) => uptoBulk d + 1
 end
def uptoSmall : (H : Type) → List (DataW H) → Bool := fun _ ds => decide (uptoBulkAll ds ≤ 1048576)
def OpenSpec.upto (s : _root_.Go.ChangeSpec) : _root_.Go.OpenSpec := { _root_.Go.OpenSpec.ofChange s with cond := some uptoSmall }

/-- 'conciergelaw05.CanonPaths', WHERE WHAT IT READS IS OF BULK AT MOST 1048576: true; the input reads as it did. -/
def canonPathsUptoRow : OpenClaim := { program := "ytblbmkhlnaaopaadoor", sum := "dcb9ae6f3289ce14c6ac16c185878423f108b0cbf2f7624dfadc864ff5105f65", func := "concierge/conciergelaw05.CanonPaths", spec := "canonPaths", inPlace := ["internal/bytealg.CountString", "internal/bytealg.IndexByteString", "internal/bytealg.IndexString", "internal/abi.NoEscape"], named := ["unicode/utf8.first", "unicode/utf8.acceptRanges", "internal/bytealg.MaxLen"], apart := false, laid := [("unicode/utf8.acceptRanges", laid_unicode_utf8_acceptRanges), ("unicode/utf8.first", laid_unicode_utf8_first)], narrowed := true }
def CanonPathsUptoSaid : Prop := canonPathsUptoRow.holds Tryd.pinned (OpenSpec.upto canonPathsSpec)

/-- 'conciergelaw05.CanonNames', WHERE WHAT IT READS IS OF BULK AT MOST 1048576: true; the input reads as it did. -/
def canonNamesUptoRow : OpenClaim := { program := "ytblbmkhlnaaopaadoor", sum := "dcb9ae6f3289ce14c6ac16c185878423f108b0cbf2f7624dfadc864ff5105f65", func := "concierge/conciergelaw05.CanonNames", spec := "canonNames", inPlace := ["internal/bytealg.CountString", "internal/bytealg.IndexByteString", "internal/bytealg.IndexString", "internal/abi.NoEscape"], named := ["unicode/utf8.first", "unicode/utf8.acceptRanges", "internal/bytealg.MaxLen"], apart := false, laid := [("unicode/utf8.acceptRanges", laid_unicode_utf8_acceptRanges), ("unicode/utf8.first", laid_unicode_utf8_first)], narrowed := true }
def CanonNamesUptoSaid : Prop := canonNamesUptoRow.holds Tryd.pinned (OpenSpec.upto canonNamesSpec)

/-- 'conciergelaw05.CanonPrints', WHERE WHAT IT READS IS OF BULK AT MOST 1048576: true; the input reads as it did. -/
def canonPrintsUptoRow : OpenClaim := { program := "ytblbmkhlnaaopaadoor", sum := "dcb9ae6f3289ce14c6ac16c185878423f108b0cbf2f7624dfadc864ff5105f65", func := "concierge/conciergelaw05.CanonPrints", spec := "canonPrints", inPlace := ["internal/bytealg.CountString", "internal/bytealg.IndexByteString", "internal/bytealg.IndexString", "internal/abi.NoEscape"], named := ["unicode/utf8.first", "unicode/utf8.acceptRanges", "internal/bytealg.MaxLen"], apart := false, laid := [("unicode/utf8.acceptRanges", laid_unicode_utf8_acceptRanges), ("unicode/utf8.first", laid_unicode_utf8_first)], narrowed := true }
def CanonPrintsUptoSaid : Prop := canonPrintsUptoRow.holds Tryd.pinned (OpenSpec.upto canonPrintsSpec)

/-- 'conciergelaw05.CanonRequests', WHERE WHAT IT READS IS OF BULK AT MOST 1048576: true; the input reads as it did. -/
def canonRequestsUptoRow : OpenClaim := { program := "ytblbmkhlnaaopaadoor", sum := "dcb9ae6f3289ce14c6ac16c185878423f108b0cbf2f7624dfadc864ff5105f65", func := "concierge/conciergelaw05.CanonRequests", spec := "canonRequests", inPlace := ["internal/bytealg.CountString", "internal/bytealg.IndexByteString", "internal/bytealg.IndexString", "internal/abi.NoEscape"], named := ["unicode/utf8.first", "unicode/utf8.acceptRanges", "internal/bytealg.MaxLen"], apart := false, laid := [("unicode/utf8.acceptRanges", laid_unicode_utf8_acceptRanges), ("unicode/utf8.first", laid_unicode_utf8_first)], narrowed := true }
def CanonRequestsUptoSaid : Prop := canonRequestsUptoRow.holds Tryd.pinned (OpenSpec.upto canonRequestsSpec)

end Rows
end Go.Proofs.YtblbmkhlnaaopaaDoor
