/-
  No cell of these rows narrows 'for every input' (looked for: loops, veiled, ifaces, maps, wideKeys, modest, calm, conditions, laid).
  DERIVED. THE GIVEN ROWS OF THIS SEAT. 6 by the template 'for every input the law returns true; each argument reads behind the call as it read before'; 0 by the template 'total and deterministic' (their statements: YtblbmkhlnaaopaaTotals.lean).
  GIVEN WITH THE SEED: the statements are not yours to turn. If you find one false, say at which input.
  Laid BY PROGRAM, IN A SANDBOX (cutbox-rows.mjs): the forced cells as the released guide's own fill.sh prints them over the translation 465524d702f08024… (all of the seat's roots in one cut). By AI agents, Wed Nov 11 2026. No macro, syntax, notation, axiom, sorry.
-/
import Derived.Test.YtblbmkhlnaaopaaChecked
import GoSem.Claim
import GoSem.ClaimJoined
import GoSem.ClaimMapViews
import Derived.JoinedTies
import Derived.KernelRfl
namespace Go.Proofs.Ytblbmkhlnaaopaa
/- THE CELL 'sum', in the pinned program and in every row, IS THE sha256 OF THE DUMP (.gsa) THAT YtblbmkhlnaaopaaProg.lean LOADS. Nothing in Lean hashes anything: it is a label: what it is worth is what the hold of that sum in a sandbox is worth. -/
noncomputable def Try.pinned : Pinned := { name := "ytblbmkhlnaaopaa", sum := "465524d702f08024e08120da89061033a82132e51d3c8f861684de4b76749926", checked := Try.checked }
namespace Rows
def none {H : Type} : Left H := { results := [], args := [] }

/-- 'conciergelaw04.SignSorts': WHATEVER THE INPUT: true; the input reads as it did. -/
def signSortsSpec : ChangeSpec := { name := "signSorts", fn := fun _ => fun
  | [d] => { results := [.lit (.bool true)], args := [d] }
  | _ => none }
def signSortsRow : OpenClaim := { program := "ytblbmkhlnaaopaa", sum := "465524d702f08024e08120da89061033a82132e51d3c8f861684de4b76749926", func := "concierge/conciergelaw04.SignSorts", spec := "signSorts", inPlace := ["internal/abi.NoEscape"], apart := false }
def SignSortsSaid : Prop := signSortsRow.holds Try.pinned (OpenSpec.ofChange signSortsSpec)

/-- ITS FALSE NEIGHBOUR: 'it returns false'. Refute it at one input. -/
def signSortsWrong : ChangeSpec := { name := "signSorts", fn := fun _ => fun
  | [d] => { results := [.lit (.bool false)], args := [d] }
  | _ => none }
def SignSortsWrongFalsely : Prop := signSortsRow.holds Try.pinned (OpenSpec.ofChange signSortsWrong)

/-- 'conciergelaw04.SignWords': WHATEVER THE INPUT: true; the input reads as it did. -/
def signWordsSpec : ChangeSpec := { name := "signWords", fn := fun _ => fun
  | [d1, d2, d3] => { results := [.lit (.bool true)], args := [d1, d2, d3] }
  | _ => none }
def signWordsRow : OpenClaim := { program := "ytblbmkhlnaaopaa", sum := "465524d702f08024e08120da89061033a82132e51d3c8f861684de4b76749926", func := "concierge/conciergelaw04.SignWords", spec := "signWords", inPlace := ["internal/abi.NoEscape"], apart := false }
def SignWordsSaid : Prop := signWordsRow.holds Try.pinned (OpenSpec.ofChange signWordsSpec)

/-- ITS FALSE NEIGHBOUR: 'it returns false'. Refute it at one input. -/
def signWordsWrong : ChangeSpec := { name := "signWords", fn := fun _ => fun
  | [d1, d2, d3] => { results := [.lit (.bool false)], args := [d1, d2, d3] }
  | _ => none }
def SignWordsWrongFalsely : Prop := signWordsRow.holds Try.pinned (OpenSpec.ofChange signWordsWrong)

/-- 'conciergelaw04.SignTexts': WHATEVER THE INPUT: true; the input reads as it did. -/
def signTextsSpec : ChangeSpec := { name := "signTexts", fn := fun _ => fun
  | [d1, d2] => { results := [.lit (.bool true)], args := [d1, d2] }
  | _ => none }
def signTextsRow : OpenClaim := { program := "ytblbmkhlnaaopaa", sum := "465524d702f08024e08120da89061033a82132e51d3c8f861684de4b76749926", func := "concierge/conciergelaw04.SignTexts", spec := "signTexts", inPlace := ["internal/abi.NoEscape"], apart := false }
def SignTextsSaid : Prop := signTextsRow.holds Try.pinned (OpenSpec.ofChange signTextsSpec)

/-- ITS FALSE NEIGHBOUR: 'it returns false'. Refute it at one input. -/
def signTextsWrong : ChangeSpec := { name := "signTexts", fn := fun _ => fun
  | [d1, d2] => { results := [.lit (.bool false)], args := [d1, d2] }
  | _ => none }
def SignTextsWrongFalsely : Prop := signTextsRow.holds Try.pinned (OpenSpec.ofChange signTextsWrong)

/-- 'conciergelaw41.ProofPaths': WHATEVER THE INPUT: true; the input reads as it did. -/
def proofPathsSpec : ChangeSpec := { name := "proofPaths", fn := fun _ => fun
  | [d1, d2] => { results := [.lit (.bool true)], args := [d1, d2] }
  | _ => none }
def proofPathsRow : OpenClaim := { program := "ytblbmkhlnaaopaa", sum := "465524d702f08024e08120da89061033a82132e51d3c8f861684de4b76749926", func := "concierge/conciergelaw41.ProofPaths", spec := "proofPaths", recurses := true, apart := false }
def ProofPathsSaid : Prop := proofPathsRow.holds Try.pinned (OpenSpec.ofChange proofPathsSpec)

/-- ITS FALSE NEIGHBOUR: 'it returns false'. Refute it at one input. -/
def proofPathsWrong : ChangeSpec := { name := "proofPaths", fn := fun _ => fun
  | [d1, d2] => { results := [.lit (.bool false)], args := [d1, d2] }
  | _ => none }
def ProofPathsWrongFalsely : Prop := proofPathsRow.holds Try.pinned (OpenSpec.ofChange proofPathsWrong)

/-- 'conciergelaw41.ProofChecks': WHATEVER THE INPUT: true; the input reads as it did. -/
def proofChecksSpec : ChangeSpec := { name := "proofChecks", fn := fun _ => fun
  | [d1, d2, d3] => { results := [.lit (.bool true)], args := [d1, d2, d3] }
  | _ => none }
def proofChecksRow : OpenClaim := { program := "ytblbmkhlnaaopaa", sum := "465524d702f08024e08120da89061033a82132e51d3c8f861684de4b76749926", func := "concierge/conciergelaw41.ProofChecks", spec := "proofChecks", recurses := true, apart := false }
def ProofChecksSaid : Prop := proofChecksRow.holds Try.pinned (OpenSpec.ofChange proofChecksSpec)

/-- ITS FALSE NEIGHBOUR: 'it returns false'. Refute it at one input. -/
def proofChecksWrong : ChangeSpec := { name := "proofChecks", fn := fun _ => fun
  | [d1, d2, d3] => { results := [.lit (.bool false)], args := [d1, d2, d3] }
  | _ => none }
def ProofChecksWrongFalsely : Prop := proofChecksRow.holds Try.pinned (OpenSpec.ofChange proofChecksWrong)

/-- 'conciergelaw41.ProofBinds': WHATEVER THE INPUT: true; the input reads as it did. -/
def proofBindsSpec : ChangeSpec := { name := "proofBinds", fn := fun _ => fun
  | [d1, d2, d3] => { results := [.lit (.bool true)], args := [d1, d2, d3] }
  | _ => none }
def proofBindsRow : OpenClaim := { program := "ytblbmkhlnaaopaa", sum := "465524d702f08024e08120da89061033a82132e51d3c8f861684de4b76749926", func := "concierge/conciergelaw41.ProofBinds", spec := "proofBinds", recurses := true, apart := false }
def ProofBindsSaid : Prop := proofBindsRow.holds Try.pinned (OpenSpec.ofChange proofBindsSpec)

/-- ITS FALSE NEIGHBOUR: 'it returns false'. Refute it at one input. -/
def proofBindsWrong : ChangeSpec := { name := "proofBinds", fn := fun _ => fun
  | [d1, d2, d3] => { results := [.lit (.bool false)], args := [d1, d2, d3] }
  | _ => none }
def ProofBindsWrongFalsely : Prop := proofBindsRow.holds Try.pinned (OpenSpec.ofChange proofBindsWrong)

/- THE SECOND FORM. 'bulk': how many values and letters a reading holds, each counted each time it is reached (what is shared counts as often as it is met; a slice's spare places count too). A statement '..UptoSaid' is the law's where the arguments, and the package variables that the reading takes, are together of bulk at most 1048576: NARROWER than '..Said'. Prove '..Said' where nothing that the law and all that it calls make is longer than what came in: it says more and counts as full. Else prove '..UptoSaid'. A law counts once. -/
mutual
def uptoBulk {H : Type} : DataW H → Nat
  | .lit (.string bytes) => bytes.length + 1
  | .lit _ => 1
  | .nil => 1
  | .ptr d => uptoBulk d + 1
  | .slice elems spare => uptoBulkAll elems + uptoBulkAll spare + 1
  | .agg parts => uptoBulkAll parts + 1
  | .iface _ d => uptoBulk d + 1
  | .map entries => uptoBulkEntries entries + 1
  | .held _ => 1
def uptoBulkAll {H : Type} : List (DataW H) → Nat
  | [] => 0
  | d :: r => uptoBulk d + uptoBulkAll r
def uptoBulkEntries {H : Type} : List (Lit × DataW H) → Nat
  | [] => 0
  | x :: r => uptoBulkEntry x + uptoBulkEntries r
def uptoBulkEntry {H : Type} : Lit × DataW H → Nat
  | (.string bytes, d) => bytes.length + uptoBulk d + 1
  | (_, d) => uptoBulk d + 1
 end
def uptoSmall : (H : Type) → List (DataW H) → Bool := fun _ ds => decide (uptoBulkAll ds ≤ 1048576)
def OpenSpec.upto (s : _root_.Go.ChangeSpec) : _root_.Go.OpenSpec := { _root_.Go.OpenSpec.ofChange s with cond := some uptoSmall }

/-- 'conciergelaw04.SignSorts', WHERE WHAT IT READS IS OF BULK AT MOST 1048576: true; the input reads as it did. -/
def signSortsUptoRow : OpenClaim := { program := "ytblbmkhlnaaopaa", sum := "465524d702f08024e08120da89061033a82132e51d3c8f861684de4b76749926", func := "concierge/conciergelaw04.SignSorts", spec := "signSorts", inPlace := ["internal/abi.NoEscape"], apart := false, narrowed := true }
def SignSortsUptoSaid : Prop := signSortsUptoRow.holds Try.pinned (OpenSpec.upto signSortsSpec)

/-- 'conciergelaw04.SignWords', WHERE WHAT IT READS IS OF BULK AT MOST 1048576: true; the input reads as it did. -/
def signWordsUptoRow : OpenClaim := { program := "ytblbmkhlnaaopaa", sum := "465524d702f08024e08120da89061033a82132e51d3c8f861684de4b76749926", func := "concierge/conciergelaw04.SignWords", spec := "signWords", inPlace := ["internal/abi.NoEscape"], apart := false, narrowed := true }
def SignWordsUptoSaid : Prop := signWordsUptoRow.holds Try.pinned (OpenSpec.upto signWordsSpec)

/-- 'conciergelaw04.SignTexts', WHERE WHAT IT READS IS OF BULK AT MOST 1048576: true; the input reads as it did. -/
def signTextsUptoRow : OpenClaim := { program := "ytblbmkhlnaaopaa", sum := "465524d702f08024e08120da89061033a82132e51d3c8f861684de4b76749926", func := "concierge/conciergelaw04.SignTexts", spec := "signTexts", inPlace := ["internal/abi.NoEscape"], apart := false, narrowed := true }
def SignTextsUptoSaid : Prop := signTextsUptoRow.holds Try.pinned (OpenSpec.upto signTextsSpec)

/-- 'conciergelaw41.ProofPaths', WHERE WHAT IT READS IS OF BULK AT MOST 1048576: true; the input reads as it did. -/
def proofPathsUptoRow : OpenClaim := { program := "ytblbmkhlnaaopaa", sum := "465524d702f08024e08120da89061033a82132e51d3c8f861684de4b76749926", func := "concierge/conciergelaw41.ProofPaths", spec := "proofPaths", recurses := true, apart := false, narrowed := true }
def ProofPathsUptoSaid : Prop := proofPathsUptoRow.holds Try.pinned (OpenSpec.upto proofPathsSpec)

/-- 'conciergelaw41.ProofChecks', WHERE WHAT IT READS IS OF BULK AT MOST 1048576: true; the input reads as it did. -/
def proofChecksUptoRow : OpenClaim := { program := "ytblbmkhlnaaopaa", sum := "465524d702f08024e08120da89061033a82132e51d3c8f861684de4b76749926", func := "concierge/conciergelaw41.ProofChecks", spec := "proofChecks", recurses := true, apart := false, narrowed := true }
def ProofChecksUptoSaid : Prop := proofChecksUptoRow.holds Try.pinned (OpenSpec.upto proofChecksSpec)

/-- 'conciergelaw41.ProofBinds', WHERE WHAT IT READS IS OF BULK AT MOST 1048576: true; the input reads as it did. -/
def proofBindsUptoRow : OpenClaim := { program := "ytblbmkhlnaaopaa", sum := "465524d702f08024e08120da89061033a82132e51d3c8f861684de4b76749926", func := "concierge/conciergelaw41.ProofBinds", spec := "proofBinds", recurses := true, apart := false, narrowed := true }
def ProofBindsUptoSaid : Prop := proofBindsUptoRow.holds Try.pinned (OpenSpec.upto proofBindsSpec)

end Rows
end Go.Proofs.Ytblbmkhlnaaopaa
