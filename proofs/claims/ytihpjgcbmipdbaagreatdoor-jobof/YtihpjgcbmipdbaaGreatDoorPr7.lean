import Derived.Test.YtihpjgcbmipdbaaGreatDoorPjob1
import Derived.Test.YtihpjgcbmipdbaaGreatDoorPk3
import Derived.Test.YtihpjgcbmipdbaaGreatDoorFlaw24
import Derived.Test.YtihpjgcbmipdbaaGreatDoorPh8
/- Tables: patterns, what fits, rules, their lines: plainly. No condition. -/
namespace Go.Vm
open Go.Lib (decDigits itoa decodeL)
set_option linter.unusedVariables false
set_option linter.unusedSimpArgs false
/-! ### paths and patterns -/
abbrev RlT := By × By × List PhT × Unit
def noSep (s : By) : Prop := ∀ b ∈ s, b ≠ 10 ∧ b ≠ 32 ∧ b ≠ 58
theorem noSep.app {a b : By} (ha : noSep a) (hb : noSep b) : noSep (a ++ b) := fun x hx => (List.mem_append.1 hx).elim (ha x) (hb x)
end Go.Vm
/- Tables: the program's functions are the plain ones. No condition but on lengths. -/
namespace Go.Vm
open Go.Proofs
set_option linter.unusedVariables false
set_option linter.unusedSimpArgs false
/-! ### parts, forms, patterns -/
end Go.Vm
/- Tables: what the program prints, parses and finds is the plain one. No condition but on lengths. -/
namespace Go.Vm
open Go.Proofs
set_option linter.unusedVariables false
set_option linter.unusedSimpArgs false
def bndR (r : RlT) : Prop := r.1.length ≤ 1000 ∧ r.2.1.length ≤ 1000 ∧ r.2.2.1.length ≤ 100000 ∧ ∀ p ∈ r.2.2.1, bndP p
end Go.Vm
/- Tables: the document's functions are the plain ones. No condition but on lengths. -/
namespace Go.Vm
open Go.Proofs
set_option linter.unusedVariables false
set_option linter.unusedSimpArgs false
/-! ### parts -/
end Go.Vm
/- Tables: what the document prints, parses and finds is the plain one; small tables. No condition but on lengths. -/
namespace Go.Vm
open Go.Proofs
set_option linter.unusedVariables false
set_option linter.unusedSimpArgs false
def bndQ (r : RlT) : Prop := r.1.length ≤ 900 ∧ r.2.1.length ≤ 900 ∧ r.2.2.1.length ≤ 100000 ∧ ∀ p ∈ r.2.2.1, bndP p
theorem bndQ.r {r : RlT} (h : bndQ r) : bndR r := ⟨by have := h.1; omega, by have := h.2.1; omega, h.2.2.1, h.2.2.2⟩
theorem right_bnd {p : PhT} (h : rightG p = true) : bndP p := by
 rcases right_cases h with ⟨n, rfl, _, _⟩ | ⟨nm, n, rfl, h, _, _⟩ | ⟨nm, t, rfl, h, ht⟩ | ⟨n, t, rfl, _, ht⟩
 ·exact ⟨Nat.zero_le _, Nat.zero_le _⟩
 ·exact ⟨by have := nm_len h; simp only; omega, Nat.zero_le _⟩
 ·exact ⟨by have := nm_len h; simp only; omega, by have := textG_len ht; simp only; omega⟩
 ·exact ⟨Nat.zero_le _, by have := textG_len ht; simp only; omega⟩
end Go.Vm
/- Tables: plain paths, the standard table, finding, small tables; the wake. No condition but on lengths. -/
namespace Go.Vm
open Go.Proofs
open Go.Lib (decDigits itoa)
set_option linter.unusedVariables false
set_option linter.unusedSimpArgs false
/-! ### plain paths -/
end Go.Vm
/- Tables: the laws of fits, of any text, and of tables there and back. No condition but on lengths. -/
namespace Go.Vm
open Go.Proofs
set_option linter.unusedVariables false
set_option linter.unusedSimpArgs false
/-! ### small tables -/
end Go.Vm
