/- Part 6 of an abstract value machine: a framework of this session's own, in which functions of the program are run once and for all inputs. No condition. -/
import Derived.Test.YtgeafoacmnlioaaDoorV5
import Derived.Test.YtgeafoacmnlioaaDoorV3
import Derived.Test.YtgeafoacmnlioaaDoorV4
import Derived.Laws.World
import Derived.Laws.NewBlocks
import Derived.Shelf.Strings.Split
import Derived.Lib.IndexBytes
/- The abstract value machine: functions of Go's library strings, by the shelf's contracts. -/
namespace Go.Vm
open Go.Proofs Go.Shelf Go.RowKit
set_option linter.unusedVariables false
variable {P : Program} {ρ : Ren}
section
variable {kt : KT}
theorem own_two {w : World} {Y : Nat → Prop} {a b : DV El} {vs : Array Value} {bl : List Nat} (h : OwnL (Own (tabOf kt) w Y) [a, b] vs.toList bl) :
    ∃ u v b1 b2, vs = #[u, v] ∧ Own (tabOf kt) w Y a u b1 ∧ Own (tabOf kt) w Y b v b2 ∧ bl = b1 ++ b2 := by
  obtain ⟨xs⟩ := vs
  cases h with
  | cons h t =>
    cases t with
    | cons h' t' =>
      cases t'
      exact ⟨_, _, _, _, rfl, h, h', by simp⟩
theorem own_str {w : World} {Y : Nat → Prop} {l : List UInt8} {v : Value} {bl : List Nat} (h : Own (tabOf kt) w Y (.str l) v bl) : v = .string ⟨l.toArray⟩ ∧ bl = [] := by
  cases h with
  | c h =>
    cases h with
    | sh hr hs =>
      cases hr
      exact ⟨rfl, rfl⟩
end
end Go.Vm
