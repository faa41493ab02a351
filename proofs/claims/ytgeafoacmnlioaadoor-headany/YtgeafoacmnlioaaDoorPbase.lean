/- Parts of lists, plainly. No condition. -/
import Derived.Test.YtgeafoacmnlioaaDoorV4
namespace Go.Vm
set_option linter.unusedVariables false
open Go
theorem subN {α : Type} (s : List α) (a b : Nat) (h : a ≤ b) (h' : b ≤ s.length) : sub s (a : Int) (b : Int) = some ((s.drop a).take (b - a)) := by
  unfold sub
  rw [if_pos (by omega)]
  simp
theorem subE {α : Type} (s : List α) (a : Nat) (h : a ≤ s.length) : sub s (a : Int) (s.length : Int) = some (s.drop a) := by
  rw [subN s a s.length h (Nat.le_refl _), List.take_of_length_le (by simp)]
theorem idxN {α : Type} (l : List α) (i : Nat) (n : Int) (hn : n = (i : Int)) (h : i < l.length) : idx l n = some l[i] := by
  subst hn
  unfold idx
  rw [if_pos (by omega)]
  simp [h]
theorem next_nat (i : Nat) (h : i < 9000000000000000) : IntKind.i64.wrap ((i : Int) + 1) = ((i + 1 : Nat) : Int) := by rw [wrap64] <;> omega
end Go.Vm
