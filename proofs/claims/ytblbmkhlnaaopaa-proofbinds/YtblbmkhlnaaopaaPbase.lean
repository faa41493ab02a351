/- Parts of lists, plainly. No condition. -/
import Derived.Test.YtblbmkhlnaaopaaV4
namespace Go.Vm
set_option linter.unusedVariables false
open Go

theorem subN {α : Type} (s : List α) (a b : Nat) (h : a ≤ b) (h' : b ≤ s.length) : sub s (a : Int) (b : Int) = some ((s.drop a).take (b - a)) := by
  unfold sub
  rw [if_pos (by omega)]
  simp

theorem subE {α : Type} (s : List α) (a : Nat) (h : a ≤ s.length) : sub s (a : Int) (s.length : Int) = some (s.drop a) := by
  rw [subN s a s.length h (Nat.le_refl _), List.take_of_length_le (by simp)]

/-- Where each sign begins. -/
def ats (p : Nat) : List (Int × List UInt8) → List Int
  | [] => []
  | x :: t => (p : Int) :: ats (p + x.2.length) t


theorem idxN {α : Type} (l : List α) (i : Nat) (n : Int) (hn : n = (i : Int)) (h : i < l.length) : idx l n = some l[i] := by
  subst hn
  unfold idx
  rw [if_pos (by omega)]
  simp [h]

end Go.Vm
