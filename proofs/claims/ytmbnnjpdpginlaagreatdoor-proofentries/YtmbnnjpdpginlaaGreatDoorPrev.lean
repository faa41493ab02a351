/- A list of texts turned about, plainly. No condition. -/
import Derived.Test.YtmbnnjpdpginlaaGreatDoorFproof
import Derived.Test.YtmbnnjpdpginlaaGreatDoorPbase
namespace Go.Vm
set_option linter.unusedVariables false
set_option linter.unusedSimpArgs false

def revS (l : List (List UInt8)) (i : Nat) : List (List UInt8) := (List.range l.length).map fun k => if i ≤ k ∧ k + i < l.length then l.getD (l.length - 1 - k) [] else l.getD k []

theorem getD_setS (l : List (List UInt8)) (i k : Nat) (x : List UInt8) : (l.set i x).getD k [] = if i = k ∧ k < l.length then x else l.getD k [] := by
  simp only [List.getD_eq_getElem?_getD, List.getElem?_set]
  split
  · rename_i h
    subst h
    split
    · rename_i h; rw [if_pos ⟨rfl, h⟩]; rfl
    · rename_i h; rw [if_neg (by omega), List.getElem?_eq_none (by omega)]
  · rename_i h; rw [if_neg (by omega)]

theorem revS_step (l : List (List UInt8)) (i j : Nat) (h : i + j + 1 = l.length) (hij : i < j) : revS ((l.set i (l.getD j [])).set j (l.getD i [])) (i + 1) = revS l i := by
  unfold revS
  simp only [List.length_set]
  apply List.map_congr_left
  intro k hk
  have hk := List.mem_range.1 hk
  simp only [getD_setS, List.length_set]
  repeat' split
  all_goals first | rfl | omega | (congr 1; omega)

theorem revS_end (l : List (List UInt8)) (i : Nat) (h : l.length ≤ 2 * i + 1) : revS l i = l := by
  unfold revS
  apply List.ext_getElem
  · simp
  · intro k h1 h2
    simp only [List.getElem_map, List.getElem_range]
    have e : l.getD k [] = l[k] := by simp [List.getD_eq_getElem?_getD, h2]
    split
    · rw [← e]; congr 1; omega
    · exact e

theorem revS_zero (l : List (List UInt8)) : revS l 0 = l.reverse := by
  unfold revS
  apply List.ext_getElem
  · simp
  · intro k h1 h2
    have h2' : k < l.length := by simpa using h2
    simp only [List.getElem_map, List.getElem_range, List.getElem_reverse]
    rw [if_pos (by omega)]
    simp [List.getD_eq_getElem?_getD, show l.length - 1 - k < l.length by omega]

theorem idxDS (l : List (List UInt8)) (k : Nat) (h : k < l.length) : idx l (k : Int) = some (l.getD k []) := by
  rw [idxN l k _ rfl h]
  simp [List.getD_eq_getElem?_getD, h]

theorem reverseLoopS (l : List (List UInt8)) (hl : l.length ≤ 1000000000000) (i : Nat) (hi : 2 * i ≤ l.length + 1) :
    TendsL M_slices_Reverse_string_string_l0 ((), (i : Int), (l.length : Int) - 1 - i, l, ()) ((), revS l i, ()) := by
  have main : ∀ n (l : List (List UInt8)) i, l.length - 2 * i ≤ n → l.length ≤ 1000000000000 → 2 * i ≤ l.length + 1 → TendsL M_slices_Reverse_string_string_l0 ((), (i : Int), (l.length : Int) - 1 - i, l, ()) ((), revS l i, ()) := by
    intro n
    induction n with
    | zero =>
      intro l i hn hl hi
      refine TendsL.fin (Tends.of fun F => ?_)
      unfold M_slices_Reverse_string_string_l0
      have h : ¬ (i : Int) < (l.length : Int) - 1 - i := by omega
      simp only [h, decide_false, Bool.false_eq_true, if_false]
      rw [revS_end l i (by omega)]
    | succ n ih =>
      intro l i hn hl hi
      by_cases hlt : (i : Int) < (l.length : Int) - 1 - i
      · obtain ⟨j, hj⟩ : ∃ j : Nat, i + j + 1 = l.length := ⟨l.length - 1 - i, by omega⟩
        have ej : (l.length : Int) - 1 - i = (j : Int) := by omega
        have hij : i < j := by omega
        refine TendsL.step (x' := ((), ((i + 1 : Nat) : Int), (l.length : Int) - 1 - ((i + 1 : Nat) : Int), (l.set i (l.getD j [])).set j (l.getD i []), ())) (Tends.of fun F => ?_) ?_
        · unfold M_slices_Reverse_string_string_l0
          rw [ej] at hlt ⊢
          have w1 : IntKind.i64.wrap ((i : Int) + 1) = ((i + 1 : Nat) : Int) := by rw [wrap64 _ (by omega) (by omega)]; rfl
          have w2 : IntKind.i64.wrap ((j : Int) - 1) = (l.length : Int) - 1 - ((i + 1 : Nat) : Int) := by rw [wrap64 _ (by omega) (by omega)]; omega
          simp only [hlt, decide_true, if_true, lset, Int.toNat_natCast, idxDS l i (by omega), idxDS l j (by omega), idxDS (l.set i (l.getD j [])) j (by simp; omega), Option.bind_some, w1, w2]
        · have := ih ((l.set i (l.getD j [])).set j (l.getD i [])) (i + 1) (by simp; omega) (by simpa using hl) (by simp; omega)
          rw [revS_step l i j hj hij] at this
          simpa using this
      · refine TendsL.fin (Tends.of fun F => ?_)
        unfold M_slices_Reverse_string_string_l0
        simp only [hlt, decide_false, Bool.false_eq_true, if_false]
        rw [revS_end l i (by omega)]
  exact main _ l i (Nat.le_refl _) hl hi

theorem reverseS_tends (l : List (List UInt8)) (hl : l.length ≤ 1000000000000) : Tends (fun F => M_slices_Reverse_string_string F (l, ())) ((), l.reverse, ()) := by
  unfold M_slices_Reverse_string_string
  have := reverseLoopS l hl 0 (by omega)
  rw [revS_zero] at this
  have e : IntKind.i64.wrap ((l.length : Int) - 1) = (l.length : Int) - 1 - ((0 : Nat) : Int) := by rw [wrap64 _ (by omega) (by omega)]; omega
  simp only [e]
  exact this.run.bind (k := fun F (v9 : Unit × List (List UInt8) × Unit) => some ((), v9.2.1, ())) (Tends.of fun F => rfl)

end Go.Vm
