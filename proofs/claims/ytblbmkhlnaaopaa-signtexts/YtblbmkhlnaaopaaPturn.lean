/- The plain law of turning a text about, sign by sign. No condition but on lengths. -/
import Derived.Test.YtblbmkhlnaaopaaPfold
namespace Go.Vm
open Go.Lib (decodeL decodeN decodeL_N decode_N decodeN_shape decodeL_le)
set_option linter.unusedVariables false
set_option linter.unusedSimpArgs false

def revMid (l : List Int) (i : Nat) : List Int := (List.range l.length).map fun k => if i ≤ k ∧ k + i < l.length then l.getD (l.length - 1 - k) 0 else l.getD k 0

theorem getD_set (l : List Int) (i k : Nat) (x : Int) : (l.set i x).getD k 0 = if i = k ∧ k < l.length then x else l.getD k 0 := by
  simp only [List.getD_eq_getElem?_getD, List.getElem?_set]
  split
  · rename_i h
    subst h
    split
    · rename_i h; rw [if_pos ⟨rfl, h⟩]; rfl
    · rename_i h; rw [if_neg (by omega), List.getElem?_eq_none (by omega)]
  · rename_i h; rw [if_neg (by omega)]

theorem revMid_step (l : List Int) (i j : Nat) (h : i + j + 1 = l.length) (hij : i < j) : revMid ((l.set i (l.getD j 0)).set j (l.getD i 0)) (i + 1) = revMid l i := by
  unfold revMid
  simp only [List.length_set]
  apply List.map_congr_left
  intro k hk
  have hk := List.mem_range.1 hk
  simp only [getD_set, List.length_set]
  repeat' split
  all_goals first | rfl | omega | (congr 1; omega)

theorem revMid_end (l : List Int) (i : Nat) (h : l.length ≤ 2 * i + 1) : revMid l i = l := by
  unfold revMid
  apply List.ext_getElem
  · simp
  · intro k h1 h2
    simp only [List.getElem_map, List.getElem_range]
    have e : l.getD k 0 = l[k] := by simp [List.getD_eq_getElem?_getD, h2]
    split
    · rw [← e]; congr 1; omega
    · exact e

theorem revMid_zero (l : List Int) : revMid l 0 = l.reverse := by
  unfold revMid
  apply List.ext_getElem
  · simp
  · intro k h1 h2
    have h2' : k < l.length := by simpa using h2
    simp only [List.getElem_map, List.getElem_range, List.getElem_reverse]
    rw [if_pos (by omega)]
    simp [List.getD_eq_getElem?_getD, show l.length - 1 - k < l.length by omega]

theorem idxD (l : List Int) (k : Nat) (h : k < l.length) : idx l (k : Int) = some (l.getD k 0) := idxAt l k _ (by simp [List.getD_eq_getElem?_getD, h])

theorem reverseLoop (l : List Int) (hl : l.length ≤ 1000000000000) (i : Nat) (hi : 2 * i ≤ l.length + 1) :
    TendsL M_slices_Reverse_rune_rune_l0 ((), (i : Int), (l.length : Int) - 1 - i, l, ()) ((), revMid l i, ()) := by
  have main : ∀ n (l : List Int) i, l.length - 2 * i ≤ n → l.length ≤ 1000000000000 → 2 * i ≤ l.length + 1 → TendsL M_slices_Reverse_rune_rune_l0 ((), (i : Int), (l.length : Int) - 1 - i, l, ()) ((), revMid l i, ()) := by
    intro n
    induction n with
    | zero =>
      intro l i hn hl hi
      refine TendsL.fin (Tends.of fun F => ?_)
      unfold M_slices_Reverse_rune_rune_l0
      have h : ¬ (i : Int) < (l.length : Int) - 1 - i := by omega
      simp only [h, decide_false, Bool.false_eq_true, if_false]
      rw [revMid_end l i (by omega)]
    | succ n ih =>
      intro l i hn hl hi
      by_cases hlt : (i : Int) < (l.length : Int) - 1 - i
      · obtain ⟨j, hj⟩ : ∃ j : Nat, i + j + 1 = l.length := ⟨l.length - 1 - i, by omega⟩
        have ej : (l.length : Int) - 1 - i = (j : Int) := by omega
        have hij : i < j := by omega
        refine TendsL.step (x' := ((), ((i + 1 : Nat) : Int), (l.length : Int) - 1 - ((i + 1 : Nat) : Int), (l.set i (l.getD j 0)).set j (l.getD i 0), ())) (Tends.of fun F => ?_) ?_
        · unfold M_slices_Reverse_rune_rune_l0
          rw [ej] at hlt ⊢
          have w1 : IntKind.i64.wrap ((i : Int) + 1) = ((i + 1 : Nat) : Int) := by rw [wrap64 _ (by omega) (by omega)]; rfl
          have w2 : IntKind.i64.wrap ((j : Int) - 1) = (l.length : Int) - 1 - ((i + 1 : Nat) : Int) := by rw [wrap64 _ (by omega) (by omega)]; omega
          simp only [hlt, decide_true, if_true, lset, Int.toNat_natCast, idxD l i (by omega), idxD l j (by omega), idxD (l.set i (l.getD j 0)) j (by simp; omega), Option.bind_some, w1, w2]
        · have := ih ((l.set i (l.getD j 0)).set j (l.getD i 0)) (i + 1) (by simp; omega) (by simpa using hl) (by simp; omega)
          rw [revMid_step l i j hj hij] at this
          simpa using this
      · refine TendsL.fin (Tends.of fun F => ?_)
        unfold M_slices_Reverse_rune_rune_l0
        simp only [hlt, decide_false, Bool.false_eq_true, if_false]
        rw [revMid_end l i (by omega)]
  exact main _ l i (Nat.le_refl _) hl hi

theorem reverse_tends (l : List Int) (hl : l.length ≤ 1000000000000) : Tends (fun F => M_slices_Reverse_rune_rune F (l, ())) ((), l.reverse, ()) := by
  unfold M_slices_Reverse_rune_rune
  have := reverseLoop l hl 0 (by omega)
  rw [revMid_zero] at this
  have e : IntKind.i64.wrap ((l.length : Int) - 1) = (l.length : Int) - 1 - ((0 : Nat) : Int) := by rw [wrap64 _ (by omega) (by omega)]; omega
  simp only [e]
  exact this.run.bind (k := fun F (v9 : Unit × List Int × Unit) => some ((), v9.2.1, ())) (Tends.of fun F => rfl)

theorem turnLoop (s : List UInt8) (hs : s.length ≤ 100000000000) (p : Nat) (hp : p ≤ s.length) (out : List Int) (ho : out.length + (s.length - p) ≤ 1000000000000) :
    TendsL M_sign_Turn_l0 ((), (), (s, p), out, ()) ((), out ++ (signs (s.drop p)).map (·.1), ()) := by
  have main : ∀ n p out, s.length - p ≤ n → p ≤ s.length → out.length + (s.length - p) ≤ 1000000000000 → TendsL M_sign_Turn_l0 ((), (), (s, p), out, ()) ((), out ++ (signs (s.drop p)).map (·.1), ()) := by
    intro n
    induction n with
    | zero =>
      intro p out hn hp ho
      have : p = s.length := by omega
      subst this
      refine TendsL.fin (Tends.of fun F => ?_)
      unfold M_sign_Turn_l0
      simp [signs_nil]
    | succ n ih =>
      intro p out hn hp ho
      by_cases hlt : p < s.length
      · have hpos := decodeL_pos (s.drop p)
        have hnx := next_le hlt
        rw [signs_cons (drop_ne hlt), drop_next]
        refine TendsL.step (x' := ((), (), (s, p + (decodeL (s.drop p)).2), out ++ [((decodeL (s.drop p)).1 : Int)], ())) (Tends.of fun F => ?_) ?_
        · unfold M_sign_Turn_l0
          have hL : (out.length + 1) * 4 ≤ 140737488355328 := by omega
          simp only [hlt, decide_true, if_true, runeAt_eq, runeLen_eq, List.length_cons, List.length_nil, Nat.zero_add, hL]
        · have := ih (p + (decodeL (s.drop p)).2) (out ++ [((decodeL (s.drop p)).1 : Int)]) (by omega) hnx (by rw [List.length_append]; simp; omega)
          simpa using this
      · have : p = s.length := by omega
        subst this
        refine TendsL.fin (Tends.of fun F => ?_)
        unfold M_sign_Turn_l0
        simp [signs_nil]
  exact main _ p out (Nat.le_refl _) hp ho

theorem turn_tends (s : List UInt8) (hs : s.length ≤ 100000000000) : Tends (fun F => M_sign_Turn F s) (((signs s).map (·.1)).reverse.flatMap enc8) := by
  unfold M_sign_Turn
  have hl := signs_len s
  have := turnLoop s hs 0 (by omega) [] (by simp; omega)
  refine this.run.bind ?_
  simp only [List.nil_append, List.drop_zero]
  exact (reverse_tends _ (by simp; omega)).bind (k := fun F (v2 : Unit × List Int × Unit) => some (runes8 v2.2.1)) (Tends.of fun F => rfl)

end Go.Vm
