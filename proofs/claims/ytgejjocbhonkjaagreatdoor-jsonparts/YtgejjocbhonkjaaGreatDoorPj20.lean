/- JSON: what the program tells of a text's parts; the wake; the law of forms. -/
import Derived.Test.YtgejjocbhonkjaaGreatDoorPj19
import Derived.Test.YtgejjocbhonkjaaGreatDoorFlaw9
namespace Go.Vm
open Go.Proofs
open Go.Lib (decodeL decDigits itoa)
set_option linter.unusedVariables false
set_option linter.unusedSimpArgs false

/-- The value of a text, or none. -/
def vP (s : By) : JV := match allP s with
  | .ok v => v
  | .error _ => .nil
theorem parse_v (s : By) (hs : s.length ≤ 1000) : Tends (fun F => M_json_parse F s) (vP s, (ofP s).2) := by
  refine Tends.eq (parse_t s hs) ?_
  unfold vP ofP
  cases allP s <;> rfl
theorem ofP_parts (s : By) : (ofP s).1.1 = kindP (vP s) ∧ (ofP s).1.2.2.1 = textP (vP s) ∧ (ofP s).1.2.2.2.1 = numV (vP s) ∧ (ofP s).1.2.2.2.2.1 = namesP (vP s) ∧ (ofP s).1.2.2.2.2.2.1 = itemsP 8 (vP s) := by
  unfold ofP vP
  cases allP s <;> exact ⟨rfl, rfl, rfl, rfl, rfl⟩
theorem kind_t (s : By) (hs : s.length ≤ 1000) : Tends (fun F => M_json_Kind F s) (kindP (vP s)) := by
  unfold M_json_Kind
  refine Tends.bind (parse_v s hs) ?_
  cases vP s <;> exact .ret _
theorem text_v (s : By) (hs : s.length ≤ 1000) : Tends (fun F => M_json_Text F s) (textP (vP s), decide (kindP (vP s) = 4)) := by
  unfold M_json_Text
  refine Tends.bind (parse_v s hs) ?_
  cases vP s <;> exact .ret _
theorem number_v (s : By) (hs : s.length ≤ 1000) : Tends (fun F => M_json_Number F s) (numV (vP s), decide (kindP (vP s) = 3)) := by
  unfold M_json_Number
  refine Tends.bind (parse_v s hs) ?_
  cases vP s <;> exact .ret _
theorem len_v (s : By) (hs : s.length ≤ 1000) : Tends (fun F => M_json_Len F s) ((itemsP 8 (vP s)).length : Int) := by
  unfold M_json_Len
  refine Tends.bind (parse_v s hs) ?_
  cases vP s <;> (refine .of fun F => ?_; unfold itemsP; try rw [List.length_map]) <;> rfl

/-! ### the wake -/
theorem itoa_1 : itoa 1 = [49] := by unfold itoa; rw [if_neg (by decide)]; exact Go.Lib.decDigits_one (by decide)
theorem itoa_0 : itoa 0 = [48] := by unfold itoa; rw [if_neg (by decide)]; exact Go.Lib.decDigits_one (by decide)
def wakeV : JV := .obj [([97], .str [195, 169, 10], ()), ([98], .list [.int 1, .int 0], ())]
theorem wake_1 : allP [32, 123, 34, 98, 34, 58, 91, 49, 44, 45, 48, 93, 44, 32, 34, 97, 34, 58, 34, 92, 117, 48, 48, 101, 57, 92, 110, 34, 125] = .ok wakeV := by kernel_rfl
theorem wake_2 : allP [34, 97, 92, 47, 34] = .ok (.str [97, 47]) := by kernel_rfl
theorem wake_3 : allP [91, 93] = .ok (.list []) := by kernel_rfl
theorem wake_lay : layP 8 wakeV = [123, 34, 97, 34, 58, 34, 195, 169, 92, 110, 34, 44, 34, 98, 34, 58, 91, 49, 44, 48, 93, 125] := by
  have : layP 8 wakeV = 123 :: (joinB [quo [97] ++ 58 :: quo [195, 169, 10], quo [98] ++ 58 :: (91 :: (joinB [itoa 1, itoa 0] ++ [93]))] ++ [125]) := rfl
  rw [this, itoa_1, itoa_0]
  rfl
theorem awake9_t : Tends (fun F => M_conciergelaw09_awake F ()) true := by
  have f1 := form_t [32, 123, 34, 98, 34, 58, 91, 49, 44, 45, 48, 93, 44, 32, 34, 97, 34, 58, 34, 92, 117, 48, 48, 101, 57, 92, 110, 34, 125] (by decide)
  unfold formP at f1
  rw [wake_1] at f1
  simp only [wake_lay] at f1
  have f2 := text_v [34, 97, 92, 47, 34] (by decide)
  unfold vP at f2
  rw [wake_2] at f2
  have f3 := kind_t [91, 93] (by decide)
  unfold vP at f3
  rw [wake_3] at f3
  unfold M_conciergelaw09_awake
  refine Tends.bind f1 ?_
  refine Tends.bind f2 ?_
  refine Tends.bind (.of fun F => rfl) ?_
  refine Tends.bind (.of fun F => rfl) ?_
  refine Tends.bind (.of fun F => rfl) ?_
  refine Tends.bind (Tends.pos rfl (Tends.bind f3 (.ret _))) ?_
  exact .ret _

/-! ### forms -/
theorem formP_ok {s : By} {v : JV} (h : allP s = .ok v) : formP s = (layP 8 v, 0) := by unfold formP; rw [h]
theorem ofP_ok {s : By} {v : JV} (h : allP s = .ok v) : ofP s = (refV 8 v, 0) := by unfold ofP; rw [h]
theorem formP_err {s : By} {e : Nat} (h : allP s = .error e) : formP s = ([], (e : Int)) := by unfold formP; rw [h]
theorem ofP_err {s : By} {e : Nat} (h : allP s = .error e) : ofP s = (z9, (e : Int)) := by unfold ofP; rw [h]
theorem jsonForms_t (x : By) : Tends (fun F => M_conciergelaw09_JsonForms F x) true := by
  unfold M_conciergelaw09_JsonForms
  refine Tends.bind awake9_t ?_
  refine Tends.neg (by decide) ?_
  by_cases h5 : 500 < x.length
  · exact Tends.pos (by rw [decide_eq_true_eq]; omega) (.ret _)
  refine Tends.neg (by rw [decide_eq_true_eq]; omega) ?_
  have f1 := form_t x (by omega)
  have f2 := of9_t x (by omega)
  cases h : allP x with
  | error e =>
    have he := all_err h (by omega)
    rw [formP_err h] at f1
    rw [ofP_err h] at f2
    refine Tends.bind f1 ?_
    refine Tends.bind f2 ?_
    refine Tends.bind (r := ((x, [], (e : Int), false, ()) : By × By × Int × Bool × Unit)) (Tends.pos (by simp) (.of fun F => rfl)) ?_
    refine Tends.neg Bool.false_ne_true ?_
    exact Tends.pos (by simpa using he) (.ret _)
  | ok v =>
    obtain ⟨o1, o2, o3⟩ := all_ok h
    rw [formP_ok h] at f1
    rw [ofP_ok h] at f2
    have f3 := form_t (layP 8 v) (by omega)
    rw [formP_ok (form_form h)] at f3
    refine Tends.bind f1 ?_
    refine Tends.bind f2 ?_
    refine Tends.bind (r := ((x, layP 8 v, 0, false, ()) : By × By × Int × Bool × Unit)) (Tends.pos (by show (!decide ((0 : Int) = 0)) = false; decide) (.of fun F => ?_)) ?_
    · show some (x, layP 8 v, 0, !decide (layP 8 v = layP 8 v), ()) = _
      rw [decide_eq_true rfl]
      rfl
    refine Tends.neg Bool.false_ne_true ?_
    refine Tends.neg (by show ¬ (!decide ((0 : Int) = 0)) = true; decide) ?_
    refine Tends.bind f3 ?_
    refine Tends.bind (r := ((layP 8 v, layP 8 v, true, ()) : By × By × Bool × Unit)) (Tends.pos (by rw [decide_eq_true_eq]; show ((layP 8 v).length : Int) ≤ (x.length : Int); omega) (.ret _)) ?_
    refine Tends.bind (r := ((true, ()) : Bool × Unit)) (Tends.pos rfl (.of fun F => ?_)) (.ret _)
    rw [decide_eq_true rfl]
theorem pure_conciergelaw09_JsonForms (x : By) : ∃ F, M_conciergelaw09_JsonForms F x = some true := (jsonForms_t x).ex
end Go.Vm
