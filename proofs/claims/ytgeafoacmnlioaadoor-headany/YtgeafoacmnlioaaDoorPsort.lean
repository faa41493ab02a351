/- Sorts of signs, plainly. No condition. -/
import Derived.Test.YtgeafoacmnlioaaDoorFref4
namespace Go.Vm
set_option linter.unusedVariables false
set_option linter.unusedSimpArgs false
theorem among_eq (F : Nat) (r a b c : Int) : M_sign_among F (r, a, b, c) = some (decide (a ≤ r ∧ r ≤ b ∧ r ≠ c)) := by
  unfold M_sign_among
  simp only [bind_ite, Option.bind_some, decide_eq_true_eq]
  repeat' split
  all_goals (rw [Option.some.injEq, Bool.eq_iff_iff]; simp only [Bool.not_eq_true', decide_eq_true_eq, decide_eq_false_iff_not, Bool.false_eq_true, true_iff, false_iff]; first | omega | (simp_all; done))
theorem valid_eq (F : Nat) (r : Int) : M_unicode_utf8_ValidRune F r = some (decide (0 ≤ r ∧ (r < 55296 ∨ 57343 < r) ∧ r ≤ 1114111)) := by
  unfold M_unicode_utf8_ValidRune
  simp only [bind_ite, Option.bind_some, decide_eq_true_eq, Bool.false_eq_true, if_false]
  repeat' split
  all_goals (rw [Option.some.injEq, Bool.eq_iff_iff]; simp only [Bool.not_eq_true', decide_eq_true_eq, decide_eq_false_iff_not, Bool.false_eq_true, true_iff, false_iff]; omega)
theorem control_eq (F : Nat) (r : Int) : M_sign_control F r = some (decide (r < 32 ∨ (127 ≤ r ∧ r ≤ 159) ∨ r = 65533 ∨ (55296 ≤ r ∧ r ≤ 57343) ∨ 1114111 < r)) := by
  unfold M_sign_control
  simp only [among_eq, valid_eq, bind_ite, Option.bind_some, decide_eq_true_eq, decide_eq_false_iff_not, Bool.true_eq_false, if_false]
  repeat' split
  all_goals (rw [Option.some.injEq, Bool.eq_iff_iff]; simp only [Bool.not_eq_true', decide_eq_true_eq, decide_eq_false_iff_not, Bool.false_eq_true, true_iff, false_iff]; omega)
theorem blank_eq (F : Nat) (r : Int) : M_sign_blank F r = some (decide (r = 32 ∨ r = 160 ∨ (8192 ≤ r ∧ r ≤ 8202) ∨ r = 12288)) := by
  unfold M_sign_blank
  simp only [among_eq, valid_eq, bind_ite, Option.bind_some, decide_eq_true_eq, decide_eq_false_iff_not, Bool.true_eq_false, if_false]
  repeat' split
  all_goals (rw [Option.some.injEq, Bool.eq_iff_iff]; simp only [Bool.not_eq_true', decide_eq_true_eq, decide_eq_false_iff_not, Bool.false_eq_true, true_iff, false_iff]; omega)
theorem letter_eq (F : Nat) (r : Int) : M_sign_letter F r = some (decide ((65 ≤ r ∧ r ≤ 90) ∨ (97 ≤ r ∧ r ≤ 122) ∨ (192 ≤ r ∧ r ≤ 591 ∧ r ≠ 215 ∧ r ≠ 247) ∨ (913 ≤ r ∧ r ≤ 969 ∧ r ≠ 930))) := by
  unfold M_sign_letter
  simp only [among_eq, some_ite, prod_ite, ite_self, Option.bind_some, Bool.if_true_right, Bool.if_true_left, Bool.if_false_left, Bool.if_false_right, Option.some.injEq]
  rw [Bool.eq_iff_iff]
  simp
  omega
def sortI (n : Int) : Int :=
  if n < 32 ∨ (127 ≤ n ∧ n ≤ 159) ∨ n = 65533 ∨ (55296 ≤ n ∧ n ≤ 57343) ∨ 1114111 < n then 0
  else if n = 32 ∨ n = 160 ∨ (8192 ≤ n ∧ n ≤ 8202) ∨ n = 12288 then 1
  else if 48 ≤ n ∧ n ≤ 57 then 2
  else if (65 ≤ n ∧ n ≤ 90) ∨ (97 ≤ n ∧ n ≤ 122) ∨ (192 ≤ n ∧ n ≤ 591 ∧ n ≠ 215 ∧ n ≠ 247) ∨ (913 ≤ n ∧ n ≤ 969 ∧ n ≠ 930) then 3 else 4
theorem sort_eq (F : Nat) (r : Int) : M_sign_Sort F r = some (sortI r) := by
  unfold M_sign_Sort sortI
  simp only [control_eq, blank_eq, among_eq, letter_eq, Option.bind_some, decide_eq_true_eq]
  repeat' split
  all_goals first | rfl | omega
theorem refSort_eq (F : Nat) (n : Int) : M_conciergeref04_Sort F n = some (sortI n) := by
  unfold M_conciergeref04_Sort sortI
  simp only [some_ite, prod_ite, ite_self, Option.bind_some, Option.some.injEq]
  simp only [Bool.if_true_right, Bool.if_true_left, Bool.if_false_left, Bool.if_false_right, Bool.and_eq_true, Bool.or_eq_true, Bool.not_eq_true', decide_eq_true_eq, decide_eq_false_iff_not]
  simp
  repeat' split
  all_goals first | rfl | omega
end Go.Vm
