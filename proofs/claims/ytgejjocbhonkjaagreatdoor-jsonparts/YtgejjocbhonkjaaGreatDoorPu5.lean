/- A sign's bytes as the document has them, plainly. No condition but on lengths. -/
import Derived.Test.YtgejjocbhonkjaaGreatDoorFr9
import Derived.Test.YtgejjocbhonkjaaGreatDoorPu1
namespace Go.Vm
open Go.Lib (decodeL decodeN decodeL_N decode_N decodeN_shape decodeL_le)
set_option linter.unusedVariables false
set_option linter.unusedSimpArgs false

theorem refBytes_eq (F c : Nat) (h : okR c) : M_conciergeref04_Bytes F (c : Int) = some (enc8 (c : Int)) := by
  obtain ⟨h1, h2⟩ := h
  rw [enc8_val c ⟨h1, h2⟩]
  unfold M_conciergeref04_Bytes encN
  have d1 : (c : Int).tdiv 64 = ((c / 64 : Nat) : Int) := by rw [Int.tdiv_eq_ediv_of_nonneg (by omega)]; omega
  have d2 : (c : Int).tdiv 4096 = ((c / 4096 : Nat) : Int) := by rw [Int.tdiv_eq_ediv_of_nonneg (by omega)]; omega
  have d3 : (c : Int).tdiv 262144 = ((c / 262144 : Nat) : Int) := by rw [Int.tdiv_eq_ediv_of_nonneg (by omega)]; omega
  have m1 : ∀ d : Nat, (d : Int).tmod 64 = ((d % 64 : Nat) : Int) := fun d => by rw [Int.tmod_eq_emod_of_nonneg (by omega)]; omega
  simp only [d1, d2, d3]
  simp (disch := omega) only [wrap64]
  simp only [m1]
  simp (disch := omega) only [wrap64]
  by_cases c1 : c < 128
  · have : (c : Int) < 128 := by omega
    simp only [c1, this, if_true, decide_true]
    rw [wrapU8 _ (by omega) (by omega)]
    simp
  have n1 : ¬ (c : Int) < 128 := by omega
  by_cases c2 : c < 2048
  · have : (c : Int) < 2048 := by omega
    simp only [c1, n1, c2, this, if_true, if_false, decide_true, decide_false, Bool.false_eq_true]
    rw [wrapU8 _ (by omega) (by omega), wrapU8 _ (by omega) (by omega)]
    congr 3 <;> omega
  have n2 : ¬ (c : Int) < 2048 := by omega
  by_cases c3 : c < 65536
  · have : (c : Int) < 65536 := by omega
    simp only [c1, n1, c2, n2, c3, this, if_true, if_false, decide_true, decide_false, Bool.false_eq_true]
    rw [wrapU8 _ (by omega) (by omega), wrapU8 _ (by omega) (by omega), wrapU8 _ (by omega) (by omega)]
    congr 3
    all_goals first | omega | (congr 2 <;> omega)
  have n3 : ¬ (c : Int) < 65536 := by omega
  simp only [c1, n1, c2, n2, c3, n3, if_true, if_false, decide_true, decide_false, Bool.false_eq_true]
  rw [wrapU8 _ (by omega) (by omega), wrapU8 _ (by omega) (by omega), wrapU8 _ (by omega) (by omega), wrapU8 _ (by omega) (by omega)]
  congr 3
  all_goals first | omega | (congr 2 <;> omega)


end Go.Vm
