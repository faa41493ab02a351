/- Heads: the laws. No condition. -/
import Derived.Test.YtgeafoacmnlioaaDoorPhd7
import Derived.Test.YtgeafoacmnlioaaDoorFlaw38
namespace Go.Vm
open Go Go.Proofs Go.Lib
set_option linter.unusedVariables false
set_option linter.unusedSimpArgs false
abbrev awS : HB := [71, 69, 84, 32, 47, 97, 13, 10, 73, 100, 101, 109, 112, 111, 116, 101, 110, 99, 121, 45, 75, 101, 121, 58, 32, 32, 107, 32, 10, 84, 101, 110, 97, 110, 116, 58, 32, 50, 10, 10, 98, 111, 100, 121, 10]
theorem awParse : parseH vokH awS = ((0, 0, 2, [107], [71, 69, 84], [47, 97], [98, 111, 100, 121, 10], ()), 0) := by kernel_rfl
theorem awField : fieldP awS [84, 69, 78, 65, 78, 84] = ([50], true) := by decide +kernel
theorem awRead : (readP vokH awS).2 = 0 ∧ (readP vokH awS).1.2.2.2.length = 2 := by decide +kernel
theorem awNames : (namesP awS).length = 2 := by
  unfold namesP
  rw [if_pos awRead.1]
  simp [sortB, List.length_mergeSort, awRead.2]
theorem awake_t : Tends (fun F => M_conciergelaw38_awake F ()) true := by
  have h1 := parse_t awS (by decide)
  rw [awParse] at h1
  have h2 := field_t awS [84, 69, 78, 65, 78, 84] (by decide) (by decide)
  rw [awField] at h2
  have h3 := names_t awS (by decide)
  unfold M_conciergelaw38_awake
  refine Tends.bind h1 (Tends.bind h2 ?_)
  refine Tends.bind (Tends.pos rfl (.ret _)) (Tends.bind (Tends.pos rfl (.ret _)) (Tends.bind (r := (awS, true, ())) (Tends.pos rfl (.of fun F => by simp)) ?_))
  refine Tends.bind (r := (true, ())) (Tends.pos rfl (Tends.bind h3 (.of fun F => ?_))) (.ret _)
  rw [awNames]
  rfl
/-! ### what a printed request holds -/
end Go.Vm
