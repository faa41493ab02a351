/- Heads: the laws. No condition. -/
import Derived.Test.YtgeafoacmnlioaaDoorPhd7
import Derived.Test.YtgeafoacmnlioaaDoorFlaw38
namespace Go.Vm
open Go Go.Proofs Go.Lib
set_option linter.unusedVariables false
set_option linter.unusedSimpArgs false
abbrev awS : HB := [71, 69, 84, 32, 47, 97, 13, 10, 73, 100, 101, 109, 112, 111, 116, 101, 110, 99, 121, 45, 75, 101, 121, 58, 32, 32, 107, 32, 10, 84, 101, 110, 97, 110, 116, 58, 32, 50, 10, 10, 98, 111, 100, 121, 10]
theorem awParse : parseH vokH awS = ((0, 0, 2, [107], [71, 69, 84], [47, 97], [98, 111, 100, 121, 10], ()), 0) := by kernel_rfl
theorem awField : fieldP awS [84, 69, 78, 65, 78, 84] = ([50], true) := by decide +kernel
theorem awRead : (readP vokH awS).2 = 0 ∧ (readP vokH awS).1.2.2.2.length = 2 := by decide +kernel
theorem awNames : (namesP awS).length = 2 := by
  unfold namesP
  rw [if_pos awRead.1]
  simp [sortB, List.length_mergeSort, awRead.2]
theorem awake_t : Tends (fun F => M_conciergelaw38_awake F ()) true := by
  have h1 := parse_t awS (by decide)
  rw [awParse] at h1
  have h2 := field_t awS [84, 69, 78, 65, 78, 84] (by decide) (by decide)
  rw [awField] at h2
  have h3 := names_t awS (by decide)
  unfold M_conciergelaw38_awake
  refine Tends.bind h1 (Tends.bind h2 ?_)
  refine Tends.bind (Tends.pos rfl (.ret _)) (Tends.bind (Tends.pos rfl (.ret _)) (Tends.bind (r := (awS, true, ())) (Tends.pos rfl (.of fun F => by simp)) ?_))
  refine Tends.bind (r := (true, ())) (Tends.pos rfl (Tends.bind h3 (.of fun F => ?_))) (.ret _)
  rw [awNames]
  rfl
/-! ### what a printed request holds -/
theorem print_zero {r : HdR} (h : (printP r).2 = 0) : (0 ≤ r.2.2.1 ∧ r.2.2.1 < 4) ∧ parseH vokH (txtH r) = (r, 0) ∧ printP r = (txtH r, 0) := by
  unfold printP at h ⊢
  by_cases hb : r.2.2.1 < 0 ∨ 4 ≤ r.2.2.1
  · rw [if_pos hb] at h; exact absurd h (by decide)
  rw [if_neg hb] at h ⊢
  by_cases hs : (decide ((parseH vokH (txtH r)).2 = 0) && sameH (parseH vokH (txtH r)).1 r) = true
  · rw [if_pos hs]
    rw [Bool.and_eq_true, decide_eq_true_eq, sameH_iff] at hs
    exact ⟨by omega, Prod.ext hs.2 hs.1, rfl⟩
  · rw [if_neg hs] at h; exact absurd h (by decide)
theorem parseH_zero (s : HB) : (parseH vokH s).1.1 = 0 ∧ (parseH vokH s).1.2.1 = 0 := by
  unfold parseH
  split
  · exact ⟨rfl, rfl⟩
  split
  · exact ⟨rfl, rfl⟩
  split
  · split
    · split <;> exact ⟨rfl, rfl⟩
    · exact ⟨rfl, rfl⟩
  · exact ⟨rfl, rfl⟩
theorem dig_of {t : Int} (h : 0 ≤ t ∧ t < 4) : 48 ≤ (digH t).toNat ∧ (digH t).toNat ≤ 51 := by
  have : t = 0 ∨ t = 1 ∨ t = 2 ∨ t = 3 := by omega
  rcases this with rfl | rfl | rfl | rfl <;> decide
/-! ### the laws -/
theorem headBack_t (r : HdR) : Tends (fun F => M_conciergelaw38_HeadBack F r) true := by
  unfold M_conciergelaw38_HeadBack
  refine Tends.bind awake_t (Tends.neg (by simp) ?_)
  refine Tends.bind (Tends.orB (c := decide (300 < (r.2.2.2.1.length : Int))) (d := decide (300 < (r.2.2.2.2.1.length : Int))) (f := fun q => ((), q, r, ())) (.ret _)) ?_
  refine Tends.bind (Tends.orB (c := (decide (300 < (r.2.2.2.1.length : Int)) || decide (300 < (r.2.2.2.2.1.length : Int)))) (d := decide (300 < (r.2.2.2.2.2.1.length : Int))) (f := fun q => ((), q, r, ())) (.ret _)) ?_
  refine Tends.bind (Tends.orB (c := ((decide (300 < (r.2.2.2.1.length : Int)) || decide (300 < (r.2.2.2.2.1.length : Int))) || decide (300 < (r.2.2.2.2.2.1.length : Int)))) (d := decide (300 < (r.2.2.2.2.2.2.1.length : Int))) (f := fun q => ((), q, r, ())) (.ret _)) ?_
  by_cases hb : (((decide (300 < (r.2.2.2.1.length : Int)) || decide (300 < (r.2.2.2.2.1.length : Int))) || decide (300 < (r.2.2.2.2.2.1.length : Int))) || decide (300 < (r.2.2.2.2.2.2.1.length : Int))) = true
  · exact Tends.pos hb (.ret _)
  refine Tends.neg hb ?_
  simp only [Bool.or_eq_true, decide_eq_true_eq, not_or] at hb
  have h1 := print_t r (by omega) (by omega) (by omega) (by omega)
  have h2 := rprint_t r (by omega) (by omega) (by omega) (by omega)
  refine Tends.bind h1 (Tends.bind h2 ?_)
  refine Tends.bind (r := ((), (printP r).1, (printP r).2, false, r, ())) (Tends.pos (by simp) (.of fun F => by simp)) (Tends.neg (by simp) ?_)
  by_cases hf : (printP r).2 = 0
  case neg => exact Tends.pos (by simpa using hf) (.ret _)
  refine Tends.neg (by simp [hf]) ?_
  obtain ⟨ht, hp, hq⟩ := print_zero hf
  have hl := txtH_len r 300 (by omega) (by omega) (by omega) (by omega)
  have h3 := parse_t (txtH r) (by omega)
  rw [hp] at h3
  rw [hq]
  refine Tends.bind h3 (Tends.bind (r := (true, ())) (Tends.pos rfl (.of fun F => by simp)) (.ret _))
theorem pure_conciergelaw38_HeadBack (r : HdR) : ∃ F, M_conciergelaw38_HeadBack F r = some true := (headBack_t r).ex
theorem headTurned_t (r : HdR) : Tends (fun F => M_conciergelaw38_HeadTurned F r) true := by
  unfold M_conciergelaw38_HeadTurned
  refine Tends.bind awake_t (Tends.neg (by simp) ?_)
  refine Tends.bind (Tends.orB (c := decide (60 < (r.2.2.2.1.length : Int))) (d := decide (60 < (r.2.2.2.2.1.length : Int))) (f := fun q => ((), q, r, ())) (.ret _)) ?_
  refine Tends.bind (Tends.orB (c := (decide (60 < (r.2.2.2.1.length : Int)) || decide (60 < (r.2.2.2.2.1.length : Int)))) (d := decide (60 < (r.2.2.2.2.2.1.length : Int))) (f := fun q => ((), q, r, ())) (.ret _)) ?_
  refine Tends.bind (Tends.orB (c := ((decide (60 < (r.2.2.2.1.length : Int)) || decide (60 < (r.2.2.2.2.1.length : Int))) || decide (60 < (r.2.2.2.2.2.1.length : Int)))) (d := decide (100 < (r.2.2.2.2.2.2.1.length : Int))) (f := fun q => ((), q, r, ())) (.ret _)) ?_
  by_cases hb : (((decide (60 < (r.2.2.2.1.length : Int)) || decide (60 < (r.2.2.2.2.1.length : Int))) || decide (60 < (r.2.2.2.2.2.1.length : Int))) || decide (100 < (r.2.2.2.2.2.2.1.length : Int))) = true
  · exact Tends.pos hb (.ret _)
  refine Tends.neg hb ?_
  simp only [Bool.or_eq_true, decide_eq_true_eq, not_or] at hb
  have h2 := rprint_t r (by omega) (by omega) (by omega) (by omega)
  refine Tends.bind h2 ?_
  by_cases hf : (printP r).2 = 0
  case neg => exact Tends.pos (by simpa using hf) (.ret _)
  refine Tends.neg (by simp [hf]) ?_
  obtain ⟨ht, hp, hq⟩ := print_zero hf
  have hl : (turnH (digH r.2.2.1) r.2.2.2.1 r.2.2.2.2.1 r.2.2.2.2.2.1 r.2.2.2.2.2.2.1).length ≤ 600 := by
    unfold turnH
    simp
    omega
  have e1 := parseH_zero (txtH r)
  rw [hp] at e1
  have hr : r = (0, 0, r.2.2.1, r.2.2.2.1, r.2.2.2.2.1, r.2.2.2.2.2.1, r.2.2.2.2.2.2.1, ()) := Prod.ext e1.1 (Prod.ext e1.2 rfl)
  have hp' : parseH vokH (textH (digH r.2.2.1) r.2.2.2.1 r.2.2.2.2.1 r.2.2.2.2.2.1 r.2.2.2.2.2.2.1) = ((0, 0, r.2.2.1, r.2.2.2.1, r.2.2.2.2.1, r.2.2.2.2.2.1, r.2.2.2.2.2.2.1, ()), 0) := by
    rw [← hr]; exact hp
  have ht' := turned (dig_of ht) hl hp'
  rw [← hr] at ht'
  have htx : r.2.2.2.2.1 ++ [32] ++ r.2.2.2.2.2.1 ++ [13, 10, 84, 69, 78, 65, 78, 84, 58] ++ [UInt8.ofNat (IntKind.u8.wrap (IntKind.i64.wrap (48 + r.2.2.1))).toNat] ++ [9, 13, 10, 73, 100, 101, 109, 112, 111, 116, 101, 110, 99, 121, 45, 75, 69, 89, 58, 32, 9] ++ r.2.2.2.1 ++ [32, 32, 13, 10, 13, 10] ++ r.2.2.2.2.2.2.1 = turnH (digH r.2.2.1) r.2.2.2.1 r.2.2.2.2.1 r.2.2.2.2.2.1 r.2.2.2.2.2.2.1 := by
    unfold turnH
    simp [digH]
  refine Tends.bind (r := ((), turnH (digH r.2.2.1) r.2.2.2.1 r.2.2.2.2.1 r.2.2.2.2.2.1 r.2.2.2.2.2.2.1, r, ())) ?_ ?_
  · rw [← htx]
    iterate 8 refine Tends.pos (by rw [decide_eq_true_eq]; simp only [List.length_append, List.length_cons, List.length_nil]; omega) ?_
    exact .ret _
  have h3 := parse_t (turnH (digH r.2.2.1) r.2.2.2.1 r.2.2.2.2.1 r.2.2.2.2.2.1 r.2.2.2.2.2.2.1) (by omega)
  rw [ht'] at h3
  refine Tends.bind h3 (Tends.bind (r := (true, ())) (Tends.pos rfl (.of fun F => by simp)) (.ret _))
theorem pure_conciergelaw38_HeadTurned (r : HdR) : ∃ F, M_conciergelaw38_HeadTurned F r = some true := (headTurned_t r).ex
end Go.Vm
