/- Paths and checks: what the laws share. No condition. -/
import Derived.Test.YtmbnnjpdpginlaaGreatDoorFlaw41
import Derived.Test.YtmbnnjpdpginlaaGreatDoorPp3
namespace Go.Vm
set_option linter.unusedVariables false
open Go

theorem path_sp (l : List (List UInt8)) (i : Nat) : Sp (pathD l i) := by
  suffices h : ∀ (m : Nat) (l : List (List UInt8)) (i : Nat), l.length ≤ m → Sp (pathD l i) from h l.length l i (Nat.le_refl _)
  intro m
  induction m with
  | zero =>
    intro l i hm
    rw [pathD_small (by omega)]
    intro x hx; cases hx
  | succ m ih =>
    intro l i hm
    by_cases h2 : l.length < 2
    · rw [pathD_small h2]; intro x hx; cases hx
    · have hlt := hf_lt (n := l.length) (by omega)
      have hpos := hf_pos l.length
      by_cases hc : i < hf l.length
      · rw [pathD_left (by omega) hc]
        intro x hx
        rcases List.mem_append.1 hx with hx | hx
        · exact ih _ _ (by simp; omega) x hx
        · simp at hx; subst hx; rw [topD_len]; omega
      · rw [pathD_right (by omega) hc]
        intro x hx
        rcases List.mem_append.1 hx with hx | hx
        · exact ih _ _ (by simp; omega) x hx
        · simp at hx; subst hx; rw [topD_len]; omega

/-- Each text's own path is taken. -/
theorem check_own (l : List (List UInt8)) (hl : l.length ≤ 1048576) (i : Nat) (x : List UInt8) (hx : l[i]? = some x) : chkI (rootD l) (l.length : Int) (i : Int) x (pathD l i) = true := by
  obtain ⟨hi, _⟩ := List.getElem?_eq_some_iff.1 hx
  unfold chkI
  rw [if_pos (by omega)]
  show checkD (rootD l) l.length i x (pathD l i) = true
  rw [checkD_cases, if_pos (path_turns_len l.length l i (Nat.le_refl _)), path_up l.length l i x (Nat.le_refl _) hx]
  simp [rootD]

def L3 : List (List UInt8) := [[97], [98], [99]]
theorem L3_sm : Sm L3 := ⟨by decide, by decide⟩
theorem turns31 : turnsD 3 1 = [false, true] := by
  have h3 : hf 3 = 2 := by decide
  have h2 : hf 2 = 1 := by decide
  rw [turnsD_left (by omega) (by rw [h3]; omega), h3, turnsD_right (by omega) (by rw [h2]; omega), h2, turnsD_small (by omega)]
theorem path32_len : (pathD L3 2).length = 1 := by
  have h3 : hf 3 = 2 := by decide
  rw [path_turns_len 3 L3 2 (by decide)]
  show (turnsD 3 2).length = 1
  rw [turnsD_right (by omega) (by rw [h3]; omega), h3, turnsD_small (by omega)]
  rfl

theorem awake_tends : Tends (fun F => M_conciergelaw41_awake F ()) true := by
  have c1 : chkI (rootD L3) 3 2 [99] (pathD L3 2) = true := check_own L3 (by decide) 2 [99] rfl
  have c2 : chkI (rootD L3) 3 1 [99] (pathD L3 2) = false := by
    unfold chkI
    rw [if_pos (by omega)]
    show checkD (rootD L3) 3 1 [99] (pathD L3 2) = false
    rw [checkD_cases, turns31, path32_len, if_neg (by simp)]
  have hp := path32_len
  unfold M_conciergelaw41_awake
  refine Tends.bind (path_in L3 L3_sm 2 (by decide)) ?_
  refine Tends.bind (r := (L3, pathD L3 2, true, ())) (.of fun F => (if_pos rfl).trans ?_) ?_
  · have : decide (((pathD L3 2).length : Int) = 1) = true := by rw [hp]; rfl
    rw [this]
    rfl
  refine Tends.bind (r := (L3, pathD L3 2, true, ())) ?_ ?_
  · refine Tends.pos rfl ?_
    refine Tends.bind (root_tends L3 L3_sm) ?_
    have hc := check_tends (rootD L3) 3 2 [99] (pathD L3 2) (by decide) (by omega) (path_sp _ _)
    rw [c1] at hc
    exact Tends.bind hc (.ret _)
  refine Tends.bind (r := (true, ())) ?_ (.ret _)
  refine Tends.pos rfl ?_
  refine Tends.bind (root_tends L3 L3_sm) ?_
  have hc := check_tends (rootD L3) 3 1 [99] (pathD L3 2) (by decide) (by omega) (path_sp _ _)
  rw [c2] at hc
  exact Tends.bind hc (.ret _)

end Go.Vm
