/- The laws of roots, paths and checks, plainly. No condition. -/
import Derived.Test.YtblbmkhlnaaopaaFlaw41
import Derived.Test.YtblbmkhlnaaopaaPp3
namespace Go.Vm
set_option linter.unusedVariables false
open Go

def smallB (l : List (List UInt8)) (most : Nat) : Bool := decide (l.length ≤ most) && l.all fun x => decide (x.length ≤ 60)
theorem small_loop (l : List (List UInt8)) (hl : l.length ≤ 1000) : ∀ (m k : Nat), k + m = l.length →
    TendsL M_conciergelaw41_small_l0 (l, (l.length : Int), (k : Int), ()) (if (l.drop k).all (fun x => decide (x.length ≤ 60)) = true then .inl () else .inr (false, ()))
  | 0, k, h => by
    refine TendsL.fin (.of fun F => ?_)
    unfold M_conciergelaw41_small_l0
    refine (if_neg (by simp; omega)).trans ?_
    rw [List.drop_eq_nil_of_le (by omega)]
    rfl
  | m + 1, k, h => by
    have hk : k < l.length := by omega
    have hx := idxN l k (k : Int) rfl hk
    rw [List.drop_eq_getElem_cons hk, List.all_cons]
    by_cases h60 : l[k].length ≤ 60
    · have ih := small_loop l hl m (k + 1) (by omega)
      rw [decide_eq_true h60, Bool.true_and]
      refine TendsL.step ?_ ih
      unfold M_conciergelaw41_small_l0
      refine Tends.pos (by simp; omega) ?_
      refine Tends.bind (.const hx) ?_
      refine Tends.neg (by simp; omega) ?_
      refine Tends.of fun F => ?_
      rw [next_nat k (by omega)]
    · rw [decide_eq_false h60, Bool.false_and, if_neg (by simp)]
      refine TendsL.fin ?_
      unfold M_conciergelaw41_small_l0
      refine Tends.pos (by simp; omega) ?_
      refine Tends.bind (.const hx) ?_
      exact Tends.pos (by simp; omega) (.ret _)
theorem small_tends (l : List (List UInt8)) (most : Nat) (hm : most ≤ 1000) : Tends (fun F => M_conciergelaw41_small F (l, (most : Int))) (smallB l most) := by
  unfold M_conciergelaw41_small smallB
  by_cases h : l.length ≤ most
  · rw [decide_eq_true h, Bool.true_and]
    refine Tends.neg (by simp; omega) ?_
    have hl := small_loop l (by omega) l.length 0 (by omega)
    rw [List.drop_zero] at hl
    refine Tends.bind hl.run ?_
    cases ha : l.all fun x => decide (x.length ≤ 60)
    · exact .ret _
    · exact .ret _
  · rw [decide_eq_false h, Bool.false_and]
    exact Tends.pos (by simp; omega) (.ret _)
theorem smallB_spec {l : List (List UInt8)} {most : Nat} (h : smallB l most = true) : l.length ≤ most ∧ ∀ x ∈ l, x.length ≤ 60 := by
  unfold smallB at h
  simp only [Bool.and_eq_true, decide_eq_true_eq, List.all_eq_true] at h
  exact h
theorem smallB_sm {l : List (List UInt8)} {most : Nat} (h : smallB l most = true) (hm : most ≤ 1000) : Sm l := by
  obtain ⟨h1, h2⟩ := smallB_spec h
  exact ⟨by omega, fun x hx => by have := h2 x hx; omega⟩

theorem path_sp (l : List (List UInt8)) (i : Nat) : Sp (pathD l i) := by
  suffices h : ∀ (m : Nat) (l : List (List UInt8)) (i : Nat), l.length ≤ m → Sp (pathD l i) from h l.length l i (Nat.le_refl _)
  intro m
  induction m with
  | zero =>
    intro l i hm
    rw [pathD_small (by omega)]
    intro x hx; cases hx
  | succ m ih =>
    intro l i hm
    by_cases h2 : l.length < 2
    · rw [pathD_small h2]; intro x hx; cases hx
    · have hlt := hf_lt (n := l.length) (by omega)
      have hpos := hf_pos l.length
      by_cases hc : i < hf l.length
      · rw [pathD_left (by omega) hc]
        intro x hx
        rcases List.mem_append.1 hx with hx | hx
        · exact ih _ _ (by simp; omega) x hx
        · simp at hx; subst hx; rw [topD_len]; omega
      · rw [pathD_right (by omega) hc]
        intro x hx
        rcases List.mem_append.1 hx with hx | hx
        · exact ih _ _ (by simp; omega) x hx
        · simp at hx; subst hx; rw [topD_len]; omega

/-- Each text's own path is taken. -/
theorem check_own (l : List (List UInt8)) (hl : l.length ≤ 1048576) (i : Nat) (x : List UInt8) (hx : l[i]? = some x) : chkI (rootD l) (l.length : Int) (i : Int) x (pathD l i) = true := by
  obtain ⟨hi, _⟩ := List.getElem?_eq_some_iff.1 hx
  unfold chkI
  rw [if_pos (by omega)]
  show checkD (rootD l) l.length i x (pathD l i) = true
  rw [checkD_cases, if_pos (path_turns_len l.length l i (Nat.le_refl _)), path_up l.length l i x (Nat.le_refl _) hx]
  simp [rootD]

def L3 : List (List UInt8) := [[97], [98], [99]]
theorem L3_sm : Sm L3 := ⟨by decide, by decide⟩
theorem turns31 : turnsD 3 1 = [false, true] := by
  have h3 : hf 3 = 2 := by decide
  have h2 : hf 2 = 1 := by decide
  rw [turnsD_left (by omega) (by rw [h3]; omega), h3, turnsD_right (by omega) (by rw [h2]; omega), h2, turnsD_small (by omega)]
theorem path32_len : (pathD L3 2).length = 1 := by
  have h3 : hf 3 = 2 := by decide
  rw [path_turns_len 3 L3 2 (by decide)]
  show (turnsD 3 2).length = 1
  rw [turnsD_right (by omega) (by rw [h3]; omega), h3, turnsD_small (by omega)]
  rfl

theorem awake_tends : Tends (fun F => M_conciergelaw41_awake F ()) true := by
  have c1 : chkI (rootD L3) 3 2 [99] (pathD L3 2) = true := check_own L3 (by decide) 2 [99] rfl
  have c2 : chkI (rootD L3) 3 1 [99] (pathD L3 2) = false := by
    unfold chkI
    rw [if_pos (by omega)]
    show checkD (rootD L3) 3 1 [99] (pathD L3 2) = false
    rw [checkD_cases, turns31, path32_len, if_neg (by simp)]
  have hp := path32_len
  unfold M_conciergelaw41_awake
  refine Tends.bind (path_in L3 L3_sm 2 (by decide)) ?_
  refine Tends.bind (r := (L3, pathD L3 2, true, ())) (.of fun F => (if_pos rfl).trans ?_) ?_
  · have : decide (((pathD L3 2).length : Int) = 1) = true := by rw [hp]; rfl
    rw [this]
    rfl
  refine Tends.bind (r := (L3, pathD L3 2, true, ())) ?_ ?_
  · refine Tends.pos rfl ?_
    refine Tends.bind (root_tends L3 L3_sm) ?_
    have hc := check_tends (rootD L3) 3 2 [99] (pathD L3 2) (by decide) (by omega) (path_sp _ _)
    rw [c1] at hc
    exact Tends.bind hc (.ret _)
  refine Tends.bind (r := (true, ())) ?_ (.ret _)
  refine Tends.pos rfl ?_
  refine Tends.bind (root_tends L3 L3_sm) ?_
  have hc := check_tends (rootD L3) 3 1 [99] (pathD L3 2) (by decide) (by omega) (path_sp _ _)
  rw [c2] at hc
  exact Tends.bind hc (.ret _)

theorem same_loop (l : List (List UInt8)) (i : Int) (root : List UInt8) (p : List (List UInt8)) (hp : p.length ≤ 1000) : ∀ (m k : Nat), k + m = p.length →
    TendsL M_conciergelaw41_ProofPaths_l0 (l, i, root, p, p, (p.length : Int), (k : Int), ()) (.inl (l, i, root, p, ()))
  | 0, k, h => by
    refine TendsL.fin (.of fun F => ?_)
    unfold M_conciergelaw41_ProofPaths_l0
    exact (if_neg (by simp; omega)).trans rfl
  | m + 1, k, h => by
    have hk : k < p.length := by omega
    have hx := idxN p k (k : Int) rfl hk
    refine TendsL.step ?_ (same_loop l i root p hp m (k + 1) (by omega))
    unfold M_conciergelaw41_ProofPaths_l0
    refine Tends.pos (by simp; omega) ?_
    refine Tends.bind (r := (l, i, root, p, p, (p.length : Int), (k : Int), false, ())) ?_ ?_
    · refine Tends.bind (.const hx) (Tends.bind (.const hx) (.of fun F => ?_))
      simp
    · refine Tends.neg (by simp) (.of fun F => ?_)
      rw [next_nat k (by omega)]

/-- ROOTS AND PATHS. -/
theorem pure_conciergelaw41_ProofPaths (l : List (List UInt8)) (i : Int) : ∃ F, M_conciergelaw41_ProofPaths F (l, i) = some true := by
  refine Tends.ex ?_
  unfold M_conciergelaw41_ProofPaths
  refine Tends.bind awake_tends (Tends.neg (by simp) ?_)
  refine Tends.bind (small_tends l 40 (by omega)) ?_
  cases hsm : smallB l 40
  · exact Tends.pos (by simp) (.ret _)
  refine Tends.neg (by simp) ?_
  have hs := smallB_sm hsm (by omega)
  have hs1 := (smallB_spec hsm).1
  refine Tends.bind (root_tends l hs) ?_
  by_cases hin : 0 ≤ i ∧ i < l.length
  · obtain ⟨I, rfl⟩ : ∃ I : Nat, i = (I : Int) := ⟨i.toNat, by omega⟩
    have hI : I < l.length := by omega
    have hpl := pathD_len l I hs.1
    refine Tends.bind (path_in l hs I hI) ?_
    refine Tends.bind (r := (l, (I : Int), rootD l, pathD l I, true, false, ())) ?_ ?_
    · refine Tends.bind (rroot_tends l hs) ?_
      refine Tends.pos (by simp) (Tends.pos (by simp) (.of fun F => ?_))
      have : decide ((I : Int) < (l.length : Int)) = true := by simp; omega
      rw [this]
      rfl
    refine Tends.neg (by simp) (Tends.neg (by simp) ?_)
    refine Tends.bind (rpath_tends l hs I (by omega)) ?_
    refine Tends.neg (by simp) ?_
    refine Tends.bind (same_loop l (I : Int) (rootD l) (pathD l I) (by omega) (pathD l I).length 0 (by omega)).run ?_
    show Tends (fun F => ((idx l (I : Int)).bind fun v13 => (M_proof_Check F (rootD l, (l.length : Int), (I : Int), v13, pathD l I)).bind fun v14 => some (v14, ())).bind fun v15 => some v15.1) true
    have hx := idxN l I (I : Int) rfl hI
    have hc := check_tends (rootD l) (l.length : Int) (I : Int) l[I] (pathD l I) (by have := hs.2 _ (List.getElem_mem hI); omega) (by omega) (path_sp _ _)
    rw [check_own l (by omega) I l[I] (by simp [hI])] at hc
    refine Tends.bind (r := (true, ())) ?_ (.ret _)
    exact Tends.bind (.const hx) (Tends.bind hc (.ret _))
  · refine Tends.bind (path_out l i hin) ?_
    refine Tends.bind (r := (l, i, rootD l, [], false, false, ())) ?_ ?_
    · refine Tends.bind (rroot_tends l hs) ?_
      refine Tends.pos (by simp) ?_
      by_cases h0 : 0 ≤ i
      · refine Tends.pos (by simpa using h0) (.of fun F => ?_)
        have : decide (i < (l.length : Int)) = false := by simp; omega
        rw [this]
        rfl
      · refine Tends.neg (by simpa using h0) (.of fun F => ?_)
        rfl
    exact Tends.neg (by simp) (Tends.pos (by simp) (.ret _))

/-- CHECKS. -/
theorem pure_conciergelaw41_ProofChecks (root : List UInt8) (n0 n1 : Int) (x : List (List UInt8)) : ∃ F, M_conciergelaw41_ProofChecks F (root, [n0, n1], x) = some true := by
  refine Tends.ex ?_
  unfold M_conciergelaw41_ProofChecks
  refine Tends.bind awake_tends (Tends.neg (by simp) ?_)
  by_cases h60 : 60 < root.length
  · refine Tends.bind (r := (root, x, (), true, [n0, n1], ())) (.of fun F => if_neg (by simp; omega)) ?_
    refine Tends.bind (r := (root, x, (), true, [n0, n1], ())) (.of fun F => if_neg (by simp)) ?_
    exact Tends.pos rfl (.ret _)
  refine Tends.bind (r := (root, x, (), !smallB x 31, [n0, n1], ())) (Tends.pos (by simp; omega) (Tends.bind (small_tends x 31 (by omega)) (.ret _))) ?_
  cases hsm : smallB x 31
  · refine Tends.bind (r := (root, x, (), true, [n0, n1], ())) (.of fun F => if_neg (by simp)) ?_
    exact Tends.pos rfl (.ret _)
  have hs := smallB_sm hsm (by omega)
  have hs1 := (smallB_spec hsm).1
  by_cases hx0 : x = []
  · subst hx0
    refine Tends.bind (r := (root, [], (), true, [n0, n1], ())) (.of fun F => (if_pos (by simp)).trans (by simp)) ?_
    exact Tends.pos rfl (.ret _)
  obtain ⟨t, p, rfl⟩ : ∃ t p, x = t :: p := by cases x with
    | nil => exact absurd rfl hx0
    | cons t p => exact ⟨t, p, rfl⟩
  refine Tends.bind (r := (root, t :: p, (), false, [n0, n1], ())) (.of fun F => (if_pos (by simp)).trans (by simp; omega)) ?_
  refine Tends.neg (by simp) ?_
  have h1 : sub (t :: p) 1 ((t :: p).length : Int) = some p := by
    have := subE (t :: p) 1 (by simp)
    simpa using this
  have ht := hs.2 t (by simp)
  have hp : Sp p := fun y hy => hs.2 y (by simp [hy])
  have hl : p.length ≤ 1000 := by have : (t :: p).length ≤ 31 := hs1
                                  simp at this; omega
  refine Tends.bind (r := (true, ())) ?_ (.ret _)
  refine Tends.bind (r := n0) (.of fun F => rfl) (Tends.bind (r := n1) (.of fun F => rfl) (Tends.bind (r := t) (.of fun F => rfl) (Tends.bind (.const h1) ?_)))
  refine Tends.bind (check_tends root n0 n1 t p (by omega) hl hp) ?_
  refine Tends.bind (r := n0) (.of fun F => rfl) (Tends.bind (r := n1) (.of fun F => rfl) (Tends.bind (r := t) (.of fun F => rfl) (Tends.bind (.const h1) ?_)))
  refine Tends.bind (rcheck_tends root n0 n1 t p (by omega) hl hp) ?_
  refine Tends.of fun F => ?_
  simp

end Go.Vm
