/- Proofs of membership, plainly: paths, turns, climbing. No condition. -/
import Derived.Test.YtmbnnjpdpginlaaGreatDoorPp1
import Derived.Test.YtmbnnjpdpginlaaGreatDoorPrev
namespace Go.Vm
set_option linter.unusedVariables false
open Go

/-! ### paths -/
def pathD (l : List (List UInt8)) (i : Nat) : List (List UInt8) :=
  if h : l.length < 2 then []
  else if i < hf l.length then pathD (l.take (hf l.length)) i ++ [topD (l.drop (hf l.length))]
  else pathD (l.drop (hf l.length)) (i - hf l.length) ++ [topD (l.take (hf l.length))]
termination_by l.length
decreasing_by
  · have := hf_lt (n := l.length) (by omega); simp; omega
  · have := hf_pos l.length; simp; omega
theorem pathD_small {l : List (List UInt8)} (h : l.length < 2) (i : Nat) : pathD l i = [] := by rw [pathD, dif_pos h]
theorem pathD_left {l : List (List UInt8)} (h : 2 ≤ l.length) {i : Nat} (hi : i < hf l.length) : pathD l i = pathD (l.take (hf l.length)) i ++ [topD (l.drop (hf l.length))] := by
  rw [pathD, dif_neg (by omega), if_pos hi]
theorem pathD_right {l : List (List UInt8)} (h : 2 ≤ l.length) {i : Nat} (hi : ¬ i < hf l.length) : pathD l i = pathD (l.drop (hf l.length)) (i - hf l.length) ++ [topD (l.take (hf l.length))] := by
  rw [pathD, dif_neg (by omega), if_neg hi]

/-! ### turns -/
def turnsD (n i : Nat) : List Bool :=
  if h : n < 2 then [] else if i < hf n then false :: turnsD (hf n) i else true :: turnsD (n - hf n) (i - hf n)
termination_by n
decreasing_by
  · exact hf_lt (by omega)
  · have := hf_pos n; omega
theorem turnsD_small {n : Nat} (h : n < 2) (i : Nat) : turnsD n i = [] := by rw [turnsD, dif_pos h]
theorem turnsD_left {n i : Nat} (h : 2 ≤ n) (hi : i < hf n) : turnsD n i = false :: turnsD (hf n) i := by rw [turnsD, dif_neg (by omega), if_pos hi]
theorem turnsD_right {n i : Nat} (h : 2 ≤ n) (hi : ¬ i < hf n) : turnsD n i = true :: turnsD (n - hf n) (i - hf n) := by rw [turnsD, dif_neg (by omega), if_neg hi]
theorem hf_half {n : Nat} (h : 2 ≤ n) : n - hf n ≤ hf n := by have := hf_ge h; omega
theorem turnsD_len : ∀ (k n i : Nat), n ≤ 2 ^ k → (turnsD n i).length ≤ k
  | 0, n, i, h => by rw [turnsD_small (by simp at h; omega)]; simp
  | k + 1, n, i, h => by
    by_cases h2 : n < 2
    · rw [turnsD_small h2]; simp
    · have hh : hf n ≤ 2 ^ k := by
        unfold hf
        refine Nat.pow_le_pow_right (by omega) ?_
        have : Nat.log2 (n - 1) < k + 1 := (Nat.log2_lt (by omega)).2 (by omega)
        omega
      by_cases hi : i < hf n
      · rw [turnsD_left (by omega) hi]
        have := turnsD_len k (hf n) i hh
        simp; omega
      · rw [turnsD_right (by omega) hi]
        have := hf_half (n := n) (by omega)
        have := turnsD_len k (n - hf n) (i - hf n) (by omega)
        simp; omega

theorem path_turns_len : ∀ (m : Nat) (l : List (List UInt8)) (i : Nat), l.length ≤ m → (pathD l i).length = (turnsD l.length i).length
  | m, l, i, hm => by
    by_cases h2 : l.length < 2
    · rw [pathD_small h2, turnsD_small h2]; rfl
    · have hlt := hf_lt (n := l.length) (by omega)
      have hpos := hf_pos l.length
      match m with
      | 0 => omega
      | m + 1 =>
        by_cases hi : i < hf l.length
        · rw [pathD_left (by omega) hi, turnsD_left (by omega) hi]
          have := path_turns_len m (l.take (hf l.length)) i (by simp; omega)
          have e : (l.take (hf l.length)).length = hf l.length := by simp; omega
          rw [e] at this
          simp [this]
        · rw [pathD_right (by omega) hi, turnsD_right (by omega) hi]
          have := path_turns_len m (l.drop (hf l.length)) (i - hf l.length) (by simp; omega)
          have e : (l.drop (hf l.length)).length = l.length - hf l.length := by simp
          rw [e] at this
          simp [this]

/-! ### the way up -/
def up : List Bool → List (List UInt8) → List UInt8 → Option (List UInt8)
  | [], [], d => some d
  | w :: ws, o :: os, d => if o.length = 32 then up ws os (if w then knotD o d else knotD d o) else none
  | _, _, _ => none
theorem up_snoc (w : Bool) (o : List UInt8) : ∀ (ws : List Bool) (os : List (List UInt8)) (d : List UInt8), ws.length = os.length →
    up (ws ++ [w]) (os ++ [o]) d = (up ws os d).bind fun x => if o.length = 32 then some (if w then knotD o x else knotD x o) else none
  | [], [], d, _ => by simp [up]
  | [], _ :: _, d, h => by simp at h
  | _ :: _, [], d, h => by simp at h
  | v :: ws, p :: os, d, h => by
    simp only [List.cons_append, up]
    split
    · exact up_snoc w o ws os _ (by simpa using h)
    · rfl
theorem up_len {ws : List Bool} {os : List (List UInt8)} {d x : List UInt8} (h : up ws os d = some x) (hd : d.length = 32) : x.length = 32 := by
  induction ws generalizing os d with
  | nil =>
    cases os with
    | nil => cases h; exact hd
    | cons o os => cases h
  | cons w ws ih =>
    cases os with
    | nil => cases h
    | cons o os =>
      simp only [up] at h
      split at h
      · exact ih h (by split <;> exact dig_len _)
      · cases h

/-- What the program's check comes to. -/
def upD (n i : Nat) (path : List (List UInt8)) (d : List UInt8) : Option (List UInt8) := if path.length = (turnsD n i).length then up (turnsD n i).reverse path d else none
def checkD (root : List UInt8) (n i : Nat) (text : List UInt8) (path : List (List UInt8)) : Bool := match upD n i path (leafD text) with
  | some x => decide (sealD n x = root)
  | none => false

/-- Each text's path comes to the top. -/
theorem path_up : ∀ (m : Nat) (l : List (List UInt8)) (i : Nat) (x : List UInt8) (hm : l.length ≤ m) (hx : l[i]? = some x), up (turnsD l.length i).reverse (pathD l i) (leafD x) = some (topD l)
  | m, l, i, x, hm, hx => by
    obtain ⟨hi, hxe⟩ := List.getElem?_eq_some_iff.1 hx
    by_cases h2 : l.length < 2
    · rw [pathD_small h2, turnsD_small h2]
      obtain ⟨y, rfl⟩ := List.length_eq_one_iff.1 (show l.length = 1 by omega)
      have : i = 0 := by simp at hi; exact hi
      subst this
      rw [topD_one]
      simp at hx
      subst hx
      rfl
    · have hlt := hf_lt (n := l.length) (by omega)
      have hpos := hf_pos l.length
      match m with
      | 0 => omega
      | m + 1 =>
        by_cases hc : i < hf l.length
        · have e : (l.take (hf l.length)).length = hf l.length := by simp; omega
          have ih := path_up m (l.take (hf l.length)) i x (by omega) (by rw [List.getElem?_take, if_pos hc]; exact hx)
          have hl := path_turns_len m (l.take (hf l.length)) i (by omega)
          rw [e] at ih hl
          rw [pathD_left (by omega) hc, turnsD_left (by omega) hc, List.reverse_cons, up_snoc _ _ _ _ _ (by simp [hl])]
          rw [ih, Option.bind_some, if_pos (topD_len _), topD_more (l := l) (by omega)]
          rfl
        · have e : (l.drop (hf l.length)).length = l.length - hf l.length := by simp
          have ih := path_up m (l.drop (hf l.length)) (i - hf l.length) x (by omega) (by rw [List.getElem?_drop, show hf l.length + (i - hf l.length) = i by omega]; exact hx)
          have hl := path_turns_len m (l.drop (hf l.length)) (i - hf l.length) (by omega)
          rw [e] at ih hl
          rw [pathD_right (by omega) hc, turnsD_right (by omega) hc, List.reverse_cons, up_snoc _ _ _ _ _ (by simp [hl])]
          rw [ih, Option.bind_some, if_pos (topD_len _), topD_more (l := l) (by omega)]
          rfl

theorem upD_small {n i : Nat} (h : n < 2) (path : List (List UInt8)) (d : List UInt8) : upD n i path d = if path = [] then some d else none := by
  unfold upD
  rw [turnsD_small h]
  cases path with
  | nil => rfl
  | cons p ps => simp

theorem upD_snoc {n i : Nat} (h : 2 ≤ n) (ps : List (List UInt8)) (o d : List UInt8) :
    upD n i (ps ++ [o]) d = if i < hf n then (upD (hf n) i ps d).bind fun x => if o.length = 32 then some (knotD x o) else none
      else (upD (n - hf n) (i - hf n) ps d).bind fun x => if o.length = 32 then some (knotD o x) else none := by
  by_cases hi : i < hf n
  · rw [if_pos hi]
    unfold upD
    rw [turnsD_left h hi]
    by_cases hl : ps.length = (turnsD (hf n) i).length
    · rw [if_pos (by simp [hl]), if_pos hl, List.reverse_cons, up_snoc _ _ _ _ _ (by simp [hl])]
      rfl
    · rw [if_neg (by simpa using hl), if_neg hl]
      rfl
  · rw [if_neg hi]
    unfold upD
    rw [turnsD_right h hi]
    by_cases hl : ps.length = (turnsD (n - hf n) (i - hf n)).length
    · rw [if_pos (by simp [hl]), if_pos hl, List.reverse_cons, up_snoc _ _ _ _ _ (by simp [hl])]
      rfl
    · rw [if_neg (by simpa using hl), if_neg hl]
      rfl
theorem upD_nil {n i : Nat} (h : 2 ≤ n) (d : List UInt8) : upD n i [] d = none := by
  unfold upD
  rw [if_neg]
  by_cases hi : i < hf n
  · rw [turnsD_left h hi]; simp
  · rw [turnsD_right h hi]; simp

/-! ### the runs: paths -/
theorem path_loop : ∀ (m : Nat) (l : List (List UInt8)) (i : Nat) (out : List (List UInt8)), l.length ≤ m → Sm l → out.length + l.length ≤ 100000 → i < 100000 →
    TendsL M_proof_Path_l0 (l, (i : Int), (), out, ()) ((), out ++ (pathD l i).reverse, ())
  | m, l, i, out, hm, hs, ho, hi0 => by
    by_cases h2 : l.length < 2
    · refine TendsL.fin (.of fun F => ?_)
      unfold M_proof_Path_l0
      refine (if_neg (by simp; omega)).trans ?_
      rw [pathD_small h2]
      simp
    · have hlt := hf_lt (n := l.length) (by omega)
      have hpos := hf_pos l.length
      have hs1 := hs.1
      match m with
      | 0 => omega
      | m + 1 =>
        have hhalf : ∀ F, M_proof_half F (l.length : Int) = some ((hf l.length : Nat) : Int) := fun F => half_eq F l.length (by omega) (by omega)
        by_cases hc : i < hf l.length
        · refine TendsL.step (x' := (l.take (hf l.length), (i : Int), (), out ++ [topD (l.drop (hf l.length))], ())) ?_ ?_
          · unfold M_proof_Path_l0
            refine Tends.pos (by simp; omega) ?_
            refine Tends.bind (.of hhalf) ?_
            refine Tends.pos (by simp; omega) ?_
            refine Tends.bind (r := l.drop (hf l.length)) (.of fun F => subE l (hf l.length) (by omega)) ?_
            refine Tends.bind (top_tends _ (hs.drop _)) ?_
            refine Tends.pos (by simp; omega) ?_
            refine Tends.bind (r := l.take (hf l.length)) (.of fun F => sub0 l (hf l.length) (by omega)) ?_
            exact .ret _
          · have := path_loop m (l.take (hf l.length)) i (out ++ [topD (l.drop (hf l.length))]) (by simp; omega) (hs.take _) (by simp; omega) hi0
            rw [pathD_left (by omega) hc]
            simpa using this
        · have e : IntKind.i64.wrap ((i : Int) - ((hf l.length : Nat) : Int)) = ((i - hf l.length : Nat) : Int) := by rw [wrap64] <;> omega
          refine TendsL.step (x' := (l.drop (hf l.length), ((i - hf l.length : Nat) : Int), (), out ++ [topD (l.take (hf l.length))], ())) ?_ ?_
          · unfold M_proof_Path_l0
            refine Tends.pos (by simp; omega) ?_
            refine Tends.bind (.of hhalf) ?_
            refine Tends.neg (by simp; omega) ?_
            refine Tends.bind (r := l.take (hf l.length)) (.of fun F => sub0 l (hf l.length) (by omega)) ?_
            refine Tends.bind (top_tends _ (hs.take _)) ?_
            refine Tends.pos (by simp; omega) ?_
            refine Tends.bind (r := l.drop (hf l.length)) (.of fun F => subE l (hf l.length) (by omega)) ?_
            refine Tends.of fun F => ?_
            rw [← e]
          · have := path_loop m (l.drop (hf l.length)) (i - hf l.length) (out ++ [topD (l.take (hf l.length))]) (by simp; omega) (hs.drop _) (by simp; omega) (by omega)
            rw [pathD_right (by omega) hc]
            simpa using this

theorem pathD_len (l : List (List UInt8)) (i : Nat) (h : l.length ≤ 10000) : (pathD l i).length ≤ 14 := by
  rw [path_turns_len l.length l i (Nat.le_refl _)]
  exact turnsD_len 14 _ _ (by omega)

theorem path_in (l : List (List UInt8)) (hs : Sm l) (i : Nat) (hi : i < l.length) : Tends (fun F => M_proof_Path F (l, (i : Int))) (pathD l i, true) := by
  have hs1 := hs.1
  have hp := pathD_len l i hs1
  unfold M_proof_Path
  refine Tends.bind (r := (l, (i : Int), false, ())) (.of fun F => ?_) ?_
  · refine (if_pos (by simp)).trans ?_
    have : decide ((l.length : Int) ≤ (i : Int)) = false := by simp; omega
    rw [this]
  refine Tends.neg (by simp) ?_
  have hl := path_loop l.length l i [] (Nat.le_refl _) hs (by simp; omega) (by omega)
  rw [List.nil_append] at hl
  refine Tends.bind hl.run ?_
  have hr := reverseS_tends (pathD l i).reverse (by simp; omega)
  rw [List.reverse_reverse] at hr
  exact Tends.bind (m := fun F => M_slices_Reverse_string_string F ((pathD l i).reverse, ())) hr (.ret _)

theorem path_out (l : List (List UInt8)) (i : Int) (hi : ¬ (0 ≤ i ∧ i < l.length)) : Tends (fun F => M_proof_Path F (l, i)) ([], false) := by
  unfold M_proof_Path
  by_cases h0 : i < 0
  · refine Tends.bind (r := (l, i, true, ())) (.of fun F => ?_) ?_
    · exact (if_neg (by simpa using h0))
    exact Tends.pos rfl (.ret _)
  · refine Tends.bind (r := (l, i, true, ())) (.of fun F => ?_) ?_
    · refine (if_pos (by simp; omega)).trans ?_
      have : decide ((l.length : Int) ≤ i) = true := by simp; omega
      rw [this]
    exact Tends.pos rfl (.ret _)

end Go.Vm
