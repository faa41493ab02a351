/- JSON, plainly: strings. What is printed is read; what is read is of right signs, and is printed in no more bytes. No condition. -/
import Derived.Test.YtgejjocbhonkjaaDoorPj2
namespace Go.Vm
open Go.Lib (decodeL decodeN decodeL_N decode_N decodeN_shape decodeL_le)
set_option linter.unusedVariables false
set_option linter.unusedSimpArgs false

theorem txt_nil : txt [] = none := rfl
theorem txt_cons (c : UInt8) (r : By) : txt (c :: r) = if c = 34 then some ([], r) else if c = 92 then (escP r).bind fun x => (txt ((c :: r).drop x.2)).map fun y => (encN x.1 ++ y.1, y.2)
    else if (decodeL (c :: r)).1 < 32 ∨ ((decodeL (c :: r)).1 = 65533 ∧ (decodeL (c :: r)).2 = 1) then none else (txt ((c :: r).drop (decodeL (c :: r)).2)).map fun y => ((c :: r).take (decodeL (c :: r)).2 ++ y.1, y.2) := by
  have hp := decodeL_pos (c :: r)
  unfold txt
  conv => lhs; rw [List.length_cons, txtP]
  by_cases h1 : c = 34
  · rw [if_pos h1, if_pos h1]
  rw [if_neg h1, if_neg h1]
  by_cases h2 : c = 92
  · rw [if_pos h2, if_pos h2]
    cases he : escP r with
    | none => rfl
    | some x =>
      have := escP_2 he
      simp only [Option.bind_some]
      rw [txtP_fuel r.length ((c :: r).drop x.2).length ((c :: r).drop x.2) (by simp; omega) (Nat.le_refl _)]
  rw [if_neg h2, if_neg h2]
  split
  · rfl
  · rw [txtP_fuel r.length ((c :: r).drop (decodeL (c :: r)).2).length ((c :: r).drop (decodeL (c :: r)).2) (by simp; omega) (Nat.le_refl _)]

/-- Going on by what is behind a sign. -/
theorem txt_ind {p : By → Prop} (h : ∀ s, (∀ k, 1 ≤ k → s ≠ [] → p (s.drop k)) → p s) (s : By) : p s := by
  have : ∀ n (s : By), s.length ≤ n → p s := by
    intro n
    induction n with
    | zero => intro s hs; exact h s fun k _ hne => absurd (List.length_eq_zero_iff.1 (by omega)) hne
    | succ n ih => intro s hs; exact h s fun k hk hne => ih _ (by have := List.length_pos_iff.2 hne; simp; omega)
  exact this s.length s (Nat.le_refl _)

theorem quoL_app (a b : By) : quoL (a ++ b) = quoL a ++ quoL b := by unfold quoL; simp

theorem txt_ok (s : By) : ∀ {t r : By}, txt s = some (t, r) → OkT t ∧ r <:+ s ∧ (quoL t).length + 1 + r.length ≤ s.length := by
  refine txt_ind (p := fun s => ∀ {t r : By}, txt s = some (t, r) → OkT t ∧ r <:+ s ∧ (quoL t).length + 1 + r.length ≤ s.length) ?_ s
  intro s ih t r h
  cases s with
  | nil => rw [txt_nil] at h; cases h
  | cons c s =>
    rw [txt_cons] at h
    by_cases h1 : c = 34
    · rw [if_pos h1] at h
      cases h
      exact ⟨.nil, List.suffix_cons _ _, by simp [quoL]; omega⟩
    rw [if_neg h1] at h
    by_cases h2 : c = 92
    · rw [if_pos h2] at h
      obtain ⟨x, he, h⟩ := Option.bind_eq_some_iff.1 h
      obtain ⟨y, hy, h⟩ := Option.map_eq_some_iff.1 h
      obtain ⟨y1, y2⟩ := y
      cases h
      obtain ⟨q1, q2, q3, q4⟩ := escP_ok (c := x.1) (k := x.2) he
      obtain ⟨i1, i2, i3⟩ := ih x.2 (by omega) (by simp) hy
      refine ⟨.cons _ _ q1 i1, i2.trans (List.drop_suffix _ _), ?_⟩
      rw [quoL_app]
      simp at i3 ⊢
      omega
    rw [if_neg h2] at h
    split at h
    · cases h
    · rename_i hb
      obtain ⟨y, hy, h⟩ := Option.map_eq_some_iff.1 h
      obtain ⟨y1, y2⟩ := y
      cases h
      have hp := decodeL_pos (c :: s)
      have hl := decodeL_le (c :: s) (by simp)
      obtain ⟨i1, i2, i3⟩ := ih (decodeL (c :: s)).2 hp (by simp) hy
      have hk := rune_ok (c :: s)
      rw [take_encN (c :: s) (by simp) (fun hh => hb (.inr hh))]
      refine ⟨.cons _ _ hk i1, i2.trans (List.drop_suffix _ _), ?_⟩
      have e : (quoL (encN (decodeL (c :: s)).1)).length ≤ (decodeL (c :: s)).2 := by
        have e2 := congrArg List.length (take_encN (c :: s) (by simp) (fun hh => hb (.inr hh)))
        rw [List.length_take, Nat.min_eq_left hl] at e2
        by_cases hc : (decodeL (c :: s)).1 < 128
        · rw [quoL_one _ hc]
          have e3 : encN (decodeL (c :: s)).1 = [UInt8.ofNat (decodeL (c :: s)).1] := by unfold encN; rw [if_pos hc]
          have e4 : (decodeL (c :: s)).2 = 1 := by rw [e2, e3]; rfl
          have e5 := take_encN (c :: s) (by simp) (fun hh => hb (.inr hh))
          rw [e4, e3] at e5
          simp at e5
          have h32 : ¬ c.toNat < 32 := by
            intro hh
            apply hb
            left
            have := congrArg UInt8.toNat e5
            simp at this
            omega
          rw [← e5, e4]
          unfold quoB
          have n8 : c ≠ 8 := by rintro rfl; exact h32 (by decide)
          have n9 : c ≠ 9 := by rintro rfl; exact h32 (by decide)
          have n10 : c ≠ 10 := by rintro rfl; exact h32 (by decide)
          have n12 : c ≠ 12 := by rintro rfl; exact h32 (by decide)
          have n13 : c ≠ 13 := by rintro rfl; exact h32 (by decide)
          rw [if_neg (fun hh => hh.elim h1 h2), if_neg n8, if_neg n9, if_neg n10, if_neg n12, if_neg n13, if_neg h32]
          exact Nat.le_refl _
        · rw [quoL_big _ hc hk.1]; omega
      rw [quoL_app]
      simp at i3 ⊢
      omega

theorem hexN_four (a b c d : UInt8) (r : By) : hexN (a :: b :: c :: d :: r) = hexN [a, b, c, d] := rfl
theorem small_hex : ∀ c : Fin 32, hexN [48, 48, hexC (c.val / 16), hexC (c.val % 16)] = some c.val := by decide +kernel
theorem esc_small (c : Nat) (h : c < 32) (r : By) : escP (117 :: 48 :: 48 :: hexC (c / 16) :: hexC (c % 16) :: r) = some (c, 6) := by
  have := small_hex ⟨c, h⟩
  simp only at this
  unfold escP
  simp only
  rw [if_neg (by decide), if_neg (by decide), if_neg (by decide), if_neg (by decide), if_neg (by decide), if_neg (by decide), if_pos trivial]
  unfold uniP
  rw [hexN_four, this, Option.bind_some, if_pos (by omega)]

/-- One sign's form is read as this sign. -/
theorem txt_one (c : Nat) (h : okR c) (q : By) : txt (quoL (encN c) ++ q) = (txt q).map fun y => (encN c ++ y.1, y.2) := by
  by_cases h1 : c < 128
  · rw [quoL_one c h1]
    have e3 : encN c = [UInt8.ofNat c] := by unfold encN; rw [if_pos h1]
    have e4 : (UInt8.ofNat c).toNat = c := by simp; omega
    have esc : ∀ (x : UInt8) (n : Nat), escP (x :: q) = some (n, 2) → UInt8.ofNat c = UInt8.ofNat n → n < 128 → txt (92 :: x :: q) = (txt q).map fun y => (encN c ++ y.1, y.2) := by
      intro x n he hn hn2
      have : encN n = [UInt8.ofNat n] := by unfold encN; rw [if_pos hn2]
      rw [txt_cons, if_neg (by decide), if_pos rfl, he, Option.bind_some, e3, hn, ← this]
      rfl
    unfold quoB
    by_cases q1 : UInt8.ofNat c = 34 ∨ UInt8.ofNat c = 92
    · rw [if_pos q1]
      refine esc (UInt8.ofNat c) (UInt8.ofNat c).toNat ?_ (by rw [e4]) (by omega)
      unfold escP
      simp only
      rw [if_pos (q1.elim .inl (fun hh => .inr (.inl hh)))]
    rw [if_neg q1]
    by_cases q2 : UInt8.ofNat c = 8
    · rw [if_pos q2]; exact esc 98 8 rfl (by rw [q2]; rfl) (by decide)
    rw [if_neg q2]
    by_cases q3 : UInt8.ofNat c = 9
    · rw [if_pos q3]; exact esc 116 9 rfl (by rw [q3]; rfl) (by decide)
    rw [if_neg q3]
    by_cases q4 : UInt8.ofNat c = 10
    · rw [if_pos q4]; exact esc 110 10 rfl (by rw [q4]; rfl) (by decide)
    rw [if_neg q4]
    by_cases q5 : UInt8.ofNat c = 12
    · rw [if_pos q5]; exact esc 102 12 rfl (by rw [q5]; rfl) (by decide)
    rw [if_neg q5]
    by_cases q6 : UInt8.ofNat c = 13
    · rw [if_pos q6]; exact esc 114 13 rfl (by rw [q6]; rfl) (by decide)
    rw [if_neg q6]
    rw [e4]
    by_cases q7 : c < 32
    · rw [if_pos q7]
      show txt (92 :: 117 :: 48 :: 48 :: hexC (c / 16) :: hexC (c % 16) :: q) = _
      rw [txt_cons, if_neg (by decide), if_pos rfl, esc_small c q7, Option.bind_some]
      rfl
    · rw [if_neg q7]
      have hd : decodeL (UInt8.ofNat c :: q) = (c, 1) := by have := dec_encN c h q; rw [e3] at this; exact this
      show txt (UInt8.ofNat c :: q) = _
      rw [txt_cons, if_neg (fun hh => q1 (.inl hh)), if_neg (fun hh => q1 (.inr hh)), hd, if_neg (by simp; omega), e3]
      rfl
  · rw [quoL_big c h1 h.1]
    obtain ⟨x, l, hx⟩ : ∃ x l, encN c = x :: l := by
      cases hh : encN c with
      | nil => exact absurd hh (encN_ne c)
      | cons x l => exact ⟨x, l, rfl⟩
    have hd := dec_encN c h q
    have hl : 2 ≤ (encN c).length := by
      unfold encN
      rw [if_neg h1]
      repeat' split
      all_goals simp
    have hx0 : 128 ≤ x.toNat := by
      obtain ⟨o1, o2⟩ := h
      unfold encN at hx
      rw [if_neg h1] at hx
      repeat' split at hx
      all_goals
        injection hx with hx _
        rw [← hx]
        simp
        omega
    rw [hx] at hd hl ⊢
    rw [List.cons_append] at hd ⊢
    rw [txt_cons, if_neg (by rintro rfl; exact absurd hx0 (by decide)), if_neg (by rintro rfl; exact absurd hx0 (by decide)), hd]
    simp only
    rw [if_neg (by omega)]
    rw [← List.cons_append, List.take_left' rfl, List.drop_left' rfl]

theorem txt_quo {t : By} (h : OkT t) (r : By) : txt (quoL t ++ 34 :: r) = some (t, r) := by
  induction h with
  | nil => show txt (34 :: r) = _; rw [txt_cons, if_pos rfl]
  | cons c t hc _ ih => rw [quoL_app, List.append_assoc, txt_one c hc, ih]; rfl

end Go.Vm
