/- The plain laws of signs: a text sign by sign, as the model reads it and as the document's reference does. No condition but on lengths. -/
import Derived.Test.YtgeafoacmnlioaaDoorPsort
import Derived.Lib.MapLaws
namespace Go.Vm
open Go.Lib (decodeL decodeN decodeL_N decode_N decodeN_shape decodeL_le)
set_option linter.unusedVariables false
set_option linter.unusedSimpArgs false
theorem decodeL_pos (l : List UInt8) : 1 ≤ (decodeL l).2 := by
  rw [decodeL_N]
  rcases decodeN_shape l.length (l.getD 0 0).toNat (l.getD 1 0).toNat (l.getD 2 0).toNat (l.getD 3 0).toNat with ⟨_, e⟩ | ⟨_, _, _, _, e⟩ | ⟨_, _, _, _, _, _, e⟩ | ⟨_, _, _, _, _, _, _, e⟩ | e <;> rw [e] <;> simp
theorem getD_drop (s : List UInt8) (i k : Nat) : (s.drop i).getD k 0 = s.getD (i + k) 0 := by simp [List.getD]
theorem dec_at (s : List UInt8) (i : Nat) : Utf8.decode ⟨s.toArray⟩ i = decodeL (s.drop i) := by
  rw [decode_N, decodeL_N]
  simp only [List.length_drop, getD_drop, Nat.add_zero]
theorem runeAt_eq (s : List UInt8) (i : Nat) : runeAt s i = ((decodeL (s.drop i)).1 : Int) := by unfold runeAt; rw [dec_at]; rfl
theorem runeLen_eq (s : List UInt8) (i : Nat) : runeLen s i = (decodeL (s.drop i)).2 := by unfold runeLen; rw [dec_at]
def signs (l : List UInt8) : List (Int × List UInt8) :=
  if h : l = [] then [] else (((decodeL l).1 : Int), l.take (decodeL l).2) :: signs (l.drop (decodeL l).2)
termination_by l.length
decreasing_by
  have := decodeL_pos l
  have : 0 < l.length := List.length_pos_iff.2 h
  simp only [List.length_drop]
  omega
theorem signs_nil : signs [] = [] := by rw [signs]; simp
theorem signs_cons {l : List UInt8} (h : l ≠ []) : signs l = (((decodeL l).1 : Int), l.take (decodeL l).2) :: signs (l.drop (decodeL l).2) := by
  conv => lhs; rw [signs]
  simp [h]
theorem signs_ind {p : List UInt8 → Prop} (h0 : p []) (h1 : ∀ l, l ≠ [] → p (l.drop (decodeL l).2) → p l) (l : List UInt8) : p l := by
  have : ∀ n (l : List UInt8), l.length ≤ n → p l := by
    intro n
    induction n with
    | zero => intro l hl; rw [List.length_eq_zero_iff.1 (by omega : l.length = 0)]; exact h0
    | succ n ih =>
      intro l hl
      by_cases hn : l = []
      · rw [hn]; exact h0
      · refine h1 l hn (ih _ ?_)
        have := decodeL_pos l
        have : 0 < l.length := List.length_pos_iff.2 hn
        simp only [List.length_drop]
        omega
  exact this l.length l (Nat.le_refl _)
theorem signs_len (l : List UInt8) : (signs l).length ≤ l.length := by
  induction l using signs_ind with
  | h0 => rw [signs_nil]; simp
  | h1 l hn ih =>
    rw [signs_cons hn]
    have := decodeL_pos l
    have : 0 < l.length := List.length_pos_iff.2 hn
    simp only [List.length_drop, List.length_cons] at ih ⊢
    omega
theorem idx_lit (l : List UInt8) (k : Nat) : idx l (k : Int) = if k < l.length then some (l.getD k 0) else none := by
  unfold idx
  rw [if_pos (by omega)]
  split
  · rename_i h; simp [h]
  · rename_i h; simp; omega
theorem sumC_ite {α β γ : Type} (c : Prop) [Decidable c] (s t : α ⊕ β) (f : α → γ) (g : β → γ) : sumC (if c then s else t) f g = if c then sumC s f g else sumC t f g := by split <;> rfl
theorem sumC_inl {α β γ : Type} (a : α) (f : α → γ) (g : β → γ) : sumC (.inl a) f g = f a := rfl
theorem sumC_inr {α β γ : Type} (b : β) (f : α → γ) (g : β → γ) : sumC (.inr b) f g = g b := rfl
theorem tail_eq (F : Nat) (l : List UInt8) (k : Nat) : M_conciergeref04_tail F (l, (k : Int)) = some (decide (k < l.length ∧ 128 ≤ (l.getD k 0).toNat ∧ (l.getD k 0).toNat < 192)) := by
  unfold M_conciergeref04_tail
  simp only [idx_lit]
  by_cases h : k < l.length
  · have h' : (k : Int) < (l.length : Int) := by omega
    simp only [idx_lit, h, h', decide_true, if_true, Option.bind_some, true_and, some_ite, prod_ite, ite_self, Bool.if_false_right]
    rw [Option.some.injEq, Bool.eq_iff_iff]
    simp
    omega
  · have h' : ¬ (k : Int) < (l.length : Int) := by omega
    simp [h, h']
set_option maxHeartbeats 1000000 in
theorem first_eq (F : Nat) (l : List UInt8) (hn : l ≠ []) : M_conciergeref04_First F l = some (((decodeL l).1 : Int), ((decodeL l).2 : Int)) := by
  have h0 : 0 < l.length := List.length_pos_iff.2 hn
  have k0 := (l.getD 0 0).toNat_lt
  have k1 := (l.getD 1 0).toNat_lt
  have k2 := (l.getD 2 0).toNat_lt
  have k3 := (l.getD 3 0).toNat_lt
  have t1 := tail_eq F l 1
  have t2 := tail_eq F l 2
  have t3 := tail_eq F l 3
  have i0 := idx_lit l 0
  have i1 := idx_lit l 1
  have i2 := idx_lit l 2
  have i3 := idx_lit l 3
  simp only [Int.cast_ofNat_Int] at t1 t2 t3 i0 i1 i2 i3
  rw [decodeL_N]
  unfold M_conciergeref04_First
  generalize hc0 : l.getD 0 0 = c0 at *
  generalize hc1 : l.getD 1 0 = c1 at *
  generalize hc2 : l.getD 2 0 = c2 at *
  generalize hc3 : l.getD 3 0 = c3 at *
  clear hc0 hc1 hc2 hc3
  simp only [i0, if_pos h0, Option.bind_some]
  simp (disch := omega) only [wrap64]
  rcases decodeN_shape l.length c0.toNat c1.toNat c2.toNat c3.toNat with ⟨p1, e⟩ | ⟨p1, p2, p3, p4, e⟩ | ⟨p1, p2, p3, p4, p5, p6, e⟩ | ⟨p1, p2, p3, p4, p5, p6, p7, e⟩ | e
  · rw [e]
    have q1 : (c0.toNat : Int) < 128 := by omega
    simp only [t1, t2, t3, some_ite, prod_ite, ite_self, Option.bind_some, Option.bind_none, Bool.if_false_right, Bool.if_false_left, sumC_ite, sumC_inl, sumC_inr, decide_true, decide_false, if_true, if_false, Bool.and_true, Bool.true_and, Bool.and_false, Bool.false_and, Bool.false_eq_true, true_and, and_true, false_and, and_false, decide_eq_true_eq, q1]
    rfl
  · rw [e]
    have q1 : ¬ (c0.toNat : Int) < 128 := by omega
    have q2 : (194 : Int) ≤ (c0.toNat : Int) := by omega
    have q3 : (c0.toNat : Int) < 224 := by omega
    have q4 : 128 ≤ c1.toNat := by omega
    have q5 : c1.toNat < 192 := by omega
    simp only [t1, t2, t3, some_ite, prod_ite, ite_self, Option.bind_some, Option.bind_none, Bool.if_false_right, Bool.if_false_left, sumC_ite, sumC_inl, sumC_inr, decide_true, decide_false, if_true, if_false, Bool.and_true, Bool.true_and, Bool.and_false, Bool.false_and, Bool.false_eq_true, true_and, and_true, false_and, and_false, decide_eq_true_eq, q1, q2, q3, q4, q5, p2, i1]
    simp (disch := omega) only [wrap64]
    simp only [Option.some.injEq, Prod.mk.injEq]
    omega
  · rw [e]
    have q1 : ¬ (c0.toNat : Int) < 128 := by omega
    have q2 : (194 : Int) ≤ (c0.toNat : Int) := by omega
    have q3 : ¬ (c0.toNat : Int) < 224 := by omega
    have q6 : (224 : Int) ≤ (c0.toNat : Int) := by omega
    have q7 : (c0.toNat : Int) < 240 := by omega
    have q4 : 128 ≤ c1.toNat := by omega
    have q5 : c1.toNat < 192 := by omega
    have q8 : 128 ≤ c2.toNat := by omega
    have q9 : c2.toNat < 192 := by omega
    have q0 : 1 < l.length := by omega
    simp only [t1, t2, t3, some_ite, prod_ite, ite_self, Option.bind_some, Option.bind_none, Bool.if_false_right, Bool.if_false_left, sumC_ite, sumC_inl, sumC_inr, decide_true, decide_false, if_true, if_false, Bool.and_true, Bool.true_and, Bool.and_false, Bool.false_and, Bool.false_eq_true, true_and, and_true, false_and, and_false, decide_eq_true_eq, q1, q2, q3, q4, q5, q6, q7, q8, q9, q0, p2, i1, i2]
    simp (disch := omega) only [wrap64]
    have r1 : (2048 : Int) ≤ ((c0.toNat : Int) - 224) * 4096 + ((c1.toNat : Int) - 128) * 64 + (c2.toNat : Int) - 128 := by omega
    by_cases r2 : ((c0.toNat : Int) - 224) * 4096 + ((c1.toNat : Int) - 128) * 64 + (c2.toNat : Int) - 128 < 55296
    · simp only [t1, t2, t3, some_ite, prod_ite, ite_self, Option.bind_some, Option.bind_none, Bool.if_false_right, Bool.if_false_left, sumC_ite, sumC_inl, sumC_inr, decide_true, decide_false, if_true, if_false, Bool.and_true, Bool.true_and, Bool.and_false, Bool.false_and, Bool.false_eq_true, true_and, and_true, false_and, and_false, decide_eq_true_eq, r1, r2, Bool.true_eq_false]
      simp only [Option.some.injEq, Prod.mk.injEq]
      omega
    · have r3 : (57343 : Int) < ((c0.toNat : Int) - 224) * 4096 + ((c1.toNat : Int) - 128) * 64 + (c2.toNat : Int) - 128 := by omega
      simp only [t1, t2, t3, some_ite, prod_ite, ite_self, Option.bind_some, Option.bind_none, Bool.if_false_right, Bool.if_false_left, sumC_ite, sumC_inl, sumC_inr, decide_true, decide_false, if_true, if_false, Bool.and_true, Bool.true_and, Bool.and_false, Bool.false_and, Bool.false_eq_true, true_and, and_true, false_and, and_false, decide_eq_true_eq, r1, r2, r3]
      simp only [Option.some.injEq, Prod.mk.injEq]
      omega
  · rw [e]
    have q1 : ¬ (c0.toNat : Int) < 128 := by omega
    have q2 : (194 : Int) ≤ (c0.toNat : Int) := by omega
    have q3 : ¬ (c0.toNat : Int) < 224 := by omega
    have q6 : (224 : Int) ≤ (c0.toNat : Int) := by omega
    have q7 : ¬ (c0.toNat : Int) < 240 := by omega
    have qa : (240 : Int) ≤ (c0.toNat : Int) := by omega
    have qb : (c0.toNat : Int) < 245 := by omega
    have q4 : 128 ≤ c1.toNat := by omega
    have q5 : c1.toNat < 192 := by omega
    have q8 : 128 ≤ c2.toNat := by omega
    have q9 : c2.toNat < 192 := by omega
    have qc : 128 ≤ c3.toNat := by omega
    have qd : c3.toNat < 192 := by omega
    have q0 : 1 < l.length := by omega
    have qe : 2 < l.length := by omega
    simp only [t1, t2, t3, some_ite, prod_ite, ite_self, Option.bind_some, Option.bind_none, Bool.if_false_right, Bool.if_false_left, sumC_ite, sumC_inl, sumC_inr, decide_true, decide_false, if_true, if_false, Bool.and_true, Bool.true_and, Bool.and_false, Bool.false_and, Bool.false_eq_true, true_and, and_true, false_and, and_false, decide_eq_true_eq, q1, q2, q3, q4, q5, q6, q7, q8, q9, q0, qa, qb, qc, qd, qe, p2, i1, i2, i3]
    simp (disch := omega) only [wrap64]
    have r1 : (65536 : Int) ≤ ((c0.toNat : Int) - 240) * 262144 + ((c1.toNat : Int) - 128) * 4096 + ((c2.toNat : Int) - 128) * 64 + (c3.toNat : Int) - 128 := by omega
    have r2 : ((c0.toNat : Int) - 240) * 262144 + ((c1.toNat : Int) - 128) * 4096 + ((c2.toNat : Int) - 128) * 64 + (c3.toNat : Int) - 128 ≤ 1114111 := by omega
    simp only [t1, t2, t3, some_ite, prod_ite, ite_self, Option.bind_some, Option.bind_none, Bool.if_false_right, Bool.if_false_left, sumC_ite, sumC_inl, sumC_inr, decide_true, decide_false, if_true, if_false, Bool.and_true, Bool.true_and, Bool.and_false, Bool.false_and, Bool.false_eq_true, true_and, and_true, false_and, and_false, decide_eq_true_eq, r1, r2]
    simp only [Option.some.injEq, Prod.mk.injEq]
    omega
  · rw [e]
    have q1 : ¬ (c0.toNat : Int) < 128 := by
      intro h
      unfold decodeN at e
      rw [if_pos (by omega)] at e
      simp only [Prod.mk.injEq] at e
      omega
    have hb : ¬ (194 ≤ c0.toNat ∧ c0.toNat < 224 ∧ 1 < l.length ∧ 128 ≤ c1.toNat ∧ c1.toNat < 192) := by
      intro h
      unfold decodeN at e
      rw [if_neg (by omega), if_pos (by omega), if_pos (by omega)] at e
      simp only [Prod.mk.injEq] at e
      omega
    have hc : ¬ (224 ≤ c0.toNat ∧ c0.toNat < 240 ∧ 1 < l.length ∧ 128 ≤ c1.toNat ∧ c1.toNat < 192 ∧ 2 < l.length ∧ 128 ≤ c2.toNat ∧ c2.toNat < 192 ∧
        2048 ≤ ((c0.toNat : Int) - 224) * 4096 + ((c1.toNat : Int) - 128) * 64 + (c2.toNat : Int) - 128 ∧ (((c0.toNat : Int) - 224) * 4096 + ((c1.toNat : Int) - 128) * 64 + (c2.toNat : Int) - 128 < 55296 ∨ 57343 < ((c0.toNat : Int) - 224) * 4096 + ((c1.toNat : Int) - 128) * 64 + (c2.toNat : Int) - 128)) := by
      intro h
      unfold decodeN at e
      rw [if_neg (by omega), if_neg (by omega), if_pos (by omega), if_pos (by omega)] at e
      simp only [Prod.mk.injEq] at e
      omega
    have hd : ¬ (240 ≤ c0.toNat ∧ c0.toNat < 245 ∧ 1 < l.length ∧ 128 ≤ c1.toNat ∧ c1.toNat < 192 ∧ 2 < l.length ∧ 128 ≤ c2.toNat ∧ c2.toNat < 192 ∧ 3 < l.length ∧ 128 ≤ c3.toNat ∧ c3.toNat < 192 ∧
        65536 ≤ ((c0.toNat : Int) - 240) * 262144 + ((c1.toNat : Int) - 128) * 4096 + ((c2.toNat : Int) - 128) * 64 + (c3.toNat : Int) - 128 ∧ ((c0.toNat : Int) - 240) * 262144 + ((c1.toNat : Int) - 128) * 4096 + ((c2.toNat : Int) - 128) * 64 + (c3.toNat : Int) - 128 ≤ 1114111) := by
      intro h
      unfold decodeN at e
      rw [if_neg (by omega), if_neg (by omega), if_neg (by omega), if_pos (by omega), if_pos (by omega)] at e
      simp only [Prod.mk.injEq] at e
      omega
    clear e
    by_cases g1 : c0.toNat < 194
    · have q2 : ¬ (194 : Int) ≤ (c0.toNat : Int) := by omega
      have q6 : ¬ (224 : Int) ≤ (c0.toNat : Int) := by omega
      have qa : ¬ (240 : Int) ≤ (c0.toNat : Int) := by omega
      simp only [t1, t2, t3, some_ite, prod_ite, ite_self, Option.bind_some, Option.bind_none, Bool.if_false_right, Bool.if_false_left, sumC_ite, sumC_inl, sumC_inr, decide_true, decide_false, if_true, if_false, Bool.and_true, Bool.true_and, Bool.and_false, Bool.false_and, Bool.false_eq_true, true_and, and_true, false_and, and_false, decide_eq_true_eq, q1, q2, q6, qa]
      rfl
    have q2 : (194 : Int) ≤ (c0.toNat : Int) := by omega
    by_cases g2 : c0.toNat < 224
    · have q3 : (c0.toNat : Int) < 224 := by omega
      have q6 : ¬ (224 : Int) ≤ (c0.toNat : Int) := by omega
      have qa : ¬ (240 : Int) ≤ (c0.toNat : Int) := by omega
      have q4 : ¬ (1 < l.length ∧ 128 ≤ c1.toNat ∧ c1.toNat < 192) := by omega
      simp only [t1, t2, t3, some_ite, prod_ite, ite_self, Option.bind_some, Option.bind_none, Bool.if_false_right, Bool.if_false_left, sumC_ite, sumC_inl, sumC_inr, decide_true, decide_false, if_true, if_false, Bool.and_true, Bool.true_and, Bool.and_false, Bool.false_and, Bool.false_eq_true, true_and, and_true, false_and, and_false, decide_eq_true_eq, q1, q2, q3, q4, q6, qa]
      rfl
    have q3 : ¬ (c0.toNat : Int) < 224 := by omega
    have q6 : (224 : Int) ≤ (c0.toNat : Int) := by omega
    by_cases g3 : c0.toNat < 240
    · have q7 : (c0.toNat : Int) < 240 := by omega
      have qa : ¬ (240 : Int) ≤ (c0.toNat : Int) := by omega
      by_cases q4 : 1 < l.length ∧ 128 ≤ c1.toNat ∧ c1.toNat < 192
      · by_cases q5 : 2 < l.length ∧ 128 ≤ c2.toNat ∧ c2.toNat < 192
        · obtain ⟨z1, z2, z3⟩ := q4
          obtain ⟨z4, z5, z6⟩ := q5
          simp only [t1, t2, t3, some_ite, prod_ite, ite_self, Option.bind_some, Option.bind_none, Bool.if_false_right, Bool.if_false_left, sumC_ite, sumC_inl, sumC_inr, decide_true, decide_false, if_true, if_false, Bool.and_true, Bool.true_and, Bool.and_false, Bool.false_and, Bool.false_eq_true, true_and, and_true, false_and, and_false, decide_eq_true_eq, q1, q2, q3, q6, q7, qa, z1, z2, z3, z4, z5, z6, i1, i2]
          simp (disch := omega) only [wrap64]
          by_cases r1 : (2048 : Int) ≤ ((c0.toNat : Int) - 224) * 4096 + ((c1.toNat : Int) - 128) * 64 + (c2.toNat : Int) - 128
          · have r2 : ¬ ((c0.toNat : Int) - 224) * 4096 + ((c1.toNat : Int) - 128) * 64 + (c2.toNat : Int) - 128 < 55296 := by omega
            have r3 : ¬ (57343 : Int) < ((c0.toNat : Int) - 224) * 4096 + ((c1.toNat : Int) - 128) * 64 + (c2.toNat : Int) - 128 := by omega
            simp only [t1, t2, t3, some_ite, prod_ite, ite_self, Option.bind_some, Option.bind_none, Bool.if_false_right, Bool.if_false_left, sumC_ite, sumC_inl, sumC_inr, decide_true, decide_false, if_true, if_false, Bool.and_true, Bool.true_and, Bool.and_false, Bool.false_and, Bool.false_eq_true, true_and, and_true, false_and, and_false, decide_eq_true_eq, r1, r2, r3, qa]
            rfl
          · simp only [t1, t2, t3, some_ite, prod_ite, ite_self, Option.bind_some, Option.bind_none, Bool.if_false_right, Bool.if_false_left, sumC_ite, sumC_inl, sumC_inr, decide_true, decide_false, if_true, if_false, Bool.and_true, Bool.true_and, Bool.and_false, Bool.false_and, Bool.false_eq_true, true_and, and_true, false_and, and_false, decide_eq_true_eq, r1, qa]
            rfl
        · simp only [t1, t2, t3, some_ite, prod_ite, ite_self, Option.bind_some, Option.bind_none, Bool.if_false_right, Bool.if_false_left, sumC_ite, sumC_inl, sumC_inr, decide_true, decide_false, if_true, if_false, Bool.and_true, Bool.true_and, Bool.and_false, Bool.false_and, Bool.false_eq_true, true_and, and_true, false_and, and_false, decide_eq_true_eq, q1, q2, q3, q4, q5, q6, q7, qa]
          rfl
      · simp only [t1, t2, t3, some_ite, prod_ite, ite_self, Option.bind_some, Option.bind_none, Bool.if_false_right, Bool.if_false_left, sumC_ite, sumC_inl, sumC_inr, decide_true, decide_false, if_true, if_false, Bool.and_true, Bool.true_and, Bool.and_false, Bool.false_and, Bool.false_eq_true, true_and, and_true, false_and, and_false, decide_eq_true_eq, q1, q2, q3, q4, q6, q7, qa]
        rfl
    have q7 : ¬ (c0.toNat : Int) < 240 := by omega
    have qa : (240 : Int) ≤ (c0.toNat : Int) := by omega
    by_cases g4 : c0.toNat < 245
    · have qb : (c0.toNat : Int) < 245 := by omega
      by_cases q4 : 1 < l.length ∧ 128 ≤ c1.toNat ∧ c1.toNat < 192
      · by_cases q5 : 2 < l.length ∧ 128 ≤ c2.toNat ∧ c2.toNat < 192
        · by_cases q8 : 3 < l.length ∧ 128 ≤ c3.toNat ∧ c3.toNat < 192
          · obtain ⟨z1, z2, z3⟩ := q4
            obtain ⟨z4, z5, z6⟩ := q5
            obtain ⟨z7, z8, z9⟩ := q8
            simp only [t1, t2, t3, some_ite, prod_ite, ite_self, Option.bind_some, Option.bind_none, Bool.if_false_right, Bool.if_false_left, sumC_ite, sumC_inl, sumC_inr, decide_true, decide_false, if_true, if_false, Bool.and_true, Bool.true_and, Bool.and_false, Bool.false_and, Bool.false_eq_true, true_and, and_true, false_and, and_false, decide_eq_true_eq, q1, q2, q3, q6, q7, qa, qb, z1, z2, z3, z4, z5, z6, z7, z8, z9, i1, i2, i3]
            simp (disch := omega) only [wrap64]
            by_cases r1 : (65536 : Int) ≤ ((c0.toNat : Int) - 240) * 262144 + ((c1.toNat : Int) - 128) * 4096 + ((c2.toNat : Int) - 128) * 64 + (c3.toNat : Int) - 128
            · have r2 : ¬ ((c0.toNat : Int) - 240) * 262144 + ((c1.toNat : Int) - 128) * 4096 + ((c2.toNat : Int) - 128) * 64 + (c3.toNat : Int) - 128 ≤ 1114111 := by omega
              simp only [t1, t2, t3, some_ite, prod_ite, ite_self, Option.bind_some, Option.bind_none, Bool.if_false_right, Bool.if_false_left, sumC_ite, sumC_inl, sumC_inr, decide_true, decide_false, if_true, if_false, Bool.and_true, Bool.true_and, Bool.and_false, Bool.false_and, Bool.false_eq_true, true_and, and_true, false_and, and_false, decide_eq_true_eq, r1, r2]
              rfl
            · simp only [t1, t2, t3, some_ite, prod_ite, ite_self, Option.bind_some, Option.bind_none, Bool.if_false_right, Bool.if_false_left, sumC_ite, sumC_inl, sumC_inr, decide_true, decide_false, if_true, if_false, Bool.and_true, Bool.true_and, Bool.and_false, Bool.false_and, Bool.false_eq_true, true_and, and_true, false_and, and_false, decide_eq_true_eq, r1]
              rfl
          · simp only [t1, t2, t3, some_ite, prod_ite, ite_self, Option.bind_some, Option.bind_none, Bool.if_false_right, Bool.if_false_left, sumC_ite, sumC_inl, sumC_inr, decide_true, decide_false, if_true, if_false, Bool.and_true, Bool.true_and, Bool.and_false, Bool.false_and, Bool.false_eq_true, true_and, and_true, false_and, and_false, decide_eq_true_eq, q1, q2, q3, q4, q5, q6, q7, q8, qa, qb]
            rfl
        · simp only [t1, t2, t3, some_ite, prod_ite, ite_self, Option.bind_some, Option.bind_none, Bool.if_false_right, Bool.if_false_left, sumC_ite, sumC_inl, sumC_inr, decide_true, decide_false, if_true, if_false, Bool.and_true, Bool.true_and, Bool.and_false, Bool.false_and, Bool.false_eq_true, true_and, and_true, false_and, and_false, decide_eq_true_eq, q1, q2, q3, q4, q5, q6, q7, qa, qb]
          rfl
      · simp only [t1, t2, t3, some_ite, prod_ite, ite_self, Option.bind_some, Option.bind_none, Bool.if_false_right, Bool.if_false_left, sumC_ite, sumC_inl, sumC_inr, decide_true, decide_false, if_true, if_false, Bool.and_true, Bool.true_and, Bool.and_false, Bool.false_and, Bool.false_eq_true, true_and, and_true, false_and, and_false, decide_eq_true_eq, q1, q2, q3, q4, q6, q7, qa, qb]
        rfl
    have qb : ¬ (c0.toNat : Int) < 245 := by omega
    simp only [t1, t2, t3, some_ite, prod_ite, ite_self, Option.bind_some, Option.bind_none, Bool.if_false_right, Bool.if_false_left, sumC_ite, sumC_inl, sumC_inr, decide_true, decide_false, if_true, if_false, Bool.and_true, Bool.true_and, Bool.and_false, Bool.false_and, Bool.false_eq_true, true_and, and_true, false_and, and_false, decide_eq_true_eq, q1, q2, q3, q6, q7, qa, qb]
    rfl
theorem sub_nat {α : Type} (s : List α) (a b : Nat) (h : a ≤ b) (h' : b ≤ s.length) : sub s (a : Int) (b : Int) = some ((s.drop a).take (b - a)) := by
  unfold sub
  rw [if_pos (by omega)]
  simp
theorem sub_to_end {α : Type} (s : List α) (a : Nat) (h : a ≤ s.length) : sub s (a : Int) (s.length : Int) = some (s.drop a) := by
  rw [sub_nat s a s.length h (Nat.le_refl _), List.take_of_length_le (by simp)]
def ats (p : Nat) : List (Int × List UInt8) → List Int
  | [] => []
  | x :: t => (p : Int) :: ats (p + x.2.length) t
theorem drop_ne {s : List UInt8} {p : Nat} (h : p < s.length) : s.drop p ≠ [] := by
  intro e
  have := congrArg List.length e
  simp at this
  omega
theorem drop_next (s : List UInt8) (p : Nat) : (s.drop p).drop (decodeL (s.drop p)).2 = s.drop (p + (decodeL (s.drop p)).2) := by rw [List.drop_drop]
theorem take_len {s : List UInt8} {p : Nat} (h : p < s.length) : ((s.drop p).take (decodeL (s.drop p)).2).length = (decodeL (s.drop p)).2 := by
  have := decodeL_le (s.drop p) (drop_ne h)
  simp only [List.length_take]
  omega
theorem next_le {s : List UInt8} {p : Nat} (h : p < s.length) : p + (decodeL (s.drop p)).2 ≤ s.length := by
  have := decodeL_le (s.drop p) (drop_ne h)
  simp only [List.length_drop] at this
  omega
theorem signsLoop (s : List UInt8) (hs : s.length ≤ 1000000000000) (p : Nat) (hp : p ≤ s.length) (out at' : List Int) (ho : out.length + (s.length - p) ≤ 1000000000000) (ha : at'.length + (s.length - p) ≤ 1000000000000) :
    TendsL M_conciergeref04_Signs_l0 (s, (), (), (p : Int), out, at', ()) ((), (), out ++ (signs (s.drop p)).map (·.1), at' ++ ats p (signs (s.drop p)), ()) := by
  have main : ∀ n p out at', s.length - p ≤ n → p ≤ s.length → out.length + (s.length - p) ≤ 1000000000000 → at'.length + (s.length - p) ≤ 1000000000000 →
      TendsL M_conciergeref04_Signs_l0 (s, (), (), (p : Int), out, at', ()) ((), (), out ++ (signs (s.drop p)).map (·.1), at' ++ ats p (signs (s.drop p)), ()) := by
    intro n
    induction n with
    | zero =>
      intro p out at' hn hp ho ha
      have : p = s.length := by omega
      subst this
      refine TendsL.fin (Tends.of fun F => ?_)
      unfold M_conciergeref04_Signs_l0
      have h : ¬ ((s.length : Nat) : Int) < (s.length : Int) := by omega
      simp [h, signs_nil, ats]
    | succ n ih =>
      intro p out at' hn hp ho ha
      by_cases hlt : p < s.length
      · have hpos := decodeL_pos (s.drop p)
        have hnx := next_le hlt
        have h : (p : Int) < (s.length : Int) := by omega
        have e1 : ((out.length : Int) + 1) * 8 ≤ 140737488355328 := by omega
        have e2 : ((at'.length : Int) + 1) * 8 ≤ 140737488355328 := by omega
        rw [signs_cons (drop_ne hlt), drop_next]
        refine TendsL.step (x' := (s, (), (), ((p + (decodeL (s.drop p)).2 : Nat) : Int), out ++ [((decodeL (s.drop p)).1 : Int)], at' ++ [(p : Int)], ())) (Tends.of fun F => ?_) ?_
        · unfold M_conciergeref04_Signs_l0
          have e1' : (out.length + 1) * 8 ≤ 140737488355328 := by omega
          have e2' : (at'.length + 1) * 8 ≤ 140737488355328 := by omega
          simp only [h, decide_true, if_true, sub_to_end s p hp, Option.bind_some, first_eq F _ (drop_ne hlt), List.length_cons, List.length_nil, Nat.zero_add, e1', e2']
          rw [wrap64 _ (by omega) (by omega)]
          rfl
        · have := ih (p + (decodeL (s.drop p)).2) (out ++ [((decodeL (s.drop p)).1 : Int)]) (at' ++ [(p : Int)]) (by omega) hnx (by simp; omega) (by simp; omega)
          simpa [ats, take_len hlt] using this
      · have : p = s.length := by omega
        subst this
        refine TendsL.fin (Tends.of fun F => ?_)
        unfold M_conciergeref04_Signs_l0
        have h : ¬ ((s.length : Nat) : Int) < (s.length : Int) := by omega
        simp [h, signs_nil, ats]
  exact main _ p out at' (Nat.le_refl _) hp ho ha
theorem signs_tends (s : List UInt8) (hs : s.length ≤ 1000000000000) : Tends (fun F => M_conciergeref04_Signs F s) ((signs s).map (·.1), ats 0 (signs s)) := by
  unfold M_conciergeref04_Signs
  have := signsLoop s hs 0 (by omega) [] [] (by simp; omega) (by simp; omega)
  refine this.run.bind ?_
  exact Tends.of fun F => by simp
end Go.Vm
