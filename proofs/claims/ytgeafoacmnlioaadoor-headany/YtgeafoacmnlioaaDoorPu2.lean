/- The document's first sign and a sign's bytes, plainly. No condition but on lengths. -/
import Derived.Test.YtgeafoacmnlioaaDoorFref4
import Derived.Test.YtgeafoacmnlioaaDoorPu1
namespace Go.Vm
open Go.Lib (decodeL decodeN decodeL_N decode_N decodeN_shape decodeL_le)
set_option linter.unusedVariables false
set_option linter.unusedSimpArgs false
theorem tail_eq (F : Nat) (l : List UInt8) (k : Nat) : M_conciergeref04_tail F (l, (k : Int)) = some (decide (k < l.length ∧ 128 ≤ (l.getD k 0).toNat ∧ (l.getD k 0).toNat < 192)) := by
  unfold M_conciergeref04_tail
  simp only [idx_lit]
  by_cases h : k < l.length
  · have h' : (k : Int) < (l.length : Int) := by omega
    simp only [idx_lit, h, h', decide_true, if_true, Option.bind_some, true_and, some_ite, prod_ite, ite_self, Bool.if_false_right]
    rw [Option.some.injEq, Bool.eq_iff_iff]
    simp
    omega
  · have h' : ¬ (k : Int) < (l.length : Int) := by omega
    simp [h, h']
set_option maxHeartbeats 1000000 in
theorem first_eq (F : Nat) (l : List UInt8) (hn : l ≠ []) : M_conciergeref04_First F l = some (((decodeL l).1 : Int), ((decodeL l).2 : Int)) := by
  have h0 : 0 < l.length := List.length_pos_iff.2 hn
  have k0 := (l.getD 0 0).toNat_lt
  have k1 := (l.getD 1 0).toNat_lt
  have k2 := (l.getD 2 0).toNat_lt
  have k3 := (l.getD 3 0).toNat_lt
  have t1 := tail_eq F l 1
  have t2 := tail_eq F l 2
  have t3 := tail_eq F l 3
  have i0 := idx_lit l 0
  have i1 := idx_lit l 1
  have i2 := idx_lit l 2
  have i3 := idx_lit l 3
  simp only [Int.cast_ofNat_Int] at t1 t2 t3 i0 i1 i2 i3
  rw [decodeL_N]
  unfold M_conciergeref04_First
  generalize hc0 : l.getD 0 0 = c0 at *
  generalize hc1 : l.getD 1 0 = c1 at *
  generalize hc2 : l.getD 2 0 = c2 at *
  generalize hc3 : l.getD 3 0 = c3 at *
  clear hc0 hc1 hc2 hc3
  simp only [i0, if_pos h0, Option.bind_some]
  simp (disch := omega) only [wrap64]
  rcases decodeN_shape l.length c0.toNat c1.toNat c2.toNat c3.toNat with ⟨p1, e⟩ | ⟨p1, p2, p3, p4, e⟩ | ⟨p1, p2, p3, p4, p5, p6, e⟩ | ⟨p1, p2, p3, p4, p5, p6, p7, e⟩ | e
  · rw [e]
    have q1 : (c0.toNat : Int) < 128 := by omega
    simp only [t1, t2, t3, some_ite, prod_ite, ite_self, Option.bind_some, Option.bind_none, Bool.if_false_right, Bool.if_false_left, sumC_ite, sumC_inl, sumC_inr, decide_true, decide_false, if_true, if_false, Bool.and_true, Bool.true_and, Bool.and_false, Bool.false_and, Bool.false_eq_true, true_and, and_true, false_and, and_false, decide_eq_true_eq, q1]
    rfl
  · rw [e]
    have q1 : ¬ (c0.toNat : Int) < 128 := by omega
    have q2 : (194 : Int) ≤ (c0.toNat : Int) := by omega
    have q3 : (c0.toNat : Int) < 224 := by omega
    have q4 : 128 ≤ c1.toNat := by omega
    have q5 : c1.toNat < 192 := by omega
    simp only [t1, t2, t3, some_ite, prod_ite, ite_self, Option.bind_some, Option.bind_none, Bool.if_false_right, Bool.if_false_left, sumC_ite, sumC_inl, sumC_inr, decide_true, decide_false, if_true, if_false, Bool.and_true, Bool.true_and, Bool.and_false, Bool.false_and, Bool.false_eq_true, true_and, and_true, false_and, and_false, decide_eq_true_eq, q1, q2, q3, q4, q5, p2, i1]
    simp (disch := omega) only [wrap64]
    simp only [Option.some.injEq, Prod.mk.injEq]
    omega
  · rw [e]
    have q1 : ¬ (c0.toNat : Int) < 128 := by omega
    have q2 : (194 : Int) ≤ (c0.toNat : Int) := by omega
    have q3 : ¬ (c0.toNat : Int) < 224 := by omega
    have q6 : (224 : Int) ≤ (c0.toNat : Int) := by omega
    have q7 : (c0.toNat : Int) < 240 := by omega
    have q4 : 128 ≤ c1.toNat := by omega
    have q5 : c1.toNat < 192 := by omega
    have q8 : 128 ≤ c2.toNat := by omega
    have q9 : c2.toNat < 192 := by omega
    have q0 : 1 < l.length := by omega
    simp only [t1, t2, t3, some_ite, prod_ite, ite_self, Option.bind_some, Option.bind_none, Bool.if_false_right, Bool.if_false_left, sumC_ite, sumC_inl, sumC_inr, decide_true, decide_false, if_true, if_false, Bool.and_true, Bool.true_and, Bool.and_false, Bool.false_and, Bool.false_eq_true, true_and, and_true, false_and, and_false, decide_eq_true_eq, q1, q2, q3, q4, q5, q6, q7, q8, q9, q0, p2, i1, i2]
    simp (disch := omega) only [wrap64]
    have r1 : (2048 : Int) ≤ ((c0.toNat : Int) - 224) * 4096 + ((c1.toNat : Int) - 128) * 64 + (c2.toNat : Int) - 128 := by omega
    by_cases r2 : ((c0.toNat : Int) - 224) * 4096 + ((c1.toNat : Int) - 128) * 64 + (c2.toNat : Int) - 128 < 55296
    · simp only [t1, t2, t3, some_ite, prod_ite, ite_self, Option.bind_some, Option.bind_none, Bool.if_false_right, Bool.if_false_left, sumC_ite, sumC_inl, sumC_inr, decide_true, decide_false, if_true, if_false, Bool.and_true, Bool.true_and, Bool.and_false, Bool.false_and, Bool.false_eq_true, true_and, and_true, false_and, and_false, decide_eq_true_eq, r1, r2, Bool.true_eq_false]
      simp only [Option.some.injEq, Prod.mk.injEq]
      omega
    · have r3 : (57343 : Int) < ((c0.toNat : Int) - 224) * 4096 + ((c1.toNat : Int) - 128) * 64 + (c2.toNat : Int) - 128 := by omega
      simp only [t1, t2, t3, some_ite, prod_ite, ite_self, Option.bind_some, Option.bind_none, Bool.if_false_right, Bool.if_false_left, sumC_ite, sumC_inl, sumC_inr, decide_true, decide_false, if_true, if_false, Bool.and_true, Bool.true_and, Bool.and_false, Bool.false_and, Bool.false_eq_true, true_and, and_true, false_and, and_false, decide_eq_true_eq, r1, r2, r3]
      simp only [Option.some.injEq, Prod.mk.injEq]
      omega
  · rw [e]
    have q1 : ¬ (c0.toNat : Int) < 128 := by omega
    have q2 : (194 : Int) ≤ (c0.toNat : Int) := by omega
    have q3 : ¬ (c0.toNat : Int) < 224 := by omega
    have q6 : (224 : Int) ≤ (c0.toNat : Int) := by omega
    have q7 : ¬ (c0.toNat : Int) < 240 := by omega
    have qa : (240 : Int) ≤ (c0.toNat : Int) := by omega
    have qb : (c0.toNat : Int) < 245 := by omega
    have q4 : 128 ≤ c1.toNat := by omega
    have q5 : c1.toNat < 192 := by omega
    have q8 : 128 ≤ c2.toNat := by omega
    have q9 : c2.toNat < 192 := by omega
    have qc : 128 ≤ c3.toNat := by omega
    have qd : c3.toNat < 192 := by omega
    have q0 : 1 < l.length := by omega
    have qe : 2 < l.length := by omega
    simp only [t1, t2, t3, some_ite, prod_ite, ite_self, Option.bind_some, Option.bind_none, Bool.if_false_right, Bool.if_false_left, sumC_ite, sumC_inl, sumC_inr, decide_true, decide_false, if_true, if_false, Bool.and_true, Bool.true_and, Bool.and_false, Bool.false_and, Bool.false_eq_true, true_and, and_true, false_and, and_false, decide_eq_true_eq, q1, q2, q3, q4, q5, q6, q7, q8, q9, q0, qa, qb, qc, qd, qe, p2, i1, i2, i3]
    simp (disch := omega) only [wrap64]
    have r1 : (65536 : Int) ≤ ((c0.toNat : Int) - 240) * 262144 + ((c1.toNat : Int) - 128) * 4096 + ((c2.toNat : Int) - 128) * 64 + (c3.toNat : Int) - 128 := by omega
    have r2 : ((c0.toNat : Int) - 240) * 262144 + ((c1.toNat : Int) - 128) * 4096 + ((c2.toNat : Int) - 128) * 64 + (c3.toNat : Int) - 128 ≤ 1114111 := by omega
    simp only [t1, t2, t3, some_ite, prod_ite, ite_self, Option.bind_some, Option.bind_none, Bool.if_false_right, Bool.if_false_left, sumC_ite, sumC_inl, sumC_inr, decide_true, decide_false, if_true, if_false, Bool.and_true, Bool.true_and, Bool.and_false, Bool.false_and, Bool.false_eq_true, true_and, and_true, false_and, and_false, decide_eq_true_eq, r1, r2]
    simp only [Option.some.injEq, Prod.mk.injEq]
    omega
  · rw [e]
    have q1 : ¬ (c0.toNat : Int) < 128 := by
      intro h
      unfold decodeN at e
      rw [if_pos (by omega)] at e
      simp only [Prod.mk.injEq] at e
      omega
    have hb : ¬ (194 ≤ c0.toNat ∧ c0.toNat < 224 ∧ 1 < l.length ∧ 128 ≤ c1.toNat ∧ c1.toNat < 192) := by
      intro h
      unfold decodeN at e
      rw [if_neg (by omega), if_pos (by omega), if_pos (by omega)] at e
      simp only [Prod.mk.injEq] at e
      omega
    have hc : ¬ (224 ≤ c0.toNat ∧ c0.toNat < 240 ∧ 1 < l.length ∧ 128 ≤ c1.toNat ∧ c1.toNat < 192 ∧ 2 < l.length ∧ 128 ≤ c2.toNat ∧ c2.toNat < 192 ∧
        2048 ≤ ((c0.toNat : Int) - 224) * 4096 + ((c1.toNat : Int) - 128) * 64 + (c2.toNat : Int) - 128 ∧ (((c0.toNat : Int) - 224) * 4096 + ((c1.toNat : Int) - 128) * 64 + (c2.toNat : Int) - 128 < 55296 ∨ 57343 < ((c0.toNat : Int) - 224) * 4096 + ((c1.toNat : Int) - 128) * 64 + (c2.toNat : Int) - 128)) := by
      intro h
      unfold decodeN at e
      rw [if_neg (by omega), if_neg (by omega), if_pos (by omega), if_pos (by omega)] at e
      simp only [Prod.mk.injEq] at e
      omega
    have hd : ¬ (240 ≤ c0.toNat ∧ c0.toNat < 245 ∧ 1 < l.length ∧ 128 ≤ c1.toNat ∧ c1.toNat < 192 ∧ 2 < l.length ∧ 128 ≤ c2.toNat ∧ c2.toNat < 192 ∧ 3 < l.length ∧ 128 ≤ c3.toNat ∧ c3.toNat < 192 ∧
        65536 ≤ ((c0.toNat : Int) - 240) * 262144 + ((c1.toNat : Int) - 128) * 4096 + ((c2.toNat : Int) - 128) * 64 + (c3.toNat : Int) - 128 ∧ ((c0.toNat : Int) - 240) * 262144 + ((c1.toNat : Int) - 128) * 4096 + ((c2.toNat : Int) - 128) * 64 + (c3.toNat : Int) - 128 ≤ 1114111) := by
      intro h
      unfold decodeN at e
      rw [if_neg (by omega), if_neg (by omega), if_neg (by omega), if_pos (by omega), if_pos (by omega)] at e
      simp only [Prod.mk.injEq] at e
      omega
    clear e
    by_cases g1 : c0.toNat < 194
    · have q2 : ¬ (194 : Int) ≤ (c0.toNat : Int) := by omega
      have q6 : ¬ (224 : Int) ≤ (c0.toNat : Int) := by omega
      have qa : ¬ (240 : Int) ≤ (c0.toNat : Int) := by omega
      simp only [t1, t2, t3, some_ite, prod_ite, ite_self, Option.bind_some, Option.bind_none, Bool.if_false_right, Bool.if_false_left, sumC_ite, sumC_inl, sumC_inr, decide_true, decide_false, if_true, if_false, Bool.and_true, Bool.true_and, Bool.and_false, Bool.false_and, Bool.false_eq_true, true_and, and_true, false_and, and_false, decide_eq_true_eq, q1, q2, q6, qa]
      rfl
    have q2 : (194 : Int) ≤ (c0.toNat : Int) := by omega
    by_cases g2 : c0.toNat < 224
    · have q3 : (c0.toNat : Int) < 224 := by omega
      have q6 : ¬ (224 : Int) ≤ (c0.toNat : Int) := by omega
      have qa : ¬ (240 : Int) ≤ (c0.toNat : Int) := by omega
      have q4 : ¬ (1 < l.length ∧ 128 ≤ c1.toNat ∧ c1.toNat < 192) := by omega
      simp only [t1, t2, t3, some_ite, prod_ite, ite_self, Option.bind_some, Option.bind_none, Bool.if_false_right, Bool.if_false_left, sumC_ite, sumC_inl, sumC_inr, decide_true, decide_false, if_true, if_false, Bool.and_true, Bool.true_and, Bool.and_false, Bool.false_and, Bool.false_eq_true, true_and, and_true, false_and, and_false, decide_eq_true_eq, q1, q2, q3, q4, q6, qa]
      rfl
    have q3 : ¬ (c0.toNat : Int) < 224 := by omega
    have q6 : (224 : Int) ≤ (c0.toNat : Int) := by omega
    by_cases g3 : c0.toNat < 240
    · have q7 : (c0.toNat : Int) < 240 := by omega
      have qa : ¬ (240 : Int) ≤ (c0.toNat : Int) := by omega
      by_cases q4 : 1 < l.length ∧ 128 ≤ c1.toNat ∧ c1.toNat < 192
      · by_cases q5 : 2 < l.length ∧ 128 ≤ c2.toNat ∧ c2.toNat < 192
        · obtain ⟨z1, z2, z3⟩ := q4
          obtain ⟨z4, z5, z6⟩ := q5
          simp only [t1, t2, t3, some_ite, prod_ite, ite_self, Option.bind_some, Option.bind_none, Bool.if_false_right, Bool.if_false_left, sumC_ite, sumC_inl, sumC_inr, decide_true, decide_false, if_true, if_false, Bool.and_true, Bool.true_and, Bool.and_false, Bool.false_and, Bool.false_eq_true, true_and, and_true, false_and, and_false, decide_eq_true_eq, q1, q2, q3, q6, q7, qa, z1, z2, z3, z4, z5, z6, i1, i2]
          simp (disch := omega) only [wrap64]
          by_cases r1 : (2048 : Int) ≤ ((c0.toNat : Int) - 224) * 4096 + ((c1.toNat : Int) - 128) * 64 + (c2.toNat : Int) - 128
          · have r2 : ¬ ((c0.toNat : Int) - 224) * 4096 + ((c1.toNat : Int) - 128) * 64 + (c2.toNat : Int) - 128 < 55296 := by omega
            have r3 : ¬ (57343 : Int) < ((c0.toNat : Int) - 224) * 4096 + ((c1.toNat : Int) - 128) * 64 + (c2.toNat : Int) - 128 := by omega
            simp only [t1, t2, t3, some_ite, prod_ite, ite_self, Option.bind_some, Option.bind_none, Bool.if_false_right, Bool.if_false_left, sumC_ite, sumC_inl, sumC_inr, decide_true, decide_false, if_true, if_false, Bool.and_true, Bool.true_and, Bool.and_false, Bool.false_and, Bool.false_eq_true, true_and, and_true, false_and, and_false, decide_eq_true_eq, r1, r2, r3, qa]
            rfl
          · simp only [t1, t2, t3, some_ite, prod_ite, ite_self, Option.bind_some, Option.bind_none, Bool.if_false_right, Bool.if_false_left, sumC_ite, sumC_inl, sumC_inr, decide_true, decide_false, if_true, if_false, Bool.and_true, Bool.true_and, Bool.and_false, Bool.false_and, Bool.false_eq_true, true_and, and_true, false_and, and_false, decide_eq_true_eq, r1, qa]
            rfl
        · simp only [t1, t2, t3, some_ite, prod_ite, ite_self, Option.bind_some, Option.bind_none, Bool.if_false_right, Bool.if_false_left, sumC_ite, sumC_inl, sumC_inr, decide_true, decide_false, if_true, if_false, Bool.and_true, Bool.true_and, Bool.and_false, Bool.false_and, Bool.false_eq_true, true_and, and_true, false_and, and_false, decide_eq_true_eq, q1, q2, q3, q4, q5, q6, q7, qa]
          rfl
      · simp only [t1, t2, t3, some_ite, prod_ite, ite_self, Option.bind_some, Option.bind_none, Bool.if_false_right, Bool.if_false_left, sumC_ite, sumC_inl, sumC_inr, decide_true, decide_false, if_true, if_false, Bool.and_true, Bool.true_and, Bool.and_false, Bool.false_and, Bool.false_eq_true, true_and, and_true, false_and, and_false, decide_eq_true_eq, q1, q2, q3, q4, q6, q7, qa]
        rfl
    have q7 : ¬ (c0.toNat : Int) < 240 := by omega
    have qa : (240 : Int) ≤ (c0.toNat : Int) := by omega
    by_cases g4 : c0.toNat < 245
    · have qb : (c0.toNat : Int) < 245 := by omega
      by_cases q4 : 1 < l.length ∧ 128 ≤ c1.toNat ∧ c1.toNat < 192
      · by_cases q5 : 2 < l.length ∧ 128 ≤ c2.toNat ∧ c2.toNat < 192
        · by_cases q8 : 3 < l.length ∧ 128 ≤ c3.toNat ∧ c3.toNat < 192
          · obtain ⟨z1, z2, z3⟩ := q4
            obtain ⟨z4, z5, z6⟩ := q5
            obtain ⟨z7, z8, z9⟩ := q8
            simp only [t1, t2, t3, some_ite, prod_ite, ite_self, Option.bind_some, Option.bind_none, Bool.if_false_right, Bool.if_false_left, sumC_ite, sumC_inl, sumC_inr, decide_true, decide_false, if_true, if_false, Bool.and_true, Bool.true_and, Bool.and_false, Bool.false_and, Bool.false_eq_true, true_and, and_true, false_and, and_false, decide_eq_true_eq, q1, q2, q3, q6, q7, qa, qb, z1, z2, z3, z4, z5, z6, z7, z8, z9, i1, i2, i3]
            simp (disch := omega) only [wrap64]
            by_cases r1 : (65536 : Int) ≤ ((c0.toNat : Int) - 240) * 262144 + ((c1.toNat : Int) - 128) * 4096 + ((c2.toNat : Int) - 128) * 64 + (c3.toNat : Int) - 128
            · have r2 : ¬ ((c0.toNat : Int) - 240) * 262144 + ((c1.toNat : Int) - 128) * 4096 + ((c2.toNat : Int) - 128) * 64 + (c3.toNat : Int) - 128 ≤ 1114111 := by omega
              simp only [t1, t2, t3, some_ite, prod_ite, ite_self, Option.bind_some, Option.bind_none, Bool.if_false_right, Bool.if_false_left, sumC_ite, sumC_inl, sumC_inr, decide_true, decide_false, if_true, if_false, Bool.and_true, Bool.true_and, Bool.and_false, Bool.false_and, Bool.false_eq_true, true_and, and_true, false_and, and_false, decide_eq_true_eq, r1, r2]
              rfl
            · simp only [t1, t2, t3, some_ite, prod_ite, ite_self, Option.bind_some, Option.bind_none, Bool.if_false_right, Bool.if_false_left, sumC_ite, sumC_inl, sumC_inr, decide_true, decide_false, if_true, if_false, Bool.and_true, Bool.true_and, Bool.and_false, Bool.false_and, Bool.false_eq_true, true_and, and_true, false_and, and_false, decide_eq_true_eq, r1]
              rfl
          · simp only [t1, t2, t3, some_ite, prod_ite, ite_self, Option.bind_some, Option.bind_none, Bool.if_false_right, Bool.if_false_left, sumC_ite, sumC_inl, sumC_inr, decide_true, decide_false, if_true, if_false, Bool.and_true, Bool.true_and, Bool.and_false, Bool.false_and, Bool.false_eq_true, true_and, and_true, false_and, and_false, decide_eq_true_eq, q1, q2, q3, q4, q5, q6, q7, q8, qa, qb]
            rfl
        · simp only [t1, t2, t3, some_ite, prod_ite, ite_self, Option.bind_some, Option.bind_none, Bool.if_false_right, Bool.if_false_left, sumC_ite, sumC_inl, sumC_inr, decide_true, decide_false, if_true, if_false, Bool.and_true, Bool.true_and, Bool.and_false, Bool.false_and, Bool.false_eq_true, true_and, and_true, false_and, and_false, decide_eq_true_eq, q1, q2, q3, q4, q5, q6, q7, qa, qb]
          rfl
      · simp only [t1, t2, t3, some_ite, prod_ite, ite_self, Option.bind_some, Option.bind_none, Bool.if_false_right, Bool.if_false_left, sumC_ite, sumC_inl, sumC_inr, decide_true, decide_false, if_true, if_false, Bool.and_true, Bool.true_and, Bool.and_false, Bool.false_and, Bool.false_eq_true, true_and, and_true, false_and, and_false, decide_eq_true_eq, q1, q2, q3, q4, q6, q7, qa, qb]
        rfl
    have qb : ¬ (c0.toNat : Int) < 245 := by omega
    simp only [t1, t2, t3, some_ite, prod_ite, ite_self, Option.bind_some, Option.bind_none, Bool.if_false_right, Bool.if_false_left, sumC_ite, sumC_inl, sumC_inr, decide_true, decide_false, if_true, if_false, Bool.and_true, Bool.true_and, Bool.and_false, Bool.false_and, Bool.false_eq_true, true_and, and_true, false_and, and_false, decide_eq_true_eq, q1, q2, q3, q6, q7, qa, qb]
    rfl
end Go.Vm
