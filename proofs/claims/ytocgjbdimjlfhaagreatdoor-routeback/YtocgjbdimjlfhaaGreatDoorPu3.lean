import Derived.Test.YtocgjbdimjlfhaaGreatDoorFref4
import Derived.Test.YtocgjbdimjlfhaaGreatDoorPg1
import Derived.Test.YtocgjbdimjlfhaaGreatDoorFr9
import Derived.Test.YtocgjbdimjlfhaaGreatDoorFjson
import Derived.Test.YtocgjbdimjlfhaaGreatDoorFjlay
import Derived.Test.YtocgjbdimjlfhaaGreatDoorFr9v
import Derived.Test.YtocgjbdimjlfhaaGreatDoorPh3
/- The document's first sign and a sign's bytes, plainly. No condition but on lengths. -/
namespace Go.Vm
open Go.Lib (decodeL decodeN decodeL_N decode_N decodeN_shape decodeL_le)
set_option linter.unusedVariables false
set_option linter.unusedSimpArgs false
theorem tail_eq (F : Nat) (l : List UInt8) (k : Nat) : M_conciergeref04_tail F (l, (k : Int)) = some (decide (k < l.length ∧ 128 ≤ (l.getD k 0).toNat ∧ (l.getD k 0).toNat < 192)) := by
  unfold M_conciergeref04_tail
  simp only [idx_lit]
  by_cases h : k < l.length
  · have h' : (k : Int) < (l.length : Int) := by omega
    simp only [idx_lit, h, h', decide_true, if_true, Option.bind_some, true_and, some_ite, prod_ite, ite_self, Bool.if_false_right]
    rw [Option.some.injEq, Bool.eq_iff_iff]
    simp
    omega
  · have h' : ¬ (k : Int) < (l.length : Int) := by omega
    simp [h, h']
set_option maxHeartbeats 1000000 in
theorem first_eq (F : Nat) (l : List UInt8) (hn : l ≠ []) : M_conciergeref04_First F l = some (((decodeL l).1 : Int), ((decodeL l).2 : Int)) := by
  have h0 : 0 < l.length := List.length_pos_iff.2 hn
  have k0 := (l.getD 0 0).toNat_lt
  have k1 := (l.getD 1 0).toNat_lt
  have k2 := (l.getD 2 0).toNat_lt
  have k3 := (l.getD 3 0).toNat_lt
  have t1 := tail_eq F l 1
  have t2 := tail_eq F l 2
  have t3 := tail_eq F l 3
  have i0 := idx_lit l 0
  have i1 := idx_lit l 1
  have i2 := idx_lit l 2
  have i3 := idx_lit l 3
  simp only [Int.cast_ofNat_Int] at t1 t2 t3 i0 i1 i2 i3
  rw [decodeL_N]
  unfold M_conciergeref04_First
  generalize hc0 : l.getD 0 0 = c0 at *
  generalize hc1 : l.getD 1 0 = c1 at *
  generalize hc2 : l.getD 2 0 = c2 at *
  generalize hc3 : l.getD 3 0 = c3 at *
  clear hc0 hc1 hc2 hc3
  simp only [i0, if_pos h0, Option.bind_some]
  simp (disch := omega) only [wrap64]
  rcases decodeN_shape l.length c0.toNat c1.toNat c2.toNat c3.toNat with ⟨p1, e⟩ | ⟨p1, p2, p3, p4, e⟩ | ⟨p1, p2, p3, p4, p5, p6, e⟩ | ⟨p1, p2, p3, p4, p5, p6, p7, e⟩ | e
  · rw [e]
    have q1 : (c0.toNat : Int) < 128 := by omega
    simp only [t1, t2, t3, some_ite, prod_ite, ite_self, Option.bind_some, Option.bind_none, Bool.if_false_right, Bool.if_false_left, sumC_ite, sumC_inl, sumC_inr, decide_true, decide_false, if_true, if_false, Bool.and_true, Bool.true_and, Bool.and_false, Bool.false_and, Bool.false_eq_true, true_and, and_true, false_and, and_false, decide_eq_true_eq, q1]
    rfl
  · rw [e]
    have q1 : ¬ (c0.toNat : Int) < 128 := by omega
    have q2 : (194 : Int) ≤ (c0.toNat : Int) := by omega
    have q3 : (c0.toNat : Int) < 224 := by omega
    have q4 : 128 ≤ c1.toNat := by omega
    have q5 : c1.toNat < 192 := by omega
    simp only [t1, t2, t3, some_ite, prod_ite, ite_self, Option.bind_some, Option.bind_none, Bool.if_false_right, Bool.if_false_left, sumC_ite, sumC_inl, sumC_inr, decide_true, decide_false, if_true, if_false, Bool.and_true, Bool.true_and, Bool.and_false, Bool.false_and, Bool.false_eq_true, true_and, and_true, false_and, and_false, decide_eq_true_eq, q1, q2, q3, q4, q5, p2, i1]
    simp (disch := omega) only [wrap64]
    simp only [Option.some.injEq, Prod.mk.injEq]
    omega
  · rw [e]
    have q1 : ¬ (c0.toNat : Int) < 128 := by omega
    have q2 : (194 : Int) ≤ (c0.toNat : Int) := by omega
    have q3 : ¬ (c0.toNat : Int) < 224 := by omega
    have q6 : (224 : Int) ≤ (c0.toNat : Int) := by omega
    have q7 : (c0.toNat : Int) < 240 := by omega
    have q4 : 128 ≤ c1.toNat := by omega
    have q5 : c1.toNat < 192 := by omega
    have q8 : 128 ≤ c2.toNat := by omega
    have q9 : c2.toNat < 192 := by omega
    have q0 : 1 < l.length := by omega
    simp only [t1, t2, t3, some_ite, prod_ite, ite_self, Option.bind_some, Option.bind_none, Bool.if_false_right, Bool.if_false_left, sumC_ite, sumC_inl, sumC_inr, decide_true, decide_false, if_true, if_false, Bool.and_true, Bool.true_and, Bool.and_false, Bool.false_and, Bool.false_eq_true, true_and, and_true, false_and, and_false, decide_eq_true_eq, q1, q2, q3, q4, q5, q6, q7, q8, q9, q0, p2, i1, i2]
    simp (disch := omega) only [wrap64]
    have r1 : (2048 : Int) ≤ ((c0.toNat : Int) - 224) * 4096 + ((c1.toNat : Int) - 128) * 64 + (c2.toNat : Int) - 128 := by omega
    by_cases r2 : ((c0.toNat : Int) - 224) * 4096 + ((c1.toNat : Int) - 128) * 64 + (c2.toNat : Int) - 128 < 55296
    · simp only [t1, t2, t3, some_ite, prod_ite, ite_self, Option.bind_some, Option.bind_none, Bool.if_false_right, Bool.if_false_left, sumC_ite, sumC_inl, sumC_inr, decide_true, decide_false, if_true, if_false, Bool.and_true, Bool.true_and, Bool.and_false, Bool.false_and, Bool.false_eq_true, true_and, and_true, false_and, and_false, decide_eq_true_eq, r1, r2, Bool.true_eq_false]
      simp only [Option.some.injEq, Prod.mk.injEq]
      omega
    · have r3 : (57343 : Int) < ((c0.toNat : Int) - 224) * 4096 + ((c1.toNat : Int) - 128) * 64 + (c2.toNat : Int) - 128 := by omega
      simp only [t1, t2, t3, some_ite, prod_ite, ite_self, Option.bind_some, Option.bind_none, Bool.if_false_right, Bool.if_false_left, sumC_ite, sumC_inl, sumC_inr, decide_true, decide_false, if_true, if_false, Bool.and_true, Bool.true_and, Bool.and_false, Bool.false_and, Bool.false_eq_true, true_and, and_true, false_and, and_false, decide_eq_true_eq, r1, r2, r3]
      simp only [Option.some.injEq, Prod.mk.injEq]
      omega
  · rw [e]
    have q1 : ¬ (c0.toNat : Int) < 128 := by omega
    have q2 : (194 : Int) ≤ (c0.toNat : Int) := by omega
    have q3 : ¬ (c0.toNat : Int) < 224 := by omega
    have q6 : (224 : Int) ≤ (c0.toNat : Int) := by omega
    have q7 : ¬ (c0.toNat : Int) < 240 := by omega
    have qa : (240 : Int) ≤ (c0.toNat : Int) := by omega
    have qb : (c0.toNat : Int) < 245 := by omega
    have q4 : 128 ≤ c1.toNat := by omega
    have q5 : c1.toNat < 192 := by omega
    have q8 : 128 ≤ c2.toNat := by omega
    have q9 : c2.toNat < 192 := by omega
    have qc : 128 ≤ c3.toNat := by omega
    have qd : c3.toNat < 192 := by omega
    have q0 : 1 < l.length := by omega
    have qe : 2 < l.length := by omega
    simp only [t1, t2, t3, some_ite, prod_ite, ite_self, Option.bind_some, Option.bind_none, Bool.if_false_right, Bool.if_false_left, sumC_ite, sumC_inl, sumC_inr, decide_true, decide_false, if_true, if_false, Bool.and_true, Bool.true_and, Bool.and_false, Bool.false_and, Bool.false_eq_true, true_and, and_true, false_and, and_false, decide_eq_true_eq, q1, q2, q3, q4, q5, q6, q7, q8, q9, q0, qa, qb, qc, qd, qe, p2, i1, i2, i3]
    simp (disch := omega) only [wrap64]
    have r1 : (65536 : Int) ≤ ((c0.toNat : Int) - 240) * 262144 + ((c1.toNat : Int) - 128) * 4096 + ((c2.toNat : Int) - 128) * 64 + (c3.toNat : Int) - 128 := by omega
    have r2 : ((c0.toNat : Int) - 240) * 262144 + ((c1.toNat : Int) - 128) * 4096 + ((c2.toNat : Int) - 128) * 64 + (c3.toNat : Int) - 128 ≤ 1114111 := by omega
    simp only [t1, t2, t3, some_ite, prod_ite, ite_self, Option.bind_some, Option.bind_none, Bool.if_false_right, Bool.if_false_left, sumC_ite, sumC_inl, sumC_inr, decide_true, decide_false, if_true, if_false, Bool.and_true, Bool.true_and, Bool.and_false, Bool.false_and, Bool.false_eq_true, true_and, and_true, false_and, and_false, decide_eq_true_eq, r1, r2]
    simp only [Option.some.injEq, Prod.mk.injEq]
    omega
  · rw [e]
    have q1 : ¬ (c0.toNat : Int) < 128 := by
      intro h
      unfold decodeN at e
      rw [if_pos (by omega)] at e
      simp only [Prod.mk.injEq] at e
      omega
    have hb : ¬ (194 ≤ c0.toNat ∧ c0.toNat < 224 ∧ 1 < l.length ∧ 128 ≤ c1.toNat ∧ c1.toNat < 192) := by
      intro h
      unfold decodeN at e
      rw [if_neg (by omega), if_pos (by omega), if_pos (by omega)] at e
      simp only [Prod.mk.injEq] at e
      omega
    have hc : ¬ (224 ≤ c0.toNat ∧ c0.toNat < 240 ∧ 1 < l.length ∧ 128 ≤ c1.toNat ∧ c1.toNat < 192 ∧ 2 < l.length ∧ 128 ≤ c2.toNat ∧ c2.toNat < 192 ∧
        2048 ≤ ((c0.toNat : Int) - 224) * 4096 + ((c1.toNat : Int) - 128) * 64 + (c2.toNat : Int) - 128 ∧ (((c0.toNat : Int) - 224) * 4096 + ((c1.toNat : Int) - 128) * 64 + (c2.toNat : Int) - 128 < 55296 ∨ 57343 < ((c0.toNat : Int) - 224) * 4096 + ((c1.toNat : Int) - 128) * 64 + (c2.toNat : Int) - 128)) := by
      intro h
      unfold decodeN at e
      rw [if_neg (by omega), if_neg (by omega), if_pos (by omega), if_pos (by omega)] at e
      simp only [Prod.mk.injEq] at e
      omega
    have hd : ¬ (240 ≤ c0.toNat ∧ c0.toNat < 245 ∧ 1 < l.length ∧ 128 ≤ c1.toNat ∧ c1.toNat < 192 ∧ 2 < l.length ∧ 128 ≤ c2.toNat ∧ c2.toNat < 192 ∧ 3 < l.length ∧ 128 ≤ c3.toNat ∧ c3.toNat < 192 ∧
        65536 ≤ ((c0.toNat : Int) - 240) * 262144 + ((c1.toNat : Int) - 128) * 4096 + ((c2.toNat : Int) - 128) * 64 + (c3.toNat : Int) - 128 ∧ ((c0.toNat : Int) - 240) * 262144 + ((c1.toNat : Int) - 128) * 4096 + ((c2.toNat : Int) - 128) * 64 + (c3.toNat : Int) - 128 ≤ 1114111) := by
      intro h
      unfold decodeN at e
      rw [if_neg (by omega), if_neg (by omega), if_neg (by omega), if_pos (by omega), if_pos (by omega)] at e
      simp only [Prod.mk.injEq] at e
      omega
    clear e
    by_cases g1 : c0.toNat < 194
    · have q2 : ¬ (194 : Int) ≤ (c0.toNat : Int) := by omega
      have q6 : ¬ (224 : Int) ≤ (c0.toNat : Int) := by omega
      have qa : ¬ (240 : Int) ≤ (c0.toNat : Int) := by omega
      simp only [t1, t2, t3, some_ite, prod_ite, ite_self, Option.bind_some, Option.bind_none, Bool.if_false_right, Bool.if_false_left, sumC_ite, sumC_inl, sumC_inr, decide_true, decide_false, if_true, if_false, Bool.and_true, Bool.true_and, Bool.and_false, Bool.false_and, Bool.false_eq_true, true_and, and_true, false_and, and_false, decide_eq_true_eq, q1, q2, q6, qa]
      rfl
    have q2 : (194 : Int) ≤ (c0.toNat : Int) := by omega
    by_cases g2 : c0.toNat < 224
    · have q3 : (c0.toNat : Int) < 224 := by omega
      have q6 : ¬ (224 : Int) ≤ (c0.toNat : Int) := by omega
      have qa : ¬ (240 : Int) ≤ (c0.toNat : Int) := by omega
      have q4 : ¬ (1 < l.length ∧ 128 ≤ c1.toNat ∧ c1.toNat < 192) := by omega
      simp only [t1, t2, t3, some_ite, prod_ite, ite_self, Option.bind_some, Option.bind_none, Bool.if_false_right, Bool.if_false_left, sumC_ite, sumC_inl, sumC_inr, decide_true, decide_false, if_true, if_false, Bool.and_true, Bool.true_and, Bool.and_false, Bool.false_and, Bool.false_eq_true, true_and, and_true, false_and, and_false, decide_eq_true_eq, q1, q2, q3, q4, q6, qa]
      rfl
    have q3 : ¬ (c0.toNat : Int) < 224 := by omega
    have q6 : (224 : Int) ≤ (c0.toNat : Int) := by omega
    by_cases g3 : c0.toNat < 240
    · have q7 : (c0.toNat : Int) < 240 := by omega
      have qa : ¬ (240 : Int) ≤ (c0.toNat : Int) := by omega
      by_cases q4 : 1 < l.length ∧ 128 ≤ c1.toNat ∧ c1.toNat < 192
      · by_cases q5 : 2 < l.length ∧ 128 ≤ c2.toNat ∧ c2.toNat < 192
        · obtain ⟨z1, z2, z3⟩ := q4
          obtain ⟨z4, z5, z6⟩ := q5
          simp only [t1, t2, t3, some_ite, prod_ite, ite_self, Option.bind_some, Option.bind_none, Bool.if_false_right, Bool.if_false_left, sumC_ite, sumC_inl, sumC_inr, decide_true, decide_false, if_true, if_false, Bool.and_true, Bool.true_and, Bool.and_false, Bool.false_and, Bool.false_eq_true, true_and, and_true, false_and, and_false, decide_eq_true_eq, q1, q2, q3, q6, q7, qa, z1, z2, z3, z4, z5, z6, i1, i2]
          simp (disch := omega) only [wrap64]
          by_cases r1 : (2048 : Int) ≤ ((c0.toNat : Int) - 224) * 4096 + ((c1.toNat : Int) - 128) * 64 + (c2.toNat : Int) - 128
          · have r2 : ¬ ((c0.toNat : Int) - 224) * 4096 + ((c1.toNat : Int) - 128) * 64 + (c2.toNat : Int) - 128 < 55296 := by omega
            have r3 : ¬ (57343 : Int) < ((c0.toNat : Int) - 224) * 4096 + ((c1.toNat : Int) - 128) * 64 + (c2.toNat : Int) - 128 := by omega
            simp only [t1, t2, t3, some_ite, prod_ite, ite_self, Option.bind_some, Option.bind_none, Bool.if_false_right, Bool.if_false_left, sumC_ite, sumC_inl, sumC_inr, decide_true, decide_false, if_true, if_false, Bool.and_true, Bool.true_and, Bool.and_false, Bool.false_and, Bool.false_eq_true, true_and, and_true, false_and, and_false, decide_eq_true_eq, r1, r2, r3, qa]
            rfl
          · simp only [t1, t2, t3, some_ite, prod_ite, ite_self, Option.bind_some, Option.bind_none, Bool.if_false_right, Bool.if_false_left, sumC_ite, sumC_inl, sumC_inr, decide_true, decide_false, if_true, if_false, Bool.and_true, Bool.true_and, Bool.and_false, Bool.false_and, Bool.false_eq_true, true_and, and_true, false_and, and_false, decide_eq_true_eq, r1, qa]
            rfl
        · simp only [t1, t2, t3, some_ite, prod_ite, ite_self, Option.bind_some, Option.bind_none, Bool.if_false_right, Bool.if_false_left, sumC_ite, sumC_inl, sumC_inr, decide_true, decide_false, if_true, if_false, Bool.and_true, Bool.true_and, Bool.and_false, Bool.false_and, Bool.false_eq_true, true_and, and_true, false_and, and_false, decide_eq_true_eq, q1, q2, q3, q4, q5, q6, q7, qa]
          rfl
      · simp only [t1, t2, t3, some_ite, prod_ite, ite_self, Option.bind_some, Option.bind_none, Bool.if_false_right, Bool.if_false_left, sumC_ite, sumC_inl, sumC_inr, decide_true, decide_false, if_true, if_false, Bool.and_true, Bool.true_and, Bool.and_false, Bool.false_and, Bool.false_eq_true, true_and, and_true, false_and, and_false, decide_eq_true_eq, q1, q2, q3, q4, q6, q7, qa]
        rfl
    have q7 : ¬ (c0.toNat : Int) < 240 := by omega
    have qa : (240 : Int) ≤ (c0.toNat : Int) := by omega
    by_cases g4 : c0.toNat < 245
    · have qb : (c0.toNat : Int) < 245 := by omega
      by_cases q4 : 1 < l.length ∧ 128 ≤ c1.toNat ∧ c1.toNat < 192
      · by_cases q5 : 2 < l.length ∧ 128 ≤ c2.toNat ∧ c2.toNat < 192
        · by_cases q8 : 3 < l.length ∧ 128 ≤ c3.toNat ∧ c3.toNat < 192
          · obtain ⟨z1, z2, z3⟩ := q4
            obtain ⟨z4, z5, z6⟩ := q5
            obtain ⟨z7, z8, z9⟩ := q8
            simp only [t1, t2, t3, some_ite, prod_ite, ite_self, Option.bind_some, Option.bind_none, Bool.if_false_right, Bool.if_false_left, sumC_ite, sumC_inl, sumC_inr, decide_true, decide_false, if_true, if_false, Bool.and_true, Bool.true_and, Bool.and_false, Bool.false_and, Bool.false_eq_true, true_and, and_true, false_and, and_false, decide_eq_true_eq, q1, q2, q3, q6, q7, qa, qb, z1, z2, z3, z4, z5, z6, z7, z8, z9, i1, i2, i3]
            simp (disch := omega) only [wrap64]
            by_cases r1 : (65536 : Int) ≤ ((c0.toNat : Int) - 240) * 262144 + ((c1.toNat : Int) - 128) * 4096 + ((c2.toNat : Int) - 128) * 64 + (c3.toNat : Int) - 128
            · have r2 : ¬ ((c0.toNat : Int) - 240) * 262144 + ((c1.toNat : Int) - 128) * 4096 + ((c2.toNat : Int) - 128) * 64 + (c3.toNat : Int) - 128 ≤ 1114111 := by omega
              simp only [t1, t2, t3, some_ite, prod_ite, ite_self, Option.bind_some, Option.bind_none, Bool.if_false_right, Bool.if_false_left, sumC_ite, sumC_inl, sumC_inr, decide_true, decide_false, if_true, if_false, Bool.and_true, Bool.true_and, Bool.and_false, Bool.false_and, Bool.false_eq_true, true_and, and_true, false_and, and_false, decide_eq_true_eq, r1, r2]
              rfl
            · simp only [t1, t2, t3, some_ite, prod_ite, ite_self, Option.bind_some, Option.bind_none, Bool.if_false_right, Bool.if_false_left, sumC_ite, sumC_inl, sumC_inr, decide_true, decide_false, if_true, if_false, Bool.and_true, Bool.true_and, Bool.and_false, Bool.false_and, Bool.false_eq_true, true_and, and_true, false_and, and_false, decide_eq_true_eq, r1]
              rfl
          · simp only [t1, t2, t3, some_ite, prod_ite, ite_self, Option.bind_some, Option.bind_none, Bool.if_false_right, Bool.if_false_left, sumC_ite, sumC_inl, sumC_inr, decide_true, decide_false, if_true, if_false, Bool.and_true, Bool.true_and, Bool.and_false, Bool.false_and, Bool.false_eq_true, true_and, and_true, false_and, and_false, decide_eq_true_eq, q1, q2, q3, q4, q5, q6, q7, q8, qa, qb]
            rfl
        · simp only [t1, t2, t3, some_ite, prod_ite, ite_self, Option.bind_some, Option.bind_none, Bool.if_false_right, Bool.if_false_left, sumC_ite, sumC_inl, sumC_inr, decide_true, decide_false, if_true, if_false, Bool.and_true, Bool.true_and, Bool.and_false, Bool.false_and, Bool.false_eq_true, true_and, and_true, false_and, and_false, decide_eq_true_eq, q1, q2, q3, q4, q5, q6, q7, qa, qb]
          rfl
      · simp only [t1, t2, t3, some_ite, prod_ite, ite_self, Option.bind_some, Option.bind_none, Bool.if_false_right, Bool.if_false_left, sumC_ite, sumC_inl, sumC_inr, decide_true, decide_false, if_true, if_false, Bool.and_true, Bool.true_and, Bool.and_false, Bool.false_and, Bool.false_eq_true, true_and, and_true, false_and, and_false, decide_eq_true_eq, q1, q2, q3, q4, q6, q7, qa, qb]
        rfl
    have qb : ¬ (c0.toNat : Int) < 245 := by omega
    simp only [t1, t2, t3, some_ite, prod_ite, ite_self, Option.bind_some, Option.bind_none, Bool.if_false_right, Bool.if_false_left, sumC_ite, sumC_inl, sumC_inr, decide_true, decide_false, if_true, if_false, Bool.and_true, Bool.true_and, Bool.and_false, Bool.false_and, Bool.false_eq_true, true_and, and_true, false_and, and_false, decide_eq_true_eq, q1, q2, q3, q6, q7, qa, qb]
    rfl
end Go.Vm
/- A sign's bytes as the document has them, plainly. No condition but on lengths. -/
namespace Go.Vm
open Go.Lib (decodeL decodeN decodeL_N decode_N decodeN_shape decodeL_le)
set_option linter.unusedVariables false
set_option linter.unusedSimpArgs false
end Go.Vm
/- JSON: the program's values are the plain ones. No condition but on lengths. -/
namespace Go.Vm
open Go.Lib (decodeL)
set_option linter.unusedVariables false
set_option linter.unusedSimpArgs false
theorem Tends.evt {α : Type} {m m' : Nat → Option α} {r : α} (N : Nat) (h : Tends m r) (e : ∀ F, N ≤ F → m' F = m F) : Tends m' r := by
  obtain ⟨M, h⟩ := h
  exact ⟨max N M, fun F hF => (e F (by omega)).trans (h F (by omega))⟩
/-! ### find -/
end Go.Vm
/- JSON: the program's forms are the plain ones. No condition but on lengths. -/
namespace Go.Vm
open Go.Lib (decodeL itoa)
set_option linter.unusedVariables false
set_option linter.unusedSimpArgs false
def jrest {α : Type} (f : α → By) (l : List α) : By := l.flatMap fun x => 44 :: f x
theorem join_cons {α : Type} (f : α → By) (x : α) : ∀ l : List α, joinB ((x :: l).map f) = f x ++ jrest f l
  | [] => by simp [joinB, jrest]
  | y :: l => by
    have := join_cons f y l
    simp only [List.map_cons, joinB, jrest, List.flatMap_cons, List.cons_append] at this ⊢
    rw [this]
end Go.Vm
/- JSON: the document's reader at its leaves is the plain one. No condition but on lengths. -/
namespace Go.Vm
open Go.Lib (decodeL decodeN decodeL_N decode_N decodeN_shape decodeL_le decDigits itoa)
set_option linter.unusedVariables false
set_option linter.unusedSimpArgs false
theorem nvB (c k : UInt8) : ((c.toNat : Int) = (k.toNat : Int)) = (c = k) := by
  apply propext
  constructor
  · intro hh; exact UInt8.toNat_inj.1 (by omega)
  · intro hh; rw [hh]
end Go.Vm
/- JSON: the document's strings, numbers, quotes, places are the plain ones. No condition but on lengths. -/
namespace Go.Vm
open Go.Lib (decodeL decodeN decodeL_N decode_N decodeN_shape decodeL_le decDigits itoa)
set_option linter.unusedVariables false
set_option linter.unusedSimpArgs false
/-! ### escapes -/
end Go.Vm
/- JSON: the document's numbers, quotes, places, ends are the plain ones. No condition but on lengths. -/
namespace Go.Vm
open Go.Lib (decodeL decodeN decodeL_N decode_N decodeN_shape decodeL_le decDigits itoa)
set_option linter.unusedVariables false
set_option linter.unusedSimpArgs false
/-! ### decimals -/
theorem digit_eq (F : Nat) (x : Nat) (hx : x < 10) : M_conciergeref09_digit F (x : Int) = some [UInt8.ofNat (48 + x)] := by
  unfold M_conciergeref09_digit
  rw [wrap64 _ (by omega) (by omega), wrapB8 _ (by omega) (by omega)]
  congr 3
where
  wrapB8 (n : Int) (h : 0 ≤ n) (h' : n ≤ 255) : IntKind.u8.wrap n = n := by
    simp only [IntKind.wrap, IntKind.bits, IntKind.signed]
    simp
    omega
theorem tmodN (u k : Nat) : (u : Int).tmod (k : Int) = ((u % k : Nat) : Int) := by rw [Int.ofNat_tmod]
theorem tdivN (u k : Nat) : (u : Int).tdiv (k : Int) = ((u / k : Nat) : Int) := by rw [Int.ofNat_tdiv]
def decR (u : Nat) : By := if u = 0 then [] else decDigits u
theorem decR_step {u : Nat} (h : u ≠ 0) : decR u = decR (u / 10) ++ [UInt8.ofNat (48 + u % 10)] := by
  unfold decR
  rw [if_neg h, decDigits]
  split
  · rename_i h10
    rw [if_pos (by omega), Nat.mod_eq_of_lt h10]; rfl
  · rename_i h10
    rw [if_neg (by omega)]
theorem dec_R (u : Nat) : decDigits u = decR (u / 10) ++ [UInt8.ofNat (48 + u % 10)] := by
  by_cases h : u = 0
  · subst h; rw [Go.Lib.decDigits_one (by decide)]; rfl
  · rw [← decR_step h]; unfold decR; rw [if_neg h]
theorem dec_loop (R : Nat → Int → Option By) : ∀ (n u : Nat) (out : By), u ≤ n → u < 1000000000000000000 → u + out.length ≤ 1000000000000000100 → TendsL (fun F => Mb_conciergeref09_Decimal_l0 F (R F)) ((u : Int), out, ()) (decR u ++ out, ()) := by
  intro n
  induction n with
  | zero =>
    intro u out hu h1 h2
    have : u = 0 := by omega
    subst this
    exact TendsL.fin (.of fun F => rfl)
  | succ n ih =>
    intro u out hu h1 h2
    by_cases h0 : u = 0
    · subst h0
      exact TendsL.fin (.of fun F => rfl)
    · have hp : (0 : Int) < (u : Int) := by omega
      refine TendsL.step (.of fun F => ?_) (y := (decR u ++ out, ())) ?_ (x' := (((u / 10 : Nat) : Int), UInt8.ofNat (48 + u % 10) :: out, ()))
      · unfold Mb_conciergeref09_Decimal_l0
        have e1 : (u : Int).tmod 10 = ((u % 10 : Nat) : Int) := tmodN u 10
        have e2 : (u : Int).tdiv 10 = ((u / 10 : Nat) : Int) := tdivN u 10
        simp only [hp, decide_true, if_true, e1, e2, digit_eq F (u % 10) (by omega), Option.bind_some]
        rw [if_pos (by rw [decide_eq_true_eq]; simp; omega), wrap64 _ (by omega) (by omega)]
        rfl
      · have := ih (u / 10) (UInt8.ofNat (48 + u % 10) :: out) (by omega) (by omega) (by simp; omega)
        rw [decR_step h0, List.append_assoc]
        exact this
theorem dec_pos (R : Nat → Int → Option By) (u : Nat) (h1 : u < 1000000000000000000) : Tends (fun F => Mb_conciergeref09_Decimal F (R F) (u : Int)) (decDigits u) := by
  unfold Mb_conciergeref09_Decimal
  refine Tends.neg (by simp) ?_
  have e1 : (u : Int).tmod 10 = ((u % 10 : Nat) : Int) := tmodN u 10
  have e2 : (u : Int).tdiv 10 = ((u / 10 : Nat) : Int) := tdivN u 10
  rw [e1, e2, wrap64 _ (by omega) (by omega)]
  refine Tends.bind (.of fun F => digit_eq F (u % 10) (by omega)) ?_
  refine Tends.bind (dec_loop R (u / 10) (u / 10) [UInt8.ofNat (48 + u % 10)] (Nat.le_refl _) (by omega) (by simp; omega)).run ?_
  rw [dec_R]
  exact .ret _
theorem decimal_t (n : Int) (hn : okN n) : Tends (fun F => M_conciergeref09_Decimal F n) (itoa n) := by
  obtain ⟨h1, h2⟩ := hn
  unfold itoa
  by_cases hneg : n < 0
  · rw [if_pos hneg]
    have hp := dec_pos (fun F => Mr_conciergeref09_Decimal F (F - 2)) n.natAbs (by omega)
    have hb : Tends (fun F => Mb_conciergeref09_Decimal F (Mr_conciergeref09_Decimal F (F - 1)) n) (45 :: decDigits n.natAbs) := by
      unfold Mb_conciergeref09_Decimal
      refine Tends.pos (by simpa using hneg) ?_
      rw [wrap64 _ (by omega) (by omega)]
      have e : 0 - n = (n.natAbs : Int) := by omega
      rw [e]
      refine Tends.bind (r := decDigits n.natAbs) (hp.evt 2 fun F hF => ?_) ?_
      · rw [show F - 1 = (F - 2) + 1 by omega]; rfl
      · refine Tends.pos ?_ (.ret _)
        rw [decide_eq_true_eq]
        have := (itoa_lenA n.natAbs (by omega))
        simp only [List.length_cons, List.length_nil]
        omega
    exact hb.evt 1 fun F hF => by
      unfold M_conciergeref09_Decimal
      rw [show Mr_conciergeref09_Decimal F F n = Mr_conciergeref09_Decimal F ((F - 1) + 1) n by rw [show F - 1 + 1 = F by omega]]
      rfl
  · rw [if_neg hneg]
    have hp := dec_pos (fun F => Mr_conciergeref09_Decimal F (F - 1)) n.toNat (by omega)
    rw [show ((n.toNat : Nat) : Int) = n by omega] at hp
    exact hp.evt 1 fun F hF => by
      unfold M_conciergeref09_Decimal
      rw [show Mr_conciergeref09_Decimal F F n = Mr_conciergeref09_Decimal F ((F - 1) + 1) n by rw [show F - 1 + 1 = F by omega]]
      rfl
where
  itoa_lenA (u : Nat) (h : u < 1000000000000000) : (decDigits u).length ≤ 15 := by
    rw [Go.Lib.decDigits_length]; exact nDigits_le 15 u (by decide) (by rw [p15]; exact h)
/-! ### numbers -/
abbrev V9 := Int × By × By × Int × List By × List By × Unit
def z9 : V9 := (0, [], [], 0, [], [], ())
end Go.Vm
/- JSON: the document's quotes, places, ends are the plain ones. No condition but on lengths. -/
namespace Go.Vm
open Go.Lib (decodeL decodeN decodeL_N decode_N decodeN_shape decodeL_le decDigits itoa)
set_option linter.unusedVariables false
set_option linter.unusedSimpArgs false
/-! ### quotes -/
end Go.Vm
/- JSON: the document's lists and objects are the plain ones. No condition but on lengths. -/
namespace Go.Vm
open Go.Lib (decodeL decDigits itoa)
set_option linter.unusedVariables false
set_option linter.unusedSimpArgs false
/-! ### what is told -/
end Go.Vm
/- JSON: the document's objects are the plain ones. No condition but on lengths. -/
namespace Go.Vm
open Go.Lib (decodeL decDigits itoa)
set_option linter.unusedVariables false
set_option linter.unusedSimpArgs false
end Go.Vm
/- JSON: the document's objects and values are the plain ones. No condition but on lengths. -/
namespace Go.Vm
open Go.Lib (decodeL decDigits itoa)
set_option linter.unusedVariables false
set_option linter.unusedSimpArgs false
end Go.Vm
/- JSON: the document's values are the plain ones. No condition but on lengths. -/
namespace Go.Vm
open Go.Lib (decodeL decDigits itoa)
set_option linter.unusedVariables false
set_option linter.unusedSimpArgs false
end Go.Vm
/- JSON: what the program tells of a text's parts, for those that ask it. No condition but on lengths. -/
namespace Go.Vm
open Go.Proofs
open Go.Lib (decodeL decDigits itoa)
set_option linter.unusedVariables false
set_option linter.unusedSimpArgs false
end Go.Vm
/- Phrases: what the program fills is the plain text. No condition but on lengths. -/
namespace Go.Vm
open Go.Lib (decodeL decodeN decodeL_N decode_N decodeN_shape decodeL_le)
set_option linter.unusedVariables false
set_option linter.unusedSimpArgs false
/-! ### values -/
abbrev EnT := Int × By × Int × Int × Int × Int × By × Int × Int × Int × By × By × By × By × Unit
abbrev EnT.key (e : EnT) : By := e.2.1
abbrev EnT.method (e : EnT) : By := e.2.2.2.2.2.2.2.2.2.2.2.1
abbrev EnT.path (e : EnT) : By := e.2.2.2.2.2.2.2.2.2.2.2.2.1
abbrev EnT.body (e : EnT) : By := e.2.2.2.2.2.2.2.2.2.2.2.2.2.1
end Go.Vm
/- The document's signs of a text, plainly. No condition but on lengths. -/
namespace Go.Vm
open Go.Lib (decodeL decodeN decodeL_N decode_N decodeN_shape decodeL_le)
set_option linter.unusedVariables false
set_option linter.unusedSimpArgs false
theorem signsLoop (s : List UInt8) (hs : s.length ≤ 1000000000000) (p : Nat) (hp : p ≤ s.length) (out at' : List Int) (ho : out.length + (s.length - p) ≤ 1000000000000) (ha : at'.length + (s.length - p) ≤ 1000000000000) :
    TendsL M_conciergeref04_Signs_l0 (s, (), (), (p : Int), out, at', ()) ((), (), out ++ (signs (s.drop p)).map (·.1), at' ++ ats p (signs (s.drop p)), ()) := by
  have main : ∀ n p out at', s.length - p ≤ n → p ≤ s.length → out.length + (s.length - p) ≤ 1000000000000 → at'.length + (s.length - p) ≤ 1000000000000 →
      TendsL M_conciergeref04_Signs_l0 (s, (), (), (p : Int), out, at', ()) ((), (), out ++ (signs (s.drop p)).map (·.1), at' ++ ats p (signs (s.drop p)), ()) := by
    intro n
    induction n with
    | zero =>
      intro p out at' hn hp ho ha
      have : p = s.length := by omega
      subst this
      refine TendsL.fin (Tends.of fun F => ?_)
      unfold M_conciergeref04_Signs_l0
      have h : ¬ ((s.length : Nat) : Int) < (s.length : Int) := by omega
      simp [h, signs_nil, ats]
    | succ n ih =>
      intro p out at' hn hp ho ha
      by_cases hlt : p < s.length
      · have hpos := decodeL_pos (s.drop p)
        have hnx := next_le hlt
        have h : (p : Int) < (s.length : Int) := by omega
        have e1 : ((out.length : Int) + 1) * 8 ≤ 140737488355328 := by omega
        have e2 : ((at'.length : Int) + 1) * 8 ≤ 140737488355328 := by omega
        rw [signs_cons (drop_ne hlt), drop_next]
        refine TendsL.step (x' := (s, (), (), ((p + (decodeL (s.drop p)).2 : Nat) : Int), out ++ [((decodeL (s.drop p)).1 : Int)], at' ++ [(p : Int)], ())) (Tends.of fun F => ?_) ?_
        · unfold M_conciergeref04_Signs_l0
          have e1' : (out.length + 1) * 8 ≤ 140737488355328 := by omega
          have e2' : (at'.length + 1) * 8 ≤ 140737488355328 := by omega
          simp only [h, decide_true, if_true, sub_to_end s p hp, Option.bind_some, first_eq F _ (drop_ne hlt), List.length_cons, List.length_nil, Nat.zero_add, e1', e2']
          rw [wrap64 _ (by omega) (by omega)]
          rfl
        · have := ih (p + (decodeL (s.drop p)).2) (out ++ [((decodeL (s.drop p)).1 : Int)]) (at' ++ [(p : Int)]) (by omega) hnx (by simp; omega) (by simp; omega)
          simpa [ats, take_len hlt] using this
      · have : p = s.length := by omega
        subst this
        refine TendsL.fin (Tends.of fun F => ?_)
        unfold M_conciergeref04_Signs_l0
        have h : ¬ ((s.length : Nat) : Int) < (s.length : Int) := by omega
        simp [h, signs_nil, ats]
  exact main _ p out at' (Nat.le_refl _) hp ho ha
theorem signs_tends (s : List UInt8) (hs : s.length ≤ 1000000000000) : Tends (fun F => M_conciergeref04_Signs F s) ((signs s).map (·.1), ats 0 (signs s)) := by
  unfold M_conciergeref04_Signs
  have := signsLoop s hs 0 (by omega) [] [] (by simp; omega) (by simp; omega)
  refine this.run.bind ?_
  exact Tends.of fun F => by simp
end Go.Vm
