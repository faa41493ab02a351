import Derived.Test.YtocgjbdimjlfhaaGreatDoorPj1
import Derived.Test.YtocgjbdimjlfhaaGreatDoorPu1
/- JSON, plainly: signs and their bytes; texts of right signs; what is printed is read. No condition. -/
namespace Go.Vm
open Go.Lib (decodeL decodeN decodeL_N decode_N decodeN_shape decodeL_le)
set_option linter.unusedVariables false
set_option linter.unusedSimpArgs false
instance (c : Nat) : Decidable (okR c) := by unfold okR; infer_instance
theorem dec_encN (c : Nat) (h : okR c) (r : By) : decodeL (encN c ++ r) = (c, (encN c).length) := by
  obtain ⟨h1, h2⟩ := h
  rw [decodeL_N]
  unfold encN
  by_cases c1 : c < 128
  · simp only [c1, if_true]
    have a0 : (UInt8.ofNat c).toNat = c := by simp; omega
    simp only [List.cons_append, List.nil_append, List.getD_cons_zero, List.length_cons, List.length_nil, a0]
    unfold decodeN
    rw [if_pos c1]
  by_cases c2 : c < 2048
  · simp only [c1, c2, if_true, if_false]
    have a0 : (UInt8.ofNat (192 + c / 64)).toNat = 192 + c / 64 := by simp; omega
    have a1 : (UInt8.ofNat (128 + c % 64)).toNat = 128 + c % 64 := by simp; omega
    simp only [List.cons_append, List.nil_append, List.getD_cons_zero, List.getD_cons_succ, List.length_cons, List.length_nil, a0, a1]
    unfold decodeN
    rw [if_neg (by omega), if_pos ⟨by omega, by omega, by omega⟩, if_pos (by omega)]
    congr 1
    omega
  by_cases c3 : c < 65536
  · simp only [c1, c2, c3, if_true, if_false]
    have a0 : (UInt8.ofNat (224 + c / 4096)).toNat = 224 + c / 4096 := by simp; omega
    have a1 : (UInt8.ofNat (128 + c / 64 % 64)).toNat = 128 + c / 64 % 64 := by simp; omega
    have a2 : (UInt8.ofNat (128 + c % 64)).toNat = 128 + c % 64 := by simp; omega
    simp only [List.cons_append, List.nil_append, List.getD_cons_zero, List.getD_cons_succ, List.length_cons, List.length_nil, a0, a1, a2]
    unfold decodeN
    rw [if_neg (by omega), if_neg (by omega), if_pos ⟨by omega, ⟨by omega, by omega⟩, by omega, by omega⟩, if_pos (by omega)]
    congr 1
    omega
  · simp only [c1, c2, c3, if_false]
    have a0 : (UInt8.ofNat (240 + c / 262144)).toNat = 240 + c / 262144 := by simp; omega
    have a1 : (UInt8.ofNat (128 + c / 4096 % 64)).toNat = 128 + c / 4096 % 64 := by simp; omega
    have a2 : (UInt8.ofNat (128 + c / 64 % 64)).toNat = 128 + c / 64 % 64 := by simp; omega
    have a3 : (UInt8.ofNat (128 + c % 64)).toNat = 128 + c % 64 := by simp; omega
    simp only [List.cons_append, List.nil_append, List.getD_cons_zero, List.getD_cons_succ, List.length_cons, List.length_nil, a0, a1, a2, a3]
    unfold decodeN
    rw [if_neg (by omega), if_neg (by omega), if_neg (by omega), if_pos ⟨by omega, ⟨by omega, by omega⟩, ⟨by omega, by omega⟩, by omega, by omega⟩, if_pos (by omega)]
    congr 1
    omega
theorem encR_N (c : Nat) (h : okR c) : Go.Lib.encodeRune (c : Int) = encN c := by
  obtain ⟨h1, h2⟩ := h
  unfold Go.Lib.encodeRune encN
  have q : ∀ z : Int, ∀ n : Nat, z = (n : Int) → z.toNat.toUInt8 = UInt8.ofNat n := by intro z n e; subst e; rfl
  by_cases c1 : c < 128
  · rw [if_pos c1, Go.Lib.encodeRuneZ_one (by omega) (by omega)]
    simp only [List.map_cons, List.map_nil]
    rw [q _ c rfl]
  by_cases c2 : c < 2048
  · rw [if_neg c1, if_pos c2, Go.Lib.encodeRuneZ_two (by omega) (by omega)]
    simp only [List.map_cons, List.map_nil]
    rw [q _ (192 + c / 64) (by omega), q _ (128 + c % 64) (by omega)]
  by_cases c3 : c < 65536
  · rw [if_neg c1, if_neg c2, if_pos c3, Go.Lib.encodeRuneZ_three (by omega)]
    simp only [List.map_cons, List.map_nil]
    rw [q _ (224 + c / 4096) (by omega), q _ (128 + c / 64 % 64) (by omega), q _ (128 + c % 64) (by omega)]
  · rw [if_neg c1, if_neg c2, if_neg c3, Go.Lib.encodeRuneZ_four (by omega) (by omega)]
    simp only [List.map_cons, List.map_nil]
    rw [q _ (240 + c / 262144) (by omega), q _ (128 + c / 4096 % 64) (by omega), q _ (128 + c / 64 % 64) (by omega), q _ (128 + c % 64) (by omega)]
theorem take_encN (l : By) (hne : l ≠ []) (hv : ¬ ((decodeL l).1 = 65533 ∧ (decodeL l).2 = 1)) : l.take (decodeL l).2 = encN (decodeL l).1 := by
  rw [← Go.Lib.encode_decode l hne hv, encR_N _ (rune_ok l)]
theorem encN_ne (c : Nat) : encN c ≠ [] := by unfold encN; repeat' split
                                              all_goals simp
theorem encN_pos (c : Nat) : 1 ≤ (encN c).length := by have := List.length_pos_iff.2 (encN_ne c); omega
inductive OkT : By → Prop
  | nil : OkT []
  | cons (c : Nat) (t : By) : okR c → OkT t → OkT (encN c ++ t)
theorem OkT.app {a b : By} (h : OkT a) (h' : OkT b) : OkT (a ++ b) := by
  induction h with
  | nil => exact h'
  | cons c t hc _ ih => rw [List.append_assoc]; exact .cons c _ hc ih
/-! ### what escapes tell is a sign -/
theorem hexD_lt {c : UInt8} {n : Nat} (h : hexD c = some n) : n < 16 := by
  unfold hexD at h
  repeat' split at h
  all_goals first | (cases h; done) | (cases h; omega)
theorem hexN_lt {s : By} {n : Nat} (h : hexN s = some n) : n < 65536 ∧ 4 ≤ s.length := by
  unfold hexN at h
  split at h
  · obtain ⟨a, ha, h⟩ := Option.bind_eq_some_iff.1 h
    obtain ⟨b, hb, h⟩ := Option.bind_eq_some_iff.1 h
    obtain ⟨c, hc, h⟩ := Option.bind_eq_some_iff.1 h
    obtain ⟨d, hd, h⟩ := Option.bind_eq_some_iff.1 h
    cases h
    have := hexD_lt ha; have := hexD_lt hb; have := hexD_lt hc; have := hexD_lt hd
    refine ⟨by omega, by simp⟩
  · cases h
theorem lowP_ok {n : Nat} {r : By} {c k : Nat} (h : lowP n r = some (c, k)) (h1 : ¬ (n < 55296 ∨ 57343 < n)) (h2 : ¬ 56320 ≤ n) : okR c ∧ k = 12 ∧ 6 ≤ r.length := by
  unfold lowP at h
  split at h
  · rename_i q
    obtain ⟨m, hm, h⟩ := Option.bind_eq_some_iff.1 h
    have h3 := hexN_lt hm
    by_cases hc : 56320 ≤ m ∧ m ≤ 57343
    · rw [if_pos hc] at h
      injection h with h
      injection h with h4 h5
      subst h5
      unfold pairN at h4
      unfold okR
      exact ⟨by omega, rfl, by simp; omega⟩
    · rw [if_neg hc] at h
      cases h
  · cases h
theorem uniP_ok {r : By} {c k : Nat} (h : uniP r = some (c, k)) : okR c ∧ (k = 6 ∧ c < 65536 ∨ k = 12) ∧ k ≤ r.length + 2 := by
  unfold uniP at h
  obtain ⟨n, hn, h⟩ := Option.bind_eq_some_iff.1 h
  have h1 := hexN_lt hn
  by_cases c1 : n < 55296 ∨ 57343 < n
  · rw [if_pos c1] at h
    injection h with h
    injection h with h2 h3
    subst h3
    unfold okR
    exact ⟨by omega, .inl ⟨rfl, by omega⟩, by omega⟩
  rw [if_neg c1] at h
  by_cases c2 : 56320 ≤ n
  · rw [if_pos c2] at h; cases h
  rw [if_neg c2] at h
  obtain ⟨q1, q2, q3⟩ := lowP_ok h c1 c2
  simp at q3
  exact ⟨q1, .inr q2, by omega⟩
theorem quoB_len (c : UInt8) : (quoB c).length ≤ 6 := by
  unfold quoB
  repeat' split
  all_goals simp
theorem quoB_big (n : Nat) (h : 128 ≤ n) (h' : n < 256) : quoB (UInt8.ofNat n) = [UInt8.ofNat n] := by
  have e : (UInt8.ofNat n).toNat = n := by simp; omega
  have ne : ∀ k : UInt8, k.toNat < 128 → UInt8.ofNat n ≠ k := by
    intro k hk hh
    rw [← hh, e] at hk
    omega
  unfold quoB
  rw [if_neg (by rintro (hh | hh) <;> exact ne _ (by decide) hh), if_neg (ne _ (by decide)), if_neg (ne _ (by decide)), if_neg (ne _ (by decide)), if_neg (ne _ (by decide)), if_neg (ne _ (by decide)), if_neg (by omega)]
theorem quoL_one (c : Nat) (h : c < 128) : quoL (encN c) = quoB (UInt8.ofNat c) := by
  unfold encN quoL
  rw [if_pos h]
  simp
theorem quoL_big (c : Nat) (h : ¬ c < 128) (h' : c ≤ 1114111) : quoL (encN c) = encN c := by
  unfold encN quoL
  rw [if_neg h]
  split
  · simp only [List.flatMap_cons, List.flatMap_nil]
    rw [quoB_big _ (by omega) (by omega), quoB_big _ (by omega) (by omega)]
    rfl
  split
  · simp only [List.flatMap_cons, List.flatMap_nil]
    rw [quoB_big _ (by omega) (by omega), quoB_big _ (by omega) (by omega), quoB_big _ (by omega) (by omega)]
    rfl
  · simp only [List.flatMap_cons, List.flatMap_nil]
    rw [quoB_big _ (by omega) (by omega), quoB_big _ (by omega) (by omega), quoB_big _ (by omega) (by omega), quoB_big _ (by omega) (by omega)]
    rfl
theorem quoL_enc' (c : Nat) (h : c ≤ 1114111) : (quoL (encN c)).length ≤ 6 := by
  by_cases h1 : c < 128
  · rw [quoL_one c h1]; exact quoB_len _
  · rw [quoL_big c h1 h]; have := encN_len c; omega
theorem escP_ok {s : By} {c k : Nat} (h : escP s = some (c, k)) : okR c ∧ 2 ≤ k ∧ k ≤ s.length + 1 ∧ (quoL (encN c)).length ≤ k := by
  unfold escP at h
  split at h
  · cases h
  · rename_i x r
    by_cases h1 : x = 34 ∨ x = 92 ∨ x = 47
    · rw [if_pos h1] at h
      cases h
      rcases h1 with rfl | rfl | rfl <;> exact ⟨by decide, by decide, by simp, by decide⟩
    rw [if_neg h1] at h
    by_cases h2 : x = 98
    · rw [if_pos h2] at h; cases h; exact ⟨by decide, by decide, by simp, by decide⟩
    rw [if_neg h2] at h
    by_cases h3 : x = 102
    · rw [if_pos h3] at h; cases h; exact ⟨by decide, by decide, by simp, by decide⟩
    rw [if_neg h3] at h
    by_cases h4 : x = 110
    · rw [if_pos h4] at h; cases h; exact ⟨by decide, by decide, by simp, by decide⟩
    rw [if_neg h4] at h
    by_cases h5 : x = 114
    · rw [if_pos h5] at h; cases h; exact ⟨by decide, by decide, by simp, by decide⟩
    rw [if_neg h5] at h
    by_cases h6 : x = 116
    · rw [if_pos h6] at h; cases h; exact ⟨by decide, by decide, by simp, by decide⟩
    rw [if_neg h6] at h
    by_cases h7 : x = 117
    · rw [if_pos h7] at h
      obtain ⟨q1, q2, q3⟩ := uniP_ok h
      have q4 := quoL_enc' c q1.1
      refine ⟨q1, by omega, by simp; omega, by omega⟩
    · rw [if_neg h7] at h; cases h
end Go.Vm
/- Phrases, plainly: names, gaps, pieces sign by sign and byte by byte. No condition. -/
namespace Go.Vm
open Go.Lib (decodeL decodeN decodeL_N decode_N decodeN_shape decodeL_le)
set_option linter.unusedVariables false
set_option linter.unusedSimpArgs false
def isNm (c : UInt8) : Bool := (decide (97 ≤ c.toNat) && decide (c.toNat ≤ 122)) || (decide (48 ≤ c.toNat) && decide (c.toNat ≤ 57))
def nmP (s : By) : Bool := s.all isNm && decide (1 ≤ s.length) && decide (s.length ≤ 12)
def gapN (s : By) : Nat := match s with
  | _ :: b :: r => if b = 37 ∨ b = 98 ∨ b = 107 ∨ b = 109 ∨ b = 112 then 2 else if b = 123 then
      (if (r.takeWhile (fun c => c != 125)).length < r.length ∧ nmP (r.takeWhile (fun c => c != 125)) = true then (r.takeWhile (fun c => c != 125)).length + 3 else 0) else 0
  | _ => 0
theorem gapN_le (s : By) : gapN s ≤ s.length := by
  unfold gapN
  split
  · rename_i a b r
    split
    · simp
    · split
      · split
        · rename_i h
          simp only [List.length_cons]
          omega
        · omega
      · omega
  · omega
theorem gapN_one (s : By) : gapN s ≠ 1 := by
  unfold gapN
  split
  · split
    · decide
    · split
      · split <;> omega
      · decide
  · decide
def plainB (b : UInt8) : Prop := 33 ≤ b.toNat ∧ b.toNat ≤ 126
theorem take_more (a : By) (x : UInt8) (t : By) : (a ++ x :: t).take (a.length + 1) = a ++ [x] := by
  rw [List.take_append, List.take_of_length_le (by omega), show a.length + 1 - a.length = 1 by omega]
  rfl
theorem gapN_bytes (r : By) : ∀ b ∈ (37 :: r : By).take (gapN (37 :: r)), plainB b := by
  unfold gapN
  split
  · rename_i a c q heq
    injection heq with h1 h2
    subst h1; subst h2
    split
    · rename_i hc
      intro b hb
      simp only [List.take_succ_cons, List.take_zero] at hb
      rcases List.mem_cons.1 hb with rfl | hb
      · exact ⟨by decide, by decide⟩
      · rw [List.mem_singleton] at hb
        subst hb
        rcases hc with rfl | rfl | rfl | rfl | rfl <;> exact ⟨by decide, by decide⟩
    · split
      · rename_i hb123
        subst hb123
        split
        · rename_i hk
          obtain ⟨hk, hnm⟩ := hk
          intro b hb
          have hdec : q = q.takeWhile (fun c => c != 125) ++ q.dropWhile (fun c => c != 125) := (List.takeWhile_append_dropWhile ..).symm
          have hne : q.dropWhile (fun c => c != 125) ≠ [] := by
            intro hh
            rw [hh, List.append_nil] at hdec
            have := congrArg List.length hdec
            omega
          obtain ⟨x, t, hx⟩ := List.exists_cons_of_ne_nil hne
          have hx125 : x = 125 := by
            have := List.head_dropWhile_not (fun c => c != 125) hne
            simp only [hx, List.head_cons] at this
            simpa using this
          have htk : (37 :: 123 :: q : By).take ((q.takeWhile (fun c => c != 125)).length + 3) = 37 :: 123 :: (q.takeWhile (fun c => c != 125) ++ [x]) := by
            rw [show (q.takeWhile (fun c => c != 125)).length + 3 = ((q.takeWhile (fun c => c != 125)).length + 1) + 1 + 1 by omega, List.take_succ_cons, List.take_succ_cons]
            congr 2
            exact (congrArg (List.take _) (hdec.trans (by rw [hx]))).trans (take_more _ _ _)
          rw [htk] at hb
          unfold nmP at hnm
          simp only [Bool.and_eq_true] at hnm
          rcases List.mem_cons.1 hb with rfl | hb
          · exact ⟨by decide, by decide⟩
          rcases List.mem_cons.1 hb with rfl | hb
          · exact ⟨by decide, by decide⟩
          rcases List.mem_append.1 hb with hb | hb
          · have := List.all_eq_true.1 hnm.1.1 b hb
            simp [isNm] at this
            unfold plainB
            omega
          · rw [List.mem_singleton] at hb
            subst hb
            subst hx125
            exact ⟨by decide, by decide⟩
        · intro b hb; rw [List.take_zero] at hb; cases hb
      · intro b hb; rw [List.take_zero] at hb; cases hb
  · intro b hb; rw [List.take_zero] at hb; cases hb
end Go.Vm
