import Derived.Test.YtocgjbdimjlfhaaGreatDoorFref4
import Derived.Test.YtocgjbdimjlfhaaGreatDoorPg1
import Derived.Test.YtocgjbdimjlfhaaGreatDoorFbld
import Derived.Test.YtocgjbdimjlfhaaGreatDoorFjrd
import Derived.Test.YtocgjbdimjlfhaaGreatDoorFjnum
import Derived.Test.YtocgjbdimjlfhaaGreatDoorFphr
/- Sorts of signs, plainly. No condition. -/
namespace Go.Vm
set_option linter.unusedVariables false
set_option linter.unusedSimpArgs false
theorem among_eq (F : Nat) (r a b c : Int) : M_sign_among F (r, a, b, c) = some (decide (a ≤ r ∧ r ≤ b ∧ r ≠ c)) := by
  unfold M_sign_among
  simp only [bind_ite, Option.bind_some, decide_eq_true_eq]
  repeat' split
  all_goals (rw [Option.some.injEq, Bool.eq_iff_iff]; simp only [Bool.not_eq_true', decide_eq_true_eq, decide_eq_false_iff_not, Bool.false_eq_true, true_iff, false_iff]; first | omega | (simp_all; done))
theorem valid_eq (F : Nat) (r : Int) : M_unicode_utf8_ValidRune F r = some (decide (0 ≤ r ∧ (r < 55296 ∨ 57343 < r) ∧ r ≤ 1114111)) := by
  unfold M_unicode_utf8_ValidRune
  simp only [bind_ite, Option.bind_some, decide_eq_true_eq, Bool.false_eq_true, if_false]
  repeat' split
  all_goals (rw [Option.some.injEq, Bool.eq_iff_iff]; simp only [Bool.not_eq_true', decide_eq_true_eq, decide_eq_false_iff_not, Bool.false_eq_true, true_iff, false_iff]; omega)
theorem control_eq (F : Nat) (r : Int) : M_sign_control F r = some (decide (r < 32 ∨ (127 ≤ r ∧ r ≤ 159) ∨ r = 65533 ∨ (55296 ≤ r ∧ r ≤ 57343) ∨ 1114111 < r)) := by
  unfold M_sign_control
  simp only [among_eq, valid_eq, bind_ite, Option.bind_some, decide_eq_true_eq, decide_eq_false_iff_not, Bool.true_eq_false, if_false]
  repeat' split
  all_goals (rw [Option.some.injEq, Bool.eq_iff_iff]; simp only [Bool.not_eq_true', decide_eq_true_eq, decide_eq_false_iff_not, Bool.false_eq_true, true_iff, false_iff]; omega)
theorem blank_eq (F : Nat) (r : Int) : M_sign_blank F r = some (decide (r = 32 ∨ r = 160 ∨ (8192 ≤ r ∧ r ≤ 8202) ∨ r = 12288)) := by
  unfold M_sign_blank
  simp only [among_eq, valid_eq, bind_ite, Option.bind_some, decide_eq_true_eq, decide_eq_false_iff_not, Bool.true_eq_false, if_false]
  repeat' split
  all_goals (rw [Option.some.injEq, Bool.eq_iff_iff]; simp only [Bool.not_eq_true', decide_eq_true_eq, decide_eq_false_iff_not, Bool.false_eq_true, true_iff, false_iff]; omega)
theorem letter_eq (F : Nat) (r : Int) : M_sign_letter F r = some (decide ((65 ≤ r ∧ r ≤ 90) ∨ (97 ≤ r ∧ r ≤ 122) ∨ (192 ≤ r ∧ r ≤ 591 ∧ r ≠ 215 ∧ r ≠ 247) ∨ (913 ≤ r ∧ r ≤ 969 ∧ r ≠ 930))) := by
  unfold M_sign_letter
  simp only [among_eq, some_ite, prod_ite, ite_self, Option.bind_some, Bool.if_true_right, Bool.if_true_left, Bool.if_false_left, Bool.if_false_right, Option.some.injEq]
  rw [Bool.eq_iff_iff]
  simp
  omega
def sortI (n : Int) : Int :=
  if n < 32 ∨ (127 ≤ n ∧ n ≤ 159) ∨ n = 65533 ∨ (55296 ≤ n ∧ n ≤ 57343) ∨ 1114111 < n then 0
  else if n = 32 ∨ n = 160 ∨ (8192 ≤ n ∧ n ≤ 8202) ∨ n = 12288 then 1
  else if 48 ≤ n ∧ n ≤ 57 then 2
  else if (65 ≤ n ∧ n ≤ 90) ∨ (97 ≤ n ∧ n ≤ 122) ∨ (192 ≤ n ∧ n ≤ 591 ∧ n ≠ 215 ∧ n ≠ 247) ∨ (913 ≤ n ∧ n ≤ 969 ∧ n ≠ 930) then 3 else 4
theorem sort_eq (F : Nat) (r : Int) : M_sign_Sort F r = some (sortI r) := by
  unfold M_sign_Sort sortI
  simp only [control_eq, blank_eq, among_eq, letter_eq, Option.bind_some, decide_eq_true_eq]
  repeat' split
  all_goals first | rfl | omega
theorem refSort_eq (F : Nat) (n : Int) : M_conciergeref04_Sort F n = some (sortI n) := by
  unfold M_conciergeref04_Sort sortI
  simp only [some_ite, prod_ite, ite_self, Option.bind_some, Option.some.injEq]
  simp only [Bool.if_true_right, Bool.if_true_left, Bool.if_false_left, Bool.if_false_right, Bool.and_eq_true, Bool.or_eq_true, Bool.not_eq_true', decide_eq_true_eq, decide_eq_false_iff_not]
  simp
  repeat' split
  all_goals first | rfl | omega
end Go.Vm
/- Phrases, plainly: names, gaps, pieces sign by sign and byte by byte. No condition. -/
namespace Go.Vm
open Go.Lib (decodeL decodeN decodeL_N decode_N decodeN_shape decodeL_le)
set_option linter.unusedVariables false
set_option linter.unusedSimpArgs false
def isNm (c : UInt8) : Bool := (decide (97 ≤ c.toNat) && decide (c.toNat ≤ 122)) || (decide (48 ≤ c.toNat) && decide (c.toNat ≤ 57))
def nmP (s : By) : Bool := s.all isNm && decide (1 ≤ s.length) && decide (s.length ≤ 12)
def gapN (s : By) : Nat := match s with
  | _ :: b :: r => if b = 37 ∨ b = 98 ∨ b = 107 ∨ b = 109 ∨ b = 112 then 2 else if b = 123 then
      (if (r.takeWhile (fun c => c != 125)).length < r.length ∧ nmP (r.takeWhile (fun c => c != 125)) = true then (r.takeWhile (fun c => c != 125)).length + 3 else 0) else 0
  | _ => 0
theorem gapN_le (s : By) : gapN s ≤ s.length := by
  unfold gapN
  split
  · rename_i a b r
    split
    · simp
    · split
      · split
        · rename_i h
          simp only [List.length_cons]
          omega
        · omega
      · omega
  · omega
theorem gapN_one (s : By) : gapN s ≠ 1 := by
  unfold gapN
  split
  · split
    · decide
    · split
      · split <;> omega
      · decide
  · decide
def plnB (b : UInt8) : Prop := 33 ≤ b.toNat ∧ b.toNat ≤ 126
theorem take_more (a : By) (x : UInt8) (t : By) : (a ++ x :: t).take (a.length + 1) = a ++ [x] := by
  rw [List.take_append, List.take_of_length_le (by omega), show a.length + 1 - a.length = 1 by omega]
  rfl
theorem gapN_bytes (r : By) : ∀ b ∈ (37 :: r : By).take (gapN (37 :: r)), plnB b := by
  unfold gapN
  split
  · rename_i a c q heq
    injection heq with h1 h2
    subst h1; subst h2
    split
    · rename_i hc
      intro b hb
      simp only [List.take_succ_cons, List.take_zero] at hb
      rcases List.mem_cons.1 hb with rfl | hb
      · exact ⟨by decide, by decide⟩
      · rw [List.mem_singleton] at hb
        subst hb
        rcases hc with rfl | rfl | rfl | rfl | rfl <;> exact ⟨by decide, by decide⟩
    · split
      · rename_i hb123
        subst hb123
        split
        · rename_i hk
          obtain ⟨hk, hnm⟩ := hk
          intro b hb
          have hdec : q = q.takeWhile (fun c => c != 125) ++ q.dropWhile (fun c => c != 125) := (List.takeWhile_append_dropWhile ..).symm
          have hne : q.dropWhile (fun c => c != 125) ≠ [] := by
            intro hh
            rw [hh, List.append_nil] at hdec
            have := congrArg List.length hdec
            omega
          obtain ⟨x, t, hx⟩ := List.exists_cons_of_ne_nil hne
          have hx125 : x = 125 := by
            have := List.head_dropWhile_not (fun c => c != 125) hne
            simp only [hx, List.head_cons] at this
            simpa using this
          have htk : (37 :: 123 :: q : By).take ((q.takeWhile (fun c => c != 125)).length + 3) = 37 :: 123 :: (q.takeWhile (fun c => c != 125) ++ [x]) := by
            rw [show (q.takeWhile (fun c => c != 125)).length + 3 = ((q.takeWhile (fun c => c != 125)).length + 1) + 1 + 1 by omega, List.take_succ_cons, List.take_succ_cons]
            congr 2
            exact (congrArg (List.take _) (hdec.trans (by rw [hx]))).trans (take_more _ _ _)
          rw [htk] at hb
          unfold nmP at hnm
          simp only [Bool.and_eq_true] at hnm
          rcases List.mem_cons.1 hb with rfl | hb
          · exact ⟨by decide, by decide⟩
          rcases List.mem_cons.1 hb with rfl | hb
          · exact ⟨by decide, by decide⟩
          rcases List.mem_append.1 hb with hb | hb
          · have := List.all_eq_true.1 hnm.1.1 b hb
            simp [isNm] at this
            unfold plnB
            omega
          · rw [List.mem_singleton] at hb
            subst hb
            subst hx125
            exact ⟨by decide, by decide⟩
        · intro b hb; rw [List.take_zero] at hb; cases hb
      · intro b hb; rw [List.take_zero] at hb; cases hb
  · intro b hb; rw [List.take_zero] at hb; cases hb
end Go.Vm
/- Phrases, plainly: pieces sign by sign are the pieces byte by byte. No condition. -/
namespace Go.Vm
open Go.Lib (decodeL decodeN decodeL_N decode_N decodeN_shape decodeL_le)
set_option linter.unusedVariables false
set_option linter.unusedSimpArgs false
abbrev Pc := Bool × List UInt8 × Unit
def cutF : Nat → By → Option (List Pc)
  | 0, _ => some []
  | n + 1, s => match s with
    | [] => some []
    | c :: r => if sortI ((decodeL s).1 : Int) = 0 then none else if c = 37 then (if gapN s = 0 then none else (cutF n (s.drop (gapN s))).map fun l => (true, s.take (gapN s), ()) :: l)
      else (cutF n (s.drop (decodeL s).2)).map fun l => (false, s.take (decodeL s).2, ()) :: l
def tokF : Nat → By → Option (List Pc)
  | 0, _ => some []
  | n + 1, s => match s with
    | [] => some []
    | c :: r => if c = 37 then (if gapN s = 0 then none else (tokF n (s.drop (gapN s))).map fun l => (true, s.take (gapN s), ()) :: l)
      else (tokF n r).map fun l => (false, [c], ()) :: l
def cutP (s : By) : Option (List Pc) := cutF s.length s
def tokP (s : By) : Option (List Pc) := tokF s.length s
def allS (s : By) : Bool := (signs s).all fun x => decide (sortI x.1 ≠ 0)
def gapsL (l : List Pc) : List By := (l.filter (·.1)).map (·.2.1)
def flatL (val : By → By) (l : List Pc) : By := l.flatMap fun p => if p.1 = true then val p.2.1 else p.2.1
theorem cutF_fuel : ∀ (n m : Nat) (s : By), s.length ≤ n → s.length ≤ m → cutF n s = cutF m s
  | 0, 0, s, h, h' => rfl
  | 0, m + 1, s, h, h' => by
    obtain rfl : s = [] := List.length_eq_zero_iff.1 (by omega)
    rfl
  | n + 1, 0, s, h, h' => by
    obtain rfl : s = [] := List.length_eq_zero_iff.1 (by omega)
    rfl
  | n + 1, m + 1, s, h, h' => by
    cases s with
    | nil => rfl
    | cons c r =>
      have hp := decodeL_pos (c :: r)
      simp only [List.length_cons] at h h'
      unfold cutF
      simp only
      split
      · rfl
      split
      · split
        · rfl
        · rename_i hg
          have h1 := gapN_one (c :: r)
          rw [cutF_fuel n m ((c :: r).drop (gapN (c :: r))) (by simp; omega) (by simp; omega)]
      · rw [cutF_fuel n m ((c :: r).drop (decodeL (c :: r)).2) (by simp; omega) (by simp; omega)]
theorem tokF_fuel : ∀ (n m : Nat) (s : By), s.length ≤ n → s.length ≤ m → tokF n s = tokF m s
  | 0, 0, s, h, h' => rfl
  | 0, m + 1, s, h, h' => by
    obtain rfl : s = [] := List.length_eq_zero_iff.1 (by omega)
    rfl
  | n + 1, 0, s, h, h' => by
    obtain rfl : s = [] := List.length_eq_zero_iff.1 (by omega)
    rfl
  | n + 1, m + 1, s, h, h' => by
    cases s with
    | nil => rfl
    | cons c r =>
      simp only [List.length_cons] at h h'
      unfold tokF
      simp only
      split
      · split
        · rfl
        · rename_i hg
          have h1 := gapN_one (c :: r)
          rw [tokF_fuel n m ((c :: r).drop (gapN (c :: r))) (by simp; omega) (by simp; omega)]
      · rw [tokF_fuel n m r (by omega) (by omega)]
theorem cutP_nil : cutP [] = some [] := rfl
theorem tokP_nil : tokP [] = some [] := rfl
theorem cutP_cons (c : UInt8) (r : By) : cutP (c :: r) = if sortI ((decodeL (c :: r)).1 : Int) = 0 then none else if c = 37 then (if gapN (c :: r) = 0 then none else (cutP ((c :: r).drop (gapN (c :: r)))).map fun l => (true, (c :: r).take (gapN (c :: r)), ()) :: l)
      else (cutP ((c :: r).drop (decodeL (c :: r)).2)).map fun l => (false, (c :: r).take (decodeL (c :: r)).2, ()) :: l := by
  have hp := decodeL_pos (c :: r)
  have h1 := gapN_one (c :: r)
  show cutF (r.length + 1) (c :: r) = _
  unfold cutF cutP
  simp only
  split
  · rfl
  split
  · split
    · rfl
    · rename_i hg
      rw [cutF_fuel r.length _ ((c :: r).drop (gapN (c :: r))) (by simp; omega) (Nat.le_refl _)]
  · rw [cutF_fuel r.length _ ((c :: r).drop (decodeL (c :: r)).2) (by simp; omega) (Nat.le_refl _)]
theorem tokP_cons (c : UInt8) (r : By) : tokP (c :: r) = if c = 37 then (if gapN (c :: r) = 0 then none else (tokP ((c :: r).drop (gapN (c :: r)))).map fun l => (true, (c :: r).take (gapN (c :: r)), ()) :: l)
      else (tokP r).map fun l => (false, [c], ()) :: l := by
  have h1 := gapN_one (c :: r)
  show tokF (r.length + 1) (c :: r) = _
  unfold tokF tokP
  simp only
  split
  · split
    · rfl
    · rename_i hg
      rw [tokF_fuel r.length _ ((c :: r).drop (gapN (c :: r))) (by simp; omega) (Nat.le_refl _)]
  · rfl
/-! ### signs of one byte -/
theorem dec_one (c : UInt8) (h : c.toNat < 128) (r : By) : decodeL (c :: r) = (c.toNat, 1) := by
  have := dec_encN c.toNat (by unfold okR; omega) r
  have e : encN c.toNat = [c] := by unfold encN; rw [if_pos h]; simp
  rw [e] at this
  exact this
theorem allS_nil : allS [] = true := by unfold allS; rw [signs_nil]; rfl
theorem allS_cons {s : By} (h : s ≠ []) : allS s = (decide (sortI ((decodeL s).1 : Int) ≠ 0) && allS (s.drop (decodeL s).2)) := by
  unfold allS
  rw [signs_cons h]
  rfl
theorem sort_plain {b : UInt8} (h : plnB b) : sortI (b.toNat : Int) ≠ 0 := by
  obtain ⟨h1, h2⟩ := h
  unfold sortI
  rw [if_neg (by omega)]
  repeat' split
  all_goals decide
theorem allS_plain (n : Nat) : ∀ s : By, (∀ b ∈ s.take n, plnB b) → allS s = allS (s.drop n) := by
  induction n with
  | zero => intro s h; rfl
  | succ n ih =>
    intro s h
    cases s with
    | nil => rfl
    | cons c r =>
      have hc : plnB c := h c (by simp)
      have hlt : c.toNat < 128 := by have := hc.2; omega
      rw [allS_cons (by simp), dec_one c hlt, List.drop_succ_cons]
      simp only [List.drop_succ_cons, List.drop_zero]
      rw [decide_eq_true (sort_plain hc), Bool.true_and]
      exact ih r fun b hb => h b (by simp only [List.take_succ_cons]; exact List.mem_cons_of_mem _ hb)
theorem sign_no37 (c : UInt8) (r : By) (hs : sortI ((decodeL (c :: r)).1 : Int) ≠ 0) (hc : c ≠ 37) : ∀ b ∈ (c :: r).take (decodeL (c :: r)).2, b ≠ 37 := by
  by_cases h : c.toNat < 128
  · rw [dec_one c h]
    intro b hb
    simp only [List.take_succ_cons, List.take_zero, List.mem_singleton] at hb
    subst hb
    exact hc
  · have hb : ¬ ((decodeL (c :: r)).1 = 65533 ∧ (decodeL (c :: r)).2 = 1) := by
      rintro ⟨h1, _⟩
      rw [h1] at hs
      exact hs (by decide)
    rw [take_encN (c :: r) (by simp) hb]
    have hok := rune_ok (c :: r)
    have hbig : ¬ (decodeL (c :: r)).1 < 128 := by
      intro hlt
      have ht := take_encN (c :: r) (by simp) hb
      have e : encN (decodeL (c :: r)).1 = [UInt8.ofNat (decodeL (c :: r)).1] := by unfold encN; rw [if_pos hlt]
      rw [e] at ht
      have hp := decodeL_pos (c :: r)
      obtain ⟨k, hk⟩ : ∃ k, (decodeL (c :: r)).2 = k + 1 := ⟨(decodeL (c :: r)).2 - 1, by omega⟩
      rw [hk, List.take_succ_cons] at ht
      injection ht with h1 _
      rw [h1] at h
      simp at h
      omega
    generalize (decodeL (c :: r)).1 = D at hok hbig
    obtain ⟨o1, o2⟩ := hok
    have ne : ∀ k : Nat, 128 ≤ k → k < 256 → UInt8.ofNat k ≠ 37 := by
      intro k h1 h2 hh
      have := congrArg UInt8.toNat hh
      have e : (UInt8.ofNat k).toNat = k := by simp; omega
      rw [e] at this
      have : (37 : UInt8).toNat = 37 := rfl
      omega
    intro b hb
    unfold encN at hb
    rw [if_neg hbig] at hb
    split at hb
    · simp only [List.mem_cons, List.not_mem_nil, or_false] at hb
      rcases hb with rfl | rfl <;> exact ne _ (by omega) (by omega)
    split at hb
    · simp only [List.mem_cons, List.not_mem_nil, or_false] at hb
      rcases hb with rfl | rfl | rfl <;> exact ne _ (by omega) (by omega)
    · simp only [List.mem_cons, List.not_mem_nil, or_false] at hb
      rcases hb with rfl | rfl | rfl | rfl <;> exact ne _ (by omega) (by omega)
theorem tok_skip (n : Nat) : ∀ s : By, n ≤ s.length → (∀ b ∈ s.take n, b ≠ 37) → tokP s = (tokP (s.drop n)).map fun l => ((s.take n).map fun b => ((false, [b], ()) : Pc)) ++ l := by
  induction n with
  | zero =>
    intro s h hb
    rw [List.take_zero, List.drop_zero]
    cases tokP s <;> rfl
  | succ n ih =>
    intro s h hb
    cases s with
    | nil => simp at h
    | cons c r =>
      rw [tokP_cons, if_neg (hb c (by simp)), ih r (by simpa using h) (fun b hb' => hb b (by simp only [List.take_succ_cons]; exact List.mem_cons_of_mem _ hb'))]
      rw [List.drop_succ_cons, List.take_succ_cons]
      cases tokP (r.drop n) <;> rfl
theorem flat_bytes (val : By → By) (l : By) (m : List Pc) : flatL val ((l.map fun b => ((false, [b], ()) : Pc)) ++ m) = l ++ flatL val m := by
  unfold flatL
  rw [List.flatMap_append]
  congr 1
  induction l with
  | nil => rfl
  | cons c l ih =>
    rw [List.map_cons, List.flatMap_cons, ih]
    rfl
theorem gaps_bytes (l : By) (m : List Pc) : gapsL ((l.map fun b => ((false, [b], ()) : Pc)) ++ m) = gapsL m := by
  unfold gapsL
  rw [List.filter_append]
  have : (l.map fun b => ((false, [b], ()) : Pc)).filter (·.1) = [] := by
    rw [List.filter_eq_nil_iff]
    intro x hx
    obtain ⟨b, _, rfl⟩ := List.mem_map.1 hx
    exact Bool.false_ne_true
  rw [this]
  rfl
theorem cut_tok : ∀ (n : Nat) (s : By), s.length ≤ n → match cutP s with
    | some l => allS s = true ∧ ∃ m, tokP s = some m ∧ gapsL l = gapsL m ∧ ∀ val, flatL val l = flatL val m
    | none => allS s = false ∨ tokP s = none
  | 0, s, h => by
    obtain rfl : s = [] := List.length_eq_zero_iff.1 (by omega)
    exact ⟨allS_nil, [], rfl, rfl, fun _ => rfl⟩
  | n + 1, s, h => by
    cases s with
    | nil => exact ⟨allS_nil, [], rfl, rfl, fun _ => rfl⟩
    | cons c r =>
      have hp := decodeL_pos (c :: r)
      have hle := decodeL_le (c :: r) (by simp)
      simp only [List.length_cons] at h
      rw [cutP_cons]
      by_cases hs : sortI ((decodeL (c :: r)).1 : Int) = 0
      · rw [if_pos hs]
        refine .inl ?_
        rw [allS_cons (by simp), decide_eq_false (fun hh => hh hs), Bool.false_and]
      rw [if_neg hs]
      by_cases hc : c = 37
      · subst hc
        rw [if_pos rfl, tokP_cons, if_pos rfl]
        by_cases hg : gapN (37 :: r) = 0
        · rw [if_pos hg, if_pos hg]
          exact .inr rfl
        · rw [if_neg hg, if_neg hg]
          have ih := cut_tok n ((37 :: r : By).drop (gapN (37 :: r))) (by rw [List.length_drop, List.length_cons]; omega)
          rw [allS_plain _ _ (gapN_bytes r)]
          cases hx : cutP ((37 :: r : By).drop (gapN (37 :: r))) with
          | none =>
            rw [hx] at ih
            refine ih.imp id fun h => ?_
            rw [h]
            rfl
          | some l =>
            rw [hx] at ih
            obtain ⟨i1, m, i2, i3, i4⟩ := ih
            refine ⟨i1, _, by rw [i2]; rfl, ?_, fun val => ?_⟩
            · unfold gapsL at i3 ⊢
              simp only [List.filter_cons, if_true, List.map_cons]
              rw [i3]
            · unfold flatL at i4 ⊢
              rw [List.flatMap_cons, List.flatMap_cons, i4 val]
      · rw [if_neg hc]
        have ih := cut_tok n ((c :: r).drop (decodeL (c :: r)).2) (by rw [List.length_drop, List.length_cons]; omega)
        have hsk := tok_skip (decodeL (c :: r)).2 (c :: r) hle (sign_no37 c r hs hc)
        rw [allS_cons (by simp), decide_eq_true hs, Bool.true_and]
        cases hx : cutP ((c :: r).drop (decodeL (c :: r)).2) with
        | none =>
          rw [hx] at ih
          refine ih.imp id fun h => ?_
          rw [hsk, h]
          rfl
        | some l =>
          rw [hx] at ih
          obtain ⟨i1, m, i2, i3, i4⟩ := ih
          refine ⟨i1, _, by rw [hsk, i2]; rfl, ?_, fun val => ?_⟩
          · rw [gaps_bytes, ← i3]
            rfl
          · rw [flat_bytes, ← i4 val]
            rfl
end Go.Vm
/- A sign written by strings.Builder, plainly. No condition but on lengths. -/
namespace Go.Vm
open Go.Lib (decodeL decodeN decodeL_N decode_N decodeN_shape decodeL_le)
set_option linter.unusedVariables false
set_option linter.unusedSimpArgs false
end Go.Vm
/- JSON, plainly: values. What is printed is read. No condition. -/
namespace Go.Vm
open Go.Lib (itoa)
set_option linter.unusedVariables false
set_option linter.unusedSimpArgs false
end Go.Vm
/- JSON, plainly: what is read may be, and is printed in no more bytes. No condition. -/
namespace Go.Vm
open Go.Lib (itoa)
set_option linter.unusedVariables false
set_option linter.unusedSimpArgs false
end Go.Vm
/- JSON: the program's reader at its leaves is the plain one. No condition but on lengths. -/
namespace Go.Vm
open Go.Lib (decodeL decodeN decodeL_N decode_N decodeN_shape decodeL_le)
set_option linter.unusedVariables false
set_option linter.unusedSimpArgs false
abbrev RS := By × Int × Int × Int × Unit
def st (s r : By) (k e : Int) : RS := (s, ((s.length - r.length : Nat) : Int), k, e, ())
def hd (r : By) : Int := match r with
  | [] => 0
  | c :: _ => (c.toNat : Int)
theorem idx_at {α : Type} (l : List α) (k : Nat) (x : α) (h : l[k]? = some x) : idx l (k : Int) = some x := by
  unfold idx
  rw [if_pos (by omega), Int.toNat_natCast, h]
end Go.Vm
/- JSON: the program's strings and numbers are the plain ones. No condition but on lengths. -/
namespace Go.Vm
open Go.Lib (decodeL decodeN decodeL_N decode_N decodeN_shape decodeL_le decNat decFrom digitVal atoi)
set_option linter.unusedVariables false
set_option linter.unusedSimpArgs false
/-! ### what escapes are made of -/
theorem runeLen_N (F c : Nat) (h : okR c) : M_unicode_utf8_RuneLen F (c : Int) = some ((encN c).length : Int) := by
  obtain ⟨h1, h2⟩ := h
  have gen : ∀ (A B C D E : Int) (n : Int), (if decide (n < 0) = true then some (-1) else if decide (n ≤ A) = true then some 1 else if decide (n ≤ B) = true then some 2 else (if decide (C ≤ n) = true then some (n, decide (n ≤ D), ()) else some (n, false, ()) : Option (Int × Bool × Unit)).bind fun v0 => if v0.2.1 = true then some (-1) else if decide (v0.1 ≤ E) = true then some 3 else if decide (v0.1 ≤ 1114111) = true then some 4 else some (-1 : Int)) =
      if n < 0 then some (-1) else if n ≤ A then some 1 else if n ≤ B then some 2 else if C ≤ n ∧ n ≤ D then some (-1) else if n ≤ E then some 3 else if n ≤ 1114111 then some 4 else some (-1) := by
    intro A B C D E n
    by_cases q1 : n < 0 <;> by_cases q2 : n ≤ A <;> by_cases q3 : n ≤ B <;> by_cases q4 : C ≤ n <;> by_cases q5 : n ≤ D <;> by_cases q6 : n ≤ E <;> simp only [q1, q2, q3, q4, q5, q6, decide_true, decide_false, if_true, if_false, Bool.false_eq_true, Option.bind_some, and_self, and_true, and_false, false_and, true_and, decide_eq_true_eq]
  refine (gen 127 2047 55296 57343 65535 (c : Int)).trans ?_
  rw [if_neg (by omega)]
  unfold encN
  by_cases c1 : c < 128
  · rw [if_pos (by omega), if_pos c1]; rfl
  rw [if_neg (by omega), if_neg c1]
  by_cases c2 : c < 2048
  · rw [if_pos (by omega), if_pos c2]; rfl
  rw [if_neg (by omega), if_neg c2, if_neg (by omega)]
  by_cases c3 : c < 65536
  · rw [if_pos (by omega), if_pos c3]; rfl
  rw [if_neg (by omega), if_neg c3, if_pos (by omega)]; rfl
end Go.Vm
/- Phrases: the program's names, gaps, pieces are the plain ones. No condition but on lengths. -/
namespace Go.Vm
open Go.Lib (decodeL decodeN decodeL_N decode_N decodeN_shape decodeL_le)
set_option linter.unusedVariables false
set_option linter.unusedSimpArgs false
/-! ### names -/
theorem dw_nil (p : UInt8 → Bool) : ∀ l : By, l.dropWhile p = [] ↔ ∀ x ∈ l, p x = true
  | [] => by simp
  | c :: l => by
    by_cases h : p c = true
    · rw [List.dropWhile_cons_of_pos h, dw_nil p l]
      simp [h]
    · rw [List.dropWhile_cons_of_neg h]
      simp [h]
theorem trimS_nil (l cs : By) : Go.Lib.trimS l cs = [] ↔ l.all (fun c => cs.contains c) = true := by
  unfold Go.Lib.trimS Go.Lib.trimLeftS Go.Lib.trimRightS
  rw [List.all_eq_true]
  constructor
  · intro h
    rw [dw_nil] at h
    have hn : l.reverse.dropWhile (fun c => cs.contains c) = [] := by
      cases hx : l.reverse.dropWhile (fun c => cs.contains c) with
      | nil => rfl
      | cons y t =>
        have hne : l.reverse.dropWhile (fun c => cs.contains c) ≠ [] := by rw [hx]; simp
        have h1 := List.head_dropWhile_not (fun c => cs.contains c) hne
        simp only [hx, List.head_cons] at h1
        have h2 := h y (by rw [hx]; simp)
        rw [h1] at h2
        cases h2
    rw [dw_nil] at hn
    intro x hx
    exact hn x (by simpa using hx)
  · intro h
    have : l.reverse.dropWhile (fun c => cs.contains c) = [] := by
      rw [dw_nil]
      intro x hx
      exact h x (by simpa using hx)
    rw [this]
    rfl
abbrev nmS : By := [97, 98, 99, 100, 101, 102, 103, 104, 105, 106, 107, 108, 109, 110, 111, 112, 113, 114, 115, 116, 117, 118, 119, 120, 121, 122, 48, 49, 50, 51, 52, 53, 54, 55, 56, 57]
theorem nm_tab : ∀ c : Fin 256, nmS.contains (UInt8.ofNat c.val) = isNm (UInt8.ofNat c.val) := by decide +kernel
theorem nm_at (c : UInt8) : nmS.contains c = isNm c := by
  have := nm_tab ⟨c.toNat, c.toNat_lt⟩
  simpa using this
theorem name_eq (F : Nat) (x : By) : M_phrase_Name F x = some (nmP x) := by
  unfold M_phrase_Name nmP
  by_cases h0 : x = []
  · subst h0; rfl
  · have hpos := List.length_pos_iff.2 h0
    rw [decide_eq_false h0]
    by_cases h12 : x.length ≤ 12
    · have h12' : (x.length : Int) ≤ 12 := by omega
      have ht : M_strings_Trim F (x, nmS) = some (Go.Lib.trimS x nmS) := by
        unfold M_strings_Trim MTrim
        rw [if_pos (by rw [decide_eq_true_eq]; simp only; omega), if_pos (by show decide (nmS.length ≤ 4294967280) = true; decide), if_pos (by show (nmS.all fun b => decide (b.toNat < 128)) = true; decide)]
      simp only [Bool.not_false, if_true, decide_eq_true h12', Option.bind_some, ht]
      rw [decide_eq_true (show 1 ≤ x.length from hpos), decide_eq_true h12, Bool.and_true, Bool.and_true]
      congr 1
      rw [Bool.eq_iff_iff, decide_eq_true_eq, trimS_nil]
      have : (fun c => nmS.contains c) = isNm := funext nm_at
      rw [this]
    · have h12' : ¬ (x.length : Int) ≤ 12 := by omega
      simp only [Bool.not_false, if_true, decide_eq_false h12', Option.bind_some, Bool.false_eq_true, if_false, decide_eq_false h12, Bool.and_false]
/-! ### gaps -/
theorem gap_tab : ∀ c : Fin 256, (M_strings_IndexByte 0 (([37, 98, 107, 109, 112] : By), ((c.val : Nat) : Int))).map (fun i => decide (0 ≤ i)) = some (decide (UInt8.ofNat c.val = 37 ∨ UInt8.ofNat c.val = 98 ∨ UInt8.ofNat c.val = 107 ∨ UInt8.ofNat c.val = 109 ∨ UInt8.ofNat c.val = 112)) := by decide +kernel
theorem gap_at (F : Nat) (c : UInt8) : ∃ i, M_strings_IndexByte F (([37, 98, 107, 109, 112] : By), (c.toNat : Int)) = some i ∧ decide (0 ≤ i) = decide (c = 37 ∨ c = 98 ∨ c = 107 ∨ c = 109 ∨ c = 112) := by
  have h := gap_tab ⟨c.toNat, c.toNat_lt⟩
  have h' : (M_strings_IndexByte F (([37, 98, 107, 109, 112] : By), (c.toNat : Int))).map (fun i => decide (0 ≤ i)) = _ := h
  obtain ⟨i, h1, h2⟩ := Option.map_eq_some_iff.1 h'
  refine ⟨i, h1, ?_⟩
  rw [h2]
  simp
theorem idx125 : ∀ q : By, Go.Lib.indexByte q 125 = if (q.takeWhile (fun c => c != 125)).length < q.length then ((q.takeWhile (fun c => c != 125)).length : Int) else -1
  | [] => rfl
  | c :: q => by
    have ih := idx125 q
    unfold Go.Lib.indexByte
    by_cases hc : c = 125
    · subst hc
      rw [if_pos (by decide), List.takeWhile_cons_of_neg (by decide), if_pos (by simp)]
      rfl
    · rw [if_neg (by simpa using hc), List.takeWhile_cons_of_pos (by simpa using hc), List.length_cons, List.length_cons]
      by_cases hl : (q.takeWhile (fun c => c != 125)).length < q.length
      · have e : Go.Lib.indexByte q 125 = ((q.takeWhile (fun c => c != 125)).length : Int) := by rw [ih, if_pos hl]
        rw [e, if_neg (by simp), if_pos (by omega)]
        rfl
      · have e : Go.Lib.indexByte q 125 = -1 := by rw [ih, if_neg hl]
        rw [e, if_pos (by decide), if_neg (by omega)]
theorem byte125 (F : Nat) (x : By) : M_strings_IndexByte F (x, 125) = some (Go.Lib.indexByte x 125) := rfl
theorem gap_eq (F : Nat) (r : By) (hr : r.length ≤ 1000) : M_phrase_gap F (37 :: r) = some ((37 :: r : By).take (gapN (37 :: r))) := by
  unfold M_phrase_gap
  cases r with
  | nil => rfl
  | cons b q =>
    have h2 : ¬ (((37 :: b :: q : By).length : Nat) : Int) < 2 := by simp; omega
    have hi : idx (37 :: b :: q : By) 1 = some b := idx_at _ 1 _ rfl
    obtain ⟨i, g1, g2⟩ := gap_at F b
    rw [if_neg (by rw [decide_eq_true_eq]; exact h2), hi, Option.bind_some, g1, Option.bind_some, g2]
    unfold gapN
    simp only
    by_cases hc : b = 37 ∨ b = 98 ∨ b = 107 ∨ b = 109 ∨ b = 112
    · rw [if_pos (decide_eq_true hc), if_pos hc]
      have hs := sub_nat (37 :: b :: q : By) 0 2 (by decide) (by simp)
      have hs' : sub (37 :: b :: q : By) 0 2 = some ((37 :: b :: q : By).take 2) := hs
      rw [hs', Option.bind_some]
    · rw [if_neg (by rw [decide_eq_true_eq]; exact hc), if_neg hc]
      have n123 := nv b 123
      rw [show ((123 : UInt8).toNat : Int) = 123 from rfl] at n123
      simp only [byte125, Option.bind_some, n123]
      by_cases hb : b = 123
      · subst hb
        have e : Go.Lib.indexByte (37 :: 123 :: q) 125 = if (q.takeWhile (fun c => c != 125)).length < q.length then (((q.takeWhile (fun c => c != 125)).length + 2 : Nat) : Int) else -1 := by
          rw [idx125, List.takeWhile_cons_of_pos (by decide), List.takeWhile_cons_of_pos (by decide)]
          simp only [List.length_cons]
          by_cases hl : (q.takeWhile (fun c => c != 125)).length < q.length
          · rw [if_pos hl, if_pos (by omega)]
          · rw [if_neg hl, if_neg (by omega)]
        rw [e]
        rw [if_pos rfl]
        by_cases hl : (q.takeWhile (fun c => c != 125)).length < q.length
        · rw [if_pos hl]
          have hneg : ¬ (((q.takeWhile (fun c => c != 125)).length + 2 : Nat) : Int) < 0 := by omega
          have hs : sub (37 :: 123 :: q : By) 2 (((q.takeWhile (fun c => c != 125)).length + 2 : Nat) : Int) = some (q.takeWhile (fun c => c != 125)) := by
            have := sub_nat (37 :: 123 :: q : By) 2 ((q.takeWhile (fun c => c != 125)).length + 2) (by omega) (by simp; omega)
            refine (this : _ = _).trans ?_
            rw [show (37 :: 123 :: q : By).drop 2 = q from rfl, Nat.add_sub_cancel]
            congr 1
            conv => rhs; rw [← List.take_length (l := q.takeWhile (fun c => c != 125))]
            exact (congrArg (List.take _) (List.takeWhile_append_dropWhile (p := fun c => c != 125) (l := q)).symm).trans (List.take_append_of_le_length (Nat.le_refl _))
          simp only [decide_true, Bool.not_true, if_true, decide_eq_false hneg, Option.bind_some, hs, name_eq]
          by_cases hn : nmP (q.takeWhile (fun c => c != 125)) = true
          · have hg : (if (q.takeWhile (fun c => c != 125)).length < q.length ∧ nmP (q.takeWhile (fun c => c != 125)) = true then (q.takeWhile (fun c => c != 125)).length + 3 else 0) = (q.takeWhile (fun c => c != 125)).length + 3 := if_pos ⟨hl, hn⟩
            rw [hg, hn]
            have hs2 : sub (37 :: 123 :: q : By) 0 (IntKind.i64.wrap ((((q.takeWhile (fun c => c != 125)).length + 2 : Nat) : Int) + 1)) = some ((37 :: 123 :: q : By).take ((q.takeWhile (fun c => c != 125)).length + 3)) := by
              have h3 : IntKind.i64.wrap ((((q.takeWhile (fun c => c != 125)).length + 2 : Nat) : Int) + 1) = (((q.takeWhile (fun c => c != 125)).length + 3 : Nat) : Int) := by
                simp only [List.length_cons] at hr
                rw [wrap64 _ (by omega) (by omega)]
                omega
              rw [h3]
              have := sub_nat (37 :: 123 :: q : By) 0 ((q.takeWhile (fun c => c != 125)).length + 3) (by omega) (by simp; omega)
              rw [List.drop_zero, Nat.sub_zero] at this
              exact this
            simp only [Bool.not_true, Bool.false_eq_true, if_false, hs2, Option.bind_some]
          · have hn' : nmP (q.takeWhile (fun c => c != 125)) = false := by simpa using hn
            have hg : (if (q.takeWhile (fun c => c != 125)).length < q.length ∧ nmP (q.takeWhile (fun c => c != 125)) = true then (q.takeWhile (fun c => c != 125)).length + 3 else 0) = 0 := if_neg (fun hh => hn hh.2)
            rw [hg, hn']
            rfl
        · have hg : (if (q.takeWhile (fun c => c != 125)).length < q.length ∧ nmP (q.takeWhile (fun c => c != 125)) = true then (q.takeWhile (fun c => c != 125)).length + 3 else 0) = 0 := if_neg (fun hh => hl hh.1)
          rw [hg, if_neg hl]
          rfl
      · rw [if_neg hb, decide_eq_false hb]
        rfl
where
  nv (c k : UInt8) : ((c.toNat : Int) = (k.toNat : Int)) = (c = k) := by
    apply propext
    constructor
    · intro hh; exact UInt8.toNat_inj.1 (by omega)
    · intro hh; rw [hh]
/-! ### pieces -/
abbrev CS := By × Unit × Int × Unit × (By × Nat) × List Pc × Unit
def cS (s : By) (b : Int) (p : Nat) (out : List Pc) : CS := (s, (), b, (), (s, p), out, ())
theorem cut_skip (F : Nat) (s : By) (b : Int) (p : Nat) (out : List Pc) (h : p < s.length) (hb : (p : Int) < b) : M_phrase_cut_l0 F (cS s b p out) = some (.inl (cS s b (p + runeLen s p) out)) := by
  unfold M_phrase_cut_l0 cS
  rw [if_pos (by rw [decide_eq_true_eq]; exact h), if_pos (by rw [decide_eq_true_eq]; exact hb)]
theorem cut_skips (s : By) (out : List Pc) (y : Unit × List Pc × Unit ⊕ Unit × Bool × List Pc × Unit) : ∀ (n p : Nat), p + n ≤ s.length → (∀ b ∈ (s.drop p).take n, plnB b) → TendsL M_phrase_cut_l0 (cS s ((p + n : Nat) : Int) (p + n) out) y → TendsL M_phrase_cut_l0 (cS s ((p + n : Nat) : Int) p out) y
  | 0, p, h, hb, hy => hy
  | n + 1, p, h, hb, hy => by
    have hp : p < s.length := by omega
    have hd : s.drop p = s[p] :: s.drop (p + 1) := List.drop_eq_getElem_cons hp
    have hpl : plnB s[p] := hb s[p] (by rw [hd, List.take_succ_cons]; exact List.mem_cons_self ..)
    have hrl : runeLen s p = 1 := by rw [runeLen_eq, hd, dec_one _ (by have := hpl.2; omega)]
    have e : p + (n + 1) = p + 1 + n := by omega
    rw [e] at hy ⊢
    refine TendsL.step (.of fun F => cut_skip F s _ p out hp (by omega)) ?_
    rw [hrl]
    exact cut_skips s out y n (p + 1) (by omega) (fun b hb' => hb b (by rw [hd, List.take_succ_cons]; exact List.mem_cons_of_mem _ hb')) hy
def cutR (out : List Pc) (x : Option (List Pc)) : Unit × List Pc × Unit ⊕ Unit × Bool × List Pc × Unit := match x with
  | some l => .inl ((), out ++ l, ())
  | none => .inr ((), false, [], ())
theorem cut_loop (s : By) (hs : s.length ≤ 1000) : ∀ (n p : Nat) (b : Int) (out : List Pc), p ≤ s.length → s.length - p ≤ n → b ≤ (p : Int) → out.length + (s.length - p) ≤ 1000 → TendsL M_phrase_cut_l0 (cS s b p out) (cutR out (cutP (s.drop p))) := by
  intro n
  induction n with
  | zero =>
    intro p b out hp hn hb ho
    rw [List.drop_eq_nil_of_le (by omega), cutP_nil]
    refine TendsL.fin (.of fun F => ?_)
    unfold M_phrase_cut_l0 cS
    rw [if_neg (by rw [decide_eq_true_eq]; simp only; omega)]
    show _ = some (Sum.inr (Sum.inl ((), out ++ [], ())))
    rw [List.append_nil]
  | succ n ih =>
    intro p b out hp hn hb ho
    by_cases hlt : p < s.length
    case neg =>
      rw [List.drop_eq_nil_of_le (by omega), cutP_nil]
      refine TendsL.fin (.of fun F => ?_)
      unfold M_phrase_cut_l0 cS
      rw [if_neg (by rw [decide_eq_true_eq]; exact hlt)]
      show _ = some (Sum.inr (Sum.inl ((), out ++ [], ())))
      rw [List.append_nil]
    have hd : s.drop p = s[p] :: s.drop (p + 1) := List.drop_eq_getElem_cons hlt
    have hra := runeAt_eq s p
    have hrl := runeLen_eq s p
    have hnb : ¬ (p : Int) < b := by omega
    have hlen : (s.drop p).length = s.length - p := List.length_drop
    rw [hd] at hra hrl hlen ⊢
    rw [cutP_cons]
    generalize hr : s.drop (p + 1) = r at *
    generalize hc : s[p] = c at *
    have hle := decodeL_le (c :: r) (by simp)
    have hpos := decodeL_pos (c :: r)
    have hok := rune_ok (c :: r)
    by_cases hs0 : sortI ((decodeL (c :: r)).1 : Int) = 0
    · rw [if_pos hs0]
      refine TendsL.fin (.of fun F => ?_)
      unfold M_phrase_cut_l0 cS
      rw [if_pos (by rw [decide_eq_true_eq]; exact hlt), if_neg (by rw [decide_eq_true_eq]; exact hnb)]
      simp only [hra, sort_eq, Option.bind_some, hs0]
      rfl
    rw [if_neg hs0]
    have hbad : ¬ ((decodeL (c :: r)).1 = 65533 ∧ (decodeL (c :: r)).2 = 1) := by
      rintro ⟨h1, _⟩
      rw [h1] at hs0
      exact hs0 (by decide)
    have hten := take_encN (c :: r) (by simp) hbad
    have hel : (encN (decodeL (c :: r)).1).length = (decodeL (c :: r)).2 := by rw [← hten, List.length_take]; omega
    have hrn := fun F => runeLen_N F _ hok
    have hsub : ∀ m : Nat, m ≤ (c :: r : By).length → sub s (p : Int) (IntKind.i64.wrap ((p : Int) + (m : Int))) = some ((c :: r).take m) := by
      intro m hm
      have hw : IntKind.i64.wrap ((p : Int) + (m : Int)) = ((p + m : Nat) : Int) := by rw [wrap64 _ (by omega) (by omega)]; omega
      rw [hw, sub_nat s p (p + m) (by omega) (by omega), hd, Nat.add_sub_cancel_left]
    have hsub1 := hsub (decodeL (c :: r)).2 hle
    have hpm : p + (decodeL (c :: r)).2 ≤ s.length := by omega
    have hdd : ∀ m, (c :: r : By).drop m = s.drop (p + m) := by
      intro m
      rw [← List.drop_drop, hd]
    by_cases h37 : c = 37
    · rw [if_pos h37]
      subst h37
      have hd1 : decodeL (37 :: r) = (37, 1) := dec_one 37 (by decide) r
      have hse : sub s (p : Int) (s.length : Int) = some (37 :: r) := by rw [sub_to_end s p (by omega), hd]
      have hgp := fun F => gap_eq F r (by simp only [List.length_cons] at hlen; omega)
      have hgle := gapN_le (37 :: r)
      have hra' : runeAt s p = 37 := by rw [hra, hd1]; rfl
      have hrl' : runeLen s p = 1 := by rw [hrl, hd1]
      have hs37 : decide (sortI 37 = 0) = false := by decide
      have hrn37 : ∀ F, M_unicode_utf8_RuneLen F 37 = some 1 := fun F => rfl
      have hsub37 : sub s (p : Int) (IntKind.i64.wrap ((p : Int) + 1)) = some [37] := hsub 1 (by simp)
      by_cases hg : gapN (37 :: r) = 0
      · rw [if_pos hg]
        refine TendsL.fin (.of fun F => ?_)
        have hgp' := hgp F
        rw [hg, List.take_zero] at hgp'
        unfold M_phrase_cut_l0 cS
        rw [if_pos (by rw [decide_eq_true_eq]; exact hlt), if_neg (by rw [decide_eq_true_eq]; exact hnb)]
        simp only [hra', hrl', sort_eq, Option.bind_some, hs37, Bool.false_eq_true, if_false, hrn37, hsub37, decide_true, if_true, hse, hgp']
        rfl
      · rw [if_neg hg]
        have hgl : ((37 :: r : By).take (gapN (37 :: r))).length = gapN (37 :: r) := by rw [List.length_take]; omega
        have hgne : ¬ (37 :: r : By).take (gapN (37 :: r)) = [] := by
          intro hh
          rw [hh] at hgl
          exact hg hgl.symm
        have hw : IntKind.i64.wrap ((p : Int) + (gapN (37 :: r) : Int)) = ((p + gapN (37 :: r) : Nat) : Int) := by rw [wrap64 _ (by omega) (by omega)]; omega
        have h1 := gapN_one (37 :: r)
        refine TendsL.step (x' := cS s ((p + gapN (37 :: r) : Nat) : Int) (p + 1) (out ++ [(true, (37 :: r : By).take (gapN (37 :: r)), ())])) (.of fun F => ?_) ?_
        · unfold M_phrase_cut_l0 cS
          rw [if_pos (by rw [decide_eq_true_eq]; exact hlt), if_neg (by rw [decide_eq_true_eq]; exact hnb)]
          simp only [hra', hrl', sort_eq, Option.bind_some, hs37, Bool.false_eq_true, if_false, hrn37, hsub37, decide_true, if_true, hse, hgp F, decide_eq_false hgne, sumC_inl, hgl, hw]
          rw [if_pos (by rw [decide_eq_true_eq]; simp only [List.length_singleton]; omega)]
        · have hsk := cut_skips s (out ++ [(true, (37 :: r : By).take (gapN (37 :: r)), ())]) (cutR out ((cutP ((37 :: r : By).drop (gapN (37 :: r)))).map fun l => (true, (37 :: r : By).take (gapN (37 :: r)), ()) :: l)) (gapN (37 :: r) - 1) (p + 1) (by omega) ?_ ?_
          · rw [show p + 1 + (gapN (37 :: r) - 1) = p + gapN (37 :: r) by omega] at hsk
            exact hsk
          · intro b hb'
            refine gapN_bytes r b ?_
            rw [hr] at hb'
            obtain ⟨k, hk⟩ : ∃ k, gapN (37 :: r) = k + 1 := ⟨gapN (37 :: r) - 1, by omega⟩
            rw [hk] at hb' ⊢
            rw [List.take_succ_cons]
            exact List.mem_cons_of_mem _ hb'
          · rw [show p + 1 + (gapN (37 :: r) - 1) = p + gapN (37 :: r) by omega]
            have := ih (p + gapN (37 :: r)) ((p + gapN (37 :: r) : Nat) : Int) (out ++ [(true, (37 :: r : By).take (gapN (37 :: r)), ())]) (by omega) (by omega) (by omega) (by rw [List.length_append, List.length_singleton]; omega)
            rw [← hdd] at this
            cases hx : cutP ((37 :: r : By).drop (gapN (37 :: r))) with
            | none => rw [hx] at this; exact this
            | some l =>
              rw [hx] at this
              unfold cutR at this ⊢
              simp only [Option.map_some] at this ⊢
              rw [List.append_assoc] at this
              exact this
    · rw [if_neg h37]
      have hn37 : ¬ ((decodeL (c :: r)).1 : Int) = 37 := by
        intro hh
        have h1 : (decodeL (c :: r)).1 = 37 := by omega
        rw [h1] at hten
        have e : encN 37 = [37] := rfl
        obtain ⟨k, hk⟩ : ∃ k, (decodeL (c :: r)).2 = k + 1 := ⟨(decodeL (c :: r)).2 - 1, by omega⟩
        rw [e, hk, List.take_succ_cons] at hten
        injection hten with h2 _
        exact h37 h2
      have htl : ((c :: r).take (decodeL (c :: r)).2).length = (decodeL (c :: r)).2 := by rw [List.length_take]; omega
      have hw : IntKind.i64.wrap ((p : Int) + ((decodeL (c :: r)).2 : Int)) = ((p + (decodeL (c :: r)).2 : Nat) : Int) := by rw [wrap64 _ (by omega) (by omega)]; omega
      rw [hw] at hsub1
      refine TendsL.step (x' := cS s ((p + (decodeL (c :: r)).2 : Nat) : Int) (p + (decodeL (c :: r)).2) (out ++ [(false, (c :: r).take (decodeL (c :: r)).2, ())])) (.of fun F => ?_) ?_
      · unfold M_phrase_cut_l0 cS
        rw [if_pos (by rw [decide_eq_true_eq]; exact hlt), if_neg (by rw [decide_eq_true_eq]; exact hnb)]
        simp only [hra, hrl, sort_eq, Option.bind_some, decide_eq_false hs0, Bool.false_eq_true, if_false, hrn F, hel, hsub1, decide_eq_false hn37, sumC_inl, htl, hw]
        rw [if_pos (by rw [decide_eq_true_eq]; simp only [List.length_singleton]; omega)]
      · have := ih (p + (decodeL (c :: r)).2) ((p + (decodeL (c :: r)).2 : Nat) : Int) (out ++ [(false, (c :: r).take (decodeL (c :: r)).2, ())]) hpm (by omega) (by omega) (by rw [List.length_append, List.length_singleton]; omega)
        rw [← hdd] at this
        cases hx : cutP ((c :: r).drop (decodeL (c :: r)).2) with
        | none => rw [hx] at this; exact this
        | some l =>
          rw [hx] at this
          unfold cutR at this ⊢
          simp only [Option.map_some] at this ⊢
          rw [List.append_assoc] at this
          exact this
def cutT (s : By) : List Pc × Bool := if 60 < s.length then ([], false) else match cutP s with
  | some l => (l, true)
  | none => ([], false)
theorem cut_t (s : By) (hs : s.length ≤ 1000) : Tends (fun F => M_phrase_cut F s) (cutT s) := by
  unfold M_phrase_cut cutT
  by_cases h6 : 60 < s.length
  · rw [if_pos h6]
    exact Tends.pos (by rw [decide_eq_true_eq]; omega) (.ret _)
  · rw [if_neg h6]
    refine Tends.neg (by rw [decide_eq_true_eq]; omega) ?_
    have h := cut_loop s hs s.length 0 0 [] (by omega) (by omega) (by decide) (by simp; omega)
    rw [List.drop_zero] at h
    refine Tends.bind h.run ?_
    cases cutP s with
    | none => exact .of fun F => rfl
    | some l => exact .of fun F => rfl
end Go.Vm
