/- Phrases, plainly: pieces sign by sign are the pieces byte by byte. No condition. -/
import Derived.Test.YtihpjgcbmipdbaaGreatDoorPh1
namespace Go.Vm
open Go.Lib (decodeL decodeN decodeL_N decode_N decodeN_shape decodeL_le)
set_option linter.unusedVariables false
set_option linter.unusedSimpArgs false
abbrev Pc := Bool × List UInt8 × Unit
def cutF : Nat → By → Option (List Pc)
 | 0, _ => some []
 | n + 1, s => match s with
  | [] => some []
  | c :: r => if sortI ((decodeL s).1 : Int) = 0 then none else if c = 37 then (if gapN s = 0 then none else (cutF n (s.drop (gapN s))).map fun l => (true, s.take (gapN s), ()) :: l)
   else (cutF n (s.drop (decodeL s).2)).map fun l => (false, s.take (decodeL s).2, ()) :: l
def tokF : Nat → By → Option (List Pc)
 | 0, _ => some []
 | n + 1, s => match s with
  | [] => some []
  | c :: r => if c = 37 then (if gapN s = 0 then none else (tokF n (s.drop (gapN s))).map fun l => (true, s.take (gapN s), ()) :: l)
   else (tokF n r).map fun l => (false, [c], ()) :: l
def cutP (s : By) : Option (List Pc) := cutF s.length s
def tokP (s : By) : Option (List Pc) := tokF s.length s
def allS (s : By) : Bool := (signs s).all fun x => decide (sortI x.1 ≠ 0)
def gapsL (l : List Pc) : List By := (l.filter (·.1)).map (·.2.1)
def flatL (val : By → By) (l : List Pc) : By := l.flatMap fun p => if p.1 = true then val p.2.1 else p.2.1
theorem cutF_fuel : ∀ (n m : Nat) (s : By), s.length ≤ n → s.length ≤ m → cutF n s = cutF m s
 | 0, 0, s, h, h' => rfl
 | 0, m + 1, s, h, h' => by
  obtain rfl : s = [] := List.length_eq_zero_iff.1 (by omega)
  rfl
 | n + 1, 0, s, h, h' => by
  obtain rfl : s = [] := List.length_eq_zero_iff.1 (by omega)
  rfl
 | n + 1, m + 1, s, h, h' => by
  cases s with
  | nil => rfl
  | cons c r =>
   have hp := decodeL_pos (c :: r)
   simp only [List.length_cons] at h h'
   unfold cutF
   simp only
   split
   ·rfl
   split
   ·split
    ·rfl
    ·rename_i hg
     have h1 := gapN_one (c :: r)
     rw [cutF_fuel n m ((c :: r).drop (gapN (c :: r))) (by simp; omega) (by simp; omega)]
   ·rw [cutF_fuel n m ((c :: r).drop (decodeL (c :: r)).2) (by simp; omega) (by simp; omega)]
theorem tokF_fuel : ∀ (n m : Nat) (s : By), s.length ≤ n → s.length ≤ m → tokF n s = tokF m s
 | 0, 0, s, h, h' => rfl
 | 0, m + 1, s, h, h' => by
  obtain rfl : s = [] := List.length_eq_zero_iff.1 (by omega)
  rfl
 | n + 1, 0, s, h, h' => by
  obtain rfl : s = [] := List.length_eq_zero_iff.1 (by omega)
  rfl
 | n + 1, m + 1, s, h, h' => by
  cases s with
  | nil => rfl
  | cons c r =>
   simp only [List.length_cons] at h h'
   unfold tokF
   simp only
   split
   ·split
    ·rfl
    ·rename_i hg
     have h1 := gapN_one (c :: r)
     rw [tokF_fuel n m ((c :: r).drop (gapN (c :: r))) (by simp; omega) (by simp; omega)]
   ·rw [tokF_fuel n m r (by omega) (by omega)]
theorem cutP_nil : cutP [] = some [] := rfl
theorem tokP_nil : tokP [] = some [] := rfl
theorem cutP_cons (c : UInt8) (r : By) : cutP (c :: r) = if sortI ((decodeL (c :: r)).1 : Int) = 0 then none else if c = 37 then (if gapN (c :: r) = 0 then none else (cutP ((c :: r).drop (gapN (c :: r)))).map fun l => (true, (c :: r).take (gapN (c :: r)), ()) :: l)
   else (cutP ((c :: r).drop (decodeL (c :: r)).2)).map fun l => (false, (c :: r).take (decodeL (c :: r)).2, ()) :: l := by
 have hp := decodeL_pos (c :: r)
 have h1 := gapN_one (c :: r)
 show cutF (r.length + 1) (c :: r) = _
 unfold cutF cutP
 simp only
 split
 ·rfl
 split
 ·split
  ·rfl
  ·rename_i hg
   rw [cutF_fuel r.length _ ((c :: r).drop (gapN (c :: r))) (by simp; omega) (Nat.le_refl _)]
 ·rw [cutF_fuel r.length _ ((c :: r).drop (decodeL (c :: r)).2) (by simp; omega) (Nat.le_refl _)]
theorem tokP_cons (c : UInt8) (r : By) : tokP (c :: r) = if c = 37 then (if gapN (c :: r) = 0 then none else (tokP ((c :: r).drop (gapN (c :: r)))).map fun l => (true, (c :: r).take (gapN (c :: r)), ()) :: l)
   else (tokP r).map fun l => (false, [c], ()) :: l := by
 have h1 := gapN_one (c :: r)
 show tokF (r.length + 1) (c :: r) = _
 unfold tokF tokP
 simp only
 split
 ·split
  ·rfl
  ·rename_i hg
   rw [tokF_fuel r.length _ ((c :: r).drop (gapN (c :: r))) (by simp; omega) (Nat.le_refl _)]
 ·rfl
/-! ### signs of one byte -/
theorem dec_one (c : UInt8) (h : c.toNat < 128) (r : By) : decodeL (c :: r) = (c.toNat, 1) := by
 have := dec_encN c.toNat (by unfold okR; omega) r
 have e : encN c.toNat = [c] := by unfold encN; rw [if_pos h]; simp
 rw [e] at this
 exact this
theorem signs_one (c : UInt8) (h : c.toNat < 128) (r : By) : signs (c :: r) = ((c.toNat : Int), [c]) :: signs r := by
 rw [signs_cons (by simp), dec_one c h]
 rfl
theorem allS_nil : allS [] = true := by unfold allS; rw [signs_nil]; rfl
theorem allS_cons {s : By} (h : s ≠ []) : allS s = (decide (sortI ((decodeL s).1 : Int) ≠ 0) && allS (s.drop (decodeL s).2)) := by
 unfold allS
 rw [signs_cons h]
 rfl
theorem sort_plain {b : UInt8} (h : plnB b) : sortI (b.toNat : Int) ≠ 0 := by
 obtain ⟨h1, h2⟩ := h
 unfold sortI
 rw [if_neg (by omega)]
 repeat' split
 all_goals decide
theorem allS_plain (n : Nat) : ∀ s : By, (∀ b ∈ s.take n, plnB b) → allS s = allS (s.drop n) := by
 induction n with
 | zero => intro s h; rfl
 | succ n ih =>
  intro s h
  cases s with
  | nil => rfl
  | cons c r =>
   have hc : plnB c := h c (by simp)
   have hlt : c.toNat < 128 := by have := hc.2; omega
   rw [allS_cons (by simp), dec_one c hlt, List.drop_succ_cons]
   simp only [List.drop_succ_cons, List.drop_zero]
   rw [decide_eq_true (sort_plain hc), Bool.true_and]
   exact ih r fun b hb => h b (by simp only [List.take_succ_cons]; exact List.mem_cons_of_mem _ hb)
theorem sign_no37 (c : UInt8) (r : By) (hs : sortI ((decodeL (c :: r)).1 : Int) ≠ 0) (hc : c ≠ 37) : ∀ b ∈ (c :: r).take (decodeL (c :: r)).2, b ≠ 37 := by
 by_cases h : c.toNat < 128
 ·rw [dec_one c h]
  intro b hb
  simp only [List.take_succ_cons, List.take_zero, List.mem_singleton] at hb
  subst hb
  exact hc
 ·have hb : ¬ ((decodeL (c :: r)).1 = 65533 ∧ (decodeL (c :: r)).2 = 1) := by
   rintro ⟨h1, _⟩
   rw [h1] at hs
   exact hs (by decide)
  rw [take_encN (c :: r) (by simp) hb]
  have hok := rune_ok (c :: r)
  have hbig : ¬ (decodeL (c :: r)).1 < 128 := by
   intro hlt
   have ht := take_encN (c :: r) (by simp) hb
   have e : encN (decodeL (c :: r)).1 = [UInt8.ofNat (decodeL (c :: r)).1] := by unfold encN; rw [if_pos hlt]
   rw [e] at ht
   have hp := decodeL_pos (c :: r)
   obtain ⟨k, hk⟩ : ∃ k, (decodeL (c :: r)).2 = k + 1 := ⟨(decodeL (c :: r)).2 - 1, by omega⟩
   rw [hk, List.take_succ_cons] at ht
   injection ht with h1 _
   rw [h1] at h
   simp at h
   omega
  generalize (decodeL (c :: r)).1 = D at hok hbig
  obtain ⟨o1, o2⟩ := hok
  have ne : ∀ k : Nat, 128 ≤ k → k < 256 → UInt8.ofNat k ≠ 37 := by
   intro k h1 h2 hh
   have := congrArg UInt8.toNat hh
   have e : (UInt8.ofNat k).toNat = k := by simp; omega
   rw [e] at this
   have : (37 : UInt8).toNat = 37 := rfl
   omega
  intro b hb
  unfold encN at hb
  rw [if_neg hbig] at hb
  split at hb
  ·simp only [List.mem_cons, List.not_mem_nil, or_false] at hb
   rcases hb with rfl | rfl <;> exact ne _ (by omega) (by omega)
  split at hb
  ·simp only [List.mem_cons, List.not_mem_nil, or_false] at hb
   rcases hb with rfl | rfl | rfl <;> exact ne _ (by omega) (by omega)
  ·simp only [List.mem_cons, List.not_mem_nil, or_false] at hb
   rcases hb with rfl | rfl | rfl | rfl <;> exact ne _ (by omega) (by omega)
theorem tok_skip (n : Nat) : ∀ s : By, n ≤ s.length → (∀ b ∈ s.take n, b ≠ 37) → tokP s = (tokP (s.drop n)).map fun l => ((s.take n).map fun b => ((false, [b], ()) : Pc)) ++ l := by
 induction n with
 | zero =>
  intro s h hb
  rw [List.take_zero, List.drop_zero]
  cases tokP s <;> rfl
 | succ n ih =>
  intro s h hb
  cases s with
  | nil => simp at h
  | cons c r =>
   rw [tokP_cons, if_neg (hb c (by simp)), ih r (by simpa using h) (fun b hb' => hb b (by simp only [List.take_succ_cons]; exact List.mem_cons_of_mem _ hb'))]
   rw [List.drop_succ_cons, List.take_succ_cons]
   cases tokP (r.drop n) <;> rfl
theorem flat_bytes (val : By → By) (l : By) (m : List Pc) : flatL val ((l.map fun b => ((false, [b], ()) : Pc)) ++ m) = l ++ flatL val m := by
 unfold flatL
 rw [List.flatMap_append]
 congr 1
 induction l with
 | nil => rfl
 | cons c l ih =>
  rw [List.map_cons, List.flatMap_cons, ih]
  rfl
theorem gaps_bytes (l : By) (m : List Pc) : gapsL ((l.map fun b => ((false, [b], ()) : Pc)) ++ m) = gapsL m := by
 unfold gapsL
 rw [List.filter_append]
 have : (l.map fun b => ((false, [b], ()) : Pc)).filter (·.1) = [] := by
  rw [List.filter_eq_nil_iff]
  intro x hx
  obtain ⟨b, _, rfl⟩ := List.mem_map.1 hx
  exact Bool.false_ne_true
 rw [this]
 rfl
theorem cut_tok : ∀ (n : Nat) (s : By), s.length ≤ n → match cutP s with
  | some l => allS s = true ∧ ∃ m, tokP s = some m ∧ gapsL l = gapsL m ∧ ∀ val, flatL val l = flatL val m
  | none => allS s = false ∨ tokP s = none
 | 0, s, h => by
  obtain rfl : s = [] := List.length_eq_zero_iff.1 (by omega)
  exact ⟨allS_nil, [], rfl, rfl, fun _ => rfl⟩
 | n + 1, s, h => by
  cases s with
  | nil => exact ⟨allS_nil, [], rfl, rfl, fun _ => rfl⟩
  | cons c r =>
   have hp := decodeL_pos (c :: r)
   have hle := decodeL_le (c :: r) (by simp)
   simp only [List.length_cons] at h
   rw [cutP_cons]
   by_cases hs : sortI ((decodeL (c :: r)).1 : Int) = 0
   ·rw [if_pos hs]
    refine .inl ?_
    rw [allS_cons (by simp), decide_eq_false (fun hh => hh hs), Bool.false_and]
   rw [if_neg hs]
   by_cases hc : c = 37
   ·subst hc
    rw [if_pos rfl, tokP_cons, if_pos rfl]
    by_cases hg : gapN (37 :: r) = 0
    ·rw [if_pos hg, if_pos hg]
     exact .inr rfl
    ·rw [if_neg hg, if_neg hg]
     have ih := cut_tok n ((37 :: r : By).drop (gapN (37 :: r))) (by rw [List.length_drop, List.length_cons]; omega)
     rw [allS_plain _ _ (gapN_bytes r)]
     cases hx : cutP ((37 :: r : By).drop (gapN (37 :: r))) with
     | none =>
      rw [hx] at ih
      refine ih.imp id fun h => ?_
      rw [h]
      rfl
     | some l =>
      rw [hx] at ih
      obtain ⟨i1, m, i2, i3, i4⟩ := ih
      refine ⟨i1, _, by rw [i2]; rfl, ?_, fun val => ?_⟩
      ·unfold gapsL at i3 ⊢
       simp only [List.filter_cons, if_true, List.map_cons]
       rw [i3]
      ·unfold flatL at i4 ⊢
       rw [List.flatMap_cons, List.flatMap_cons, i4 val]
   ·rw [if_neg hc]
    have ih := cut_tok n ((c :: r).drop (decodeL (c :: r)).2) (by rw [List.length_drop, List.length_cons]; omega)
    have hsk := tok_skip (decodeL (c :: r)).2 (c :: r) hle (sign_no37 c r hs hc)
    rw [allS_cons (by simp), decide_eq_true hs, Bool.true_and]
    cases hx : cutP ((c :: r).drop (decodeL (c :: r)).2) with
    | none =>
     rw [hx] at ih
     refine ih.imp id fun h => ?_
     rw [hsk, h]
     rfl
    | some l =>
     rw [hx] at ih
     obtain ⟨i1, m, i2, i3, i4⟩ := ih
     refine ⟨i1, _, by rw [hsk, i2]; rfl, ?_, fun val => ?_⟩
     ·rw [gaps_bytes, ← i3]
      rfl
     ·rw [flat_bytes, ← i4 val]
      rfl
end Go.Vm
