import Derived.Test.YtihpjgcbmipdbaaGreatDoorPh1
import Derived.Test.YtihpjgcbmipdbaaGreatDoorFbld
import Derived.Test.YtihpjgcbmipdbaaGreatDoorFjrd
/- Phrases, plainly: pieces sign by sign are the pieces byte by byte. No condition. -/
namespace Go.Vm
open Go.Lib (decodeL decodeN decodeL_N decode_N decodeN_shape decodeL_le)
set_option linter.unusedVariables false
set_option linter.unusedSimpArgs false
abbrev Pc := Bool × List UInt8 × Unit
def cutF : Nat → By → Option (List Pc)
 | 0, _ => some []
 | n + 1, s => match s with
  | [] => some []
  | c :: r => if sortI ((decodeL s).1 : Int) = 0 then none else if c = 37 then (if gapN s = 0 then none else (cutF n (s.drop (gapN s))).map fun l => (true, s.take (gapN s), ()) :: l)
   else (cutF n (s.drop (decodeL s).2)).map fun l => (false, s.take (decodeL s).2, ()) :: l
def tokF : Nat → By → Option (List Pc)
 | 0, _ => some []
 | n + 1, s => match s with
  | [] => some []
  | c :: r => if c = 37 then (if gapN s = 0 then none else (tokF n (s.drop (gapN s))).map fun l => (true, s.take (gapN s), ()) :: l)
   else (tokF n r).map fun l => (false, [c], ()) :: l
def cutP (s : By) : Option (List Pc) := cutF s.length s
def tokP (s : By) : Option (List Pc) := tokF s.length s
def allS (s : By) : Bool := (signs s).all fun x => decide (sortI x.1 ≠ 0)
def gapsL (l : List Pc) : List By := (l.filter (·.1)).map (·.2.1)
def flatL (val : By → By) (l : List Pc) : By := l.flatMap fun p => if p.1 = true then val p.2.1 else p.2.1
theorem cutF_fuel : ∀ (n m : Nat) (s : By), s.length ≤ n → s.length ≤ m → cutF n s = cutF m s
 | 0, 0, s, h, h' => rfl
 | 0, m + 1, s, h, h' => by
  obtain rfl : s = [] := List.length_eq_zero_iff.1 (by omega)
  rfl
 | n + 1, 0, s, h, h' => by
  obtain rfl : s = [] := List.length_eq_zero_iff.1 (by omega)
  rfl
 | n + 1, m + 1, s, h, h' => by
  cases s with
  | nil => rfl
  | cons c r =>
   have hp := decodeL_pos (c :: r)
   simp only [List.length_cons] at h h'
   unfold cutF
   simp only
   split
   ·rfl
   split
   ·split
    ·rfl
    ·rename_i hg
     have h1 := gapN_one (c :: r)
     rw [cutF_fuel n m ((c :: r).drop (gapN (c :: r))) (by simp; omega) (by simp; omega)]
   ·rw [cutF_fuel n m ((c :: r).drop (decodeL (c :: r)).2) (by simp; omega) (by simp; omega)]
theorem tokF_fuel : ∀ (n m : Nat) (s : By), s.length ≤ n → s.length ≤ m → tokF n s = tokF m s
 | 0, 0, s, h, h' => rfl
 | 0, m + 1, s, h, h' => by
  obtain rfl : s = [] := List.length_eq_zero_iff.1 (by omega)
  rfl
 | n + 1, 0, s, h, h' => by
  obtain rfl : s = [] := List.length_eq_zero_iff.1 (by omega)
  rfl
 | n + 1, m + 1, s, h, h' => by
  cases s with
  | nil => rfl
  | cons c r =>
   simp only [List.length_cons] at h h'
   unfold tokF
   simp only
   split
   ·split
    ·rfl
    ·rename_i hg
     have h1 := gapN_one (c :: r)
     rw [tokF_fuel n m ((c :: r).drop (gapN (c :: r))) (by simp; omega) (by simp; omega)]
   ·rw [tokF_fuel n m r (by omega) (by omega)]
theorem cutP_nil : cutP [] = some [] := rfl
theorem tokP_nil : tokP [] = some [] := rfl
theorem cutP_cons (c : UInt8) (r : By) : cutP (c :: r) = if sortI ((decodeL (c :: r)).1 : Int) = 0 then none else if c = 37 then (if gapN (c :: r) = 0 then none else (cutP ((c :: r).drop (gapN (c :: r)))).map fun l => (true, (c :: r).take (gapN (c :: r)), ()) :: l)
   else (cutP ((c :: r).drop (decodeL (c :: r)).2)).map fun l => (false, (c :: r).take (decodeL (c :: r)).2, ()) :: l := by
 have hp := decodeL_pos (c :: r)
 have h1 := gapN_one (c :: r)
 show cutF (r.length + 1) (c :: r) = _
 unfold cutF cutP
 simp only
 split
 ·rfl
 split
 ·split
  ·rfl
  ·rename_i hg
   rw [cutF_fuel r.length _ ((c :: r).drop (gapN (c :: r))) (by simp; omega) (Nat.le_refl _)]
 ·rw [cutF_fuel r.length _ ((c :: r).drop (decodeL (c :: r)).2) (by simp; omega) (Nat.le_refl _)]
theorem tokP_cons (c : UInt8) (r : By) : tokP (c :: r) = if c = 37 then (if gapN (c :: r) = 0 then none else (tokP ((c :: r).drop (gapN (c :: r)))).map fun l => (true, (c :: r).take (gapN (c :: r)), ()) :: l)
   else (tokP r).map fun l => (false, [c], ()) :: l := by
 have h1 := gapN_one (c :: r)
 show tokF (r.length + 1) (c :: r) = _
 unfold tokF tokP
 simp only
 split
 ·split
  ·rfl
  ·rename_i hg
   rw [tokF_fuel r.length _ ((c :: r).drop (gapN (c :: r))) (by simp; omega) (Nat.le_refl _)]
 ·rfl
/-! ### signs of one byte -/
theorem dec_one (c : UInt8) (h : c.toNat < 128) (r : By) : decodeL (c :: r) = (c.toNat, 1) := by
 have := dec_encN c.toNat (by unfold okR; omega) r
 have e : encN c.toNat = [c] := by unfold encN; rw [if_pos h]; simp
 rw [e] at this
 exact this
theorem signs_one (c : UInt8) (h : c.toNat < 128) (r : By) : signs (c :: r) = ((c.toNat : Int), [c]) :: signs r := by
 rw [signs_cons (by simp), dec_one c h]
 rfl
theorem allS_nil : allS [] = true := by unfold allS; rw [signs_nil]; rfl
theorem allS_cons {s : By} (h : s ≠ []) : allS s = (decide (sortI ((decodeL s).1 : Int) ≠ 0) && allS (s.drop (decodeL s).2)) := by
 unfold allS
 rw [signs_cons h]
 rfl
theorem sort_plain {b : UInt8} (h : plnB b) : sortI (b.toNat : Int) ≠ 0 := by
 obtain ⟨h1, h2⟩ := h
 unfold sortI
 rw [if_neg (by omega)]
 repeat' split
 all_goals decide
theorem allS_plain (n : Nat) : ∀ s : By, (∀ b ∈ s.take n, plnB b) → allS s = allS (s.drop n) := by
 induction n with
 | zero => intro s h; rfl
 | succ n ih =>
  intro s h
  cases s with
  | nil => rfl
  | cons c r =>
   have hc : plnB c := h c (by simp)
   have hlt : c.toNat < 128 := by have := hc.2; omega
   rw [allS_cons (by simp), dec_one c hlt, List.drop_succ_cons]
   simp only [List.drop_succ_cons, List.drop_zero]
   rw [decide_eq_true (sort_plain hc), Bool.true_and]
   exact ih r fun b hb => h b (by simp only [List.take_succ_cons]; exact List.mem_cons_of_mem _ hb)
theorem sign_no37 (c : UInt8) (r : By) (hs : sortI ((decodeL (c :: r)).1 : Int) ≠ 0) (hc : c ≠ 37) : ∀ b ∈ (c :: r).take (decodeL (c :: r)).2, b ≠ 37 := by
 by_cases h : c.toNat < 128
 ·rw [dec_one c h]
  intro b hb
  simp only [List.take_succ_cons, List.take_zero, List.mem_singleton] at hb
  subst hb
  exact hc
 ·have hb : ¬ ((decodeL (c :: r)).1 = 65533 ∧ (decodeL (c :: r)).2 = 1) := by
   rintro ⟨h1, _⟩
   rw [h1] at hs
   exact hs (by decide)
  rw [take_encN (c :: r) (by simp) hb]
  have hok := rune_ok (c :: r)
  have hbig : ¬ (decodeL (c :: r)).1 < 128 := by
   intro hlt
   have ht := take_encN (c :: r) (by simp) hb
   have e : encN (decodeL (c :: r)).1 = [UInt8.ofNat (decodeL (c :: r)).1] := by unfold encN; rw [if_pos hlt]
   rw [e] at ht
   have hp := decodeL_pos (c :: r)
   obtain ⟨k, hk⟩ : ∃ k, (decodeL (c :: r)).2 = k + 1 := ⟨(decodeL (c :: r)).2 - 1, by omega⟩
   rw [hk, List.take_succ_cons] at ht
   injection ht with h1 _
   rw [h1] at h
   simp at h
   omega
  generalize (decodeL (c :: r)).1 = D at hok hbig
  obtain ⟨o1, o2⟩ := hok
  have ne : ∀ k : Nat, 128 ≤ k → k < 256 → UInt8.ofNat k ≠ 37 := by
   intro k h1 h2 hh
   have := congrArg UInt8.toNat hh
   have e : (UInt8.ofNat k).toNat = k := by simp; omega
   rw [e] at this
   have : (37 : UInt8).toNat = 37 := rfl
   omega
  intro b hb
  unfold encN at hb
  rw [if_neg hbig] at hb
  split at hb
  ·simp only [List.mem_cons, List.not_mem_nil, or_false] at hb
   rcases hb with rfl | rfl <;> exact ne _ (by omega) (by omega)
  split at hb
  ·simp only [List.mem_cons, List.not_mem_nil, or_false] at hb
   rcases hb with rfl | rfl | rfl <;> exact ne _ (by omega) (by omega)
  ·simp only [List.mem_cons, List.not_mem_nil, or_false] at hb
   rcases hb with rfl | rfl | rfl | rfl <;> exact ne _ (by omega) (by omega)
theorem tok_skip (n : Nat) : ∀ s : By, n ≤ s.length → (∀ b ∈ s.take n, b ≠ 37) → tokP s = (tokP (s.drop n)).map fun l => ((s.take n).map fun b => ((false, [b], ()) : Pc)) ++ l := by
 induction n with
 | zero =>
  intro s h hb
  rw [List.take_zero, List.drop_zero]
  cases tokP s <;> rfl
 | succ n ih =>
  intro s h hb
  cases s with
  | nil => simp at h
  | cons c r =>
   rw [tokP_cons, if_neg (hb c (by simp)), ih r (by simpa using h) (fun b hb' => hb b (by simp only [List.take_succ_cons]; exact List.mem_cons_of_mem _ hb'))]
   rw [List.drop_succ_cons, List.take_succ_cons]
   cases tokP (r.drop n) <;> rfl
theorem flat_bytes (val : By → By) (l : By) (m : List Pc) : flatL val ((l.map fun b => ((false, [b], ()) : Pc)) ++ m) = l ++ flatL val m := by
 unfold flatL
 rw [List.flatMap_append]
 congr 1
 induction l with
 | nil => rfl
 | cons c l ih =>
  rw [List.map_cons, List.flatMap_cons, ih]
  rfl
theorem gaps_bytes (l : By) (m : List Pc) : gapsL ((l.map fun b => ((false, [b], ()) : Pc)) ++ m) = gapsL m := by
 unfold gapsL
 rw [List.filter_append]
 have : (l.map fun b => ((false, [b], ()) : Pc)).filter (·.1) = [] := by
  rw [List.filter_eq_nil_iff]
  intro x hx
  obtain ⟨b, _, rfl⟩ := List.mem_map.1 hx
  exact Bool.false_ne_true
 rw [this]
 rfl
theorem cut_tok : ∀ (n : Nat) (s : By), s.length ≤ n → match cutP s with
  | some l => allS s = true ∧ ∃ m, tokP s = some m ∧ gapsL l = gapsL m ∧ ∀ val, flatL val l = flatL val m
  | none => allS s = false ∨ tokP s = none
 | 0, s, h => by
  obtain rfl : s = [] := List.length_eq_zero_iff.1 (by omega)
  exact ⟨allS_nil, [], rfl, rfl, fun _ => rfl⟩
 | n + 1, s, h => by
  cases s with
  | nil => exact ⟨allS_nil, [], rfl, rfl, fun _ => rfl⟩
  | cons c r =>
   have hp := decodeL_pos (c :: r)
   have hle := decodeL_le (c :: r) (by simp)
   simp only [List.length_cons] at h
   rw [cutP_cons]
   by_cases hs : sortI ((decodeL (c :: r)).1 : Int) = 0
   ·rw [if_pos hs]
    refine .inl ?_
    rw [allS_cons (by simp), decide_eq_false (fun hh => hh hs), Bool.false_and]
   rw [if_neg hs]
   by_cases hc : c = 37
   ·subst hc
    rw [if_pos rfl, tokP_cons, if_pos rfl]
    by_cases hg : gapN (37 :: r) = 0
    ·rw [if_pos hg, if_pos hg]
     exact .inr rfl
    ·rw [if_neg hg, if_neg hg]
     have ih := cut_tok n ((37 :: r : By).drop (gapN (37 :: r))) (by rw [List.length_drop, List.length_cons]; omega)
     rw [allS_plain _ _ (gapN_bytes r)]
     cases hx : cutP ((37 :: r : By).drop (gapN (37 :: r))) with
     | none =>
      rw [hx] at ih
      refine ih.imp id fun h => ?_
      rw [h]
      rfl
     | some l =>
      rw [hx] at ih
      obtain ⟨i1, m, i2, i3, i4⟩ := ih
      refine ⟨i1, _, by rw [i2]; rfl, ?_, fun val => ?_⟩
      ·unfold gapsL at i3 ⊢
       simp only [List.filter_cons, if_true, List.map_cons]
       rw [i3]
      ·unfold flatL at i4 ⊢
       rw [List.flatMap_cons, List.flatMap_cons, i4 val]
   ·rw [if_neg hc]
    have ih := cut_tok n ((c :: r).drop (decodeL (c :: r)).2) (by rw [List.length_drop, List.length_cons]; omega)
    have hsk := tok_skip (decodeL (c :: r)).2 (c :: r) hle (sign_no37 c r hs hc)
    rw [allS_cons (by simp), decide_eq_true hs, Bool.true_and]
    cases hx : cutP ((c :: r).drop (decodeL (c :: r)).2) with
    | none =>
     rw [hx] at ih
     refine ih.imp id fun h => ?_
     rw [hsk, h]
     rfl
    | some l =>
     rw [hx] at ih
     obtain ⟨i1, m, i2, i3, i4⟩ := ih
     refine ⟨i1, _, by rw [hsk, i2]; rfl, ?_, fun val => ?_⟩
     ·rw [gaps_bytes, ← i3]
      rfl
     ·rw [flat_bytes, ← i4 val]
      rfl
end Go.Vm
/- A sign written by strings.Builder, plainly. No condition but on lengths. -/
namespace Go.Vm
open Go.Lib (decodeL decodeN decodeL_N decode_N decodeN_shape decodeL_le)
set_option linter.unusedVariables false
set_option linter.unusedSimpArgs false
set_option maxHeartbeats 1000000 in
theorem append_eq (F c : Nat) (h : okR c) (l : List UInt8) (hl : l.length ≤ 1000000000000) : M_unicode_utf8_AppendRune F (l, (c : Int)) = some (l ++ enc8 (c : Int)) := by
 rw [enc8_val c h]
 obtain ⟨h1, h2⟩ := h
 have u : IntKind.u32.wrap (c : Int) = (c : Int) := wrapU32 _ (by omega) (by omega)
 have s6 : shr .i32 (c : Int) 6 = ((c / 64 : Nat) : Int) := shr_nat c 6 (by omega)
 have s12 : shr .i32 (c : Int) 12 = ((c / 4096 : Nat) : Int) := shr_nat c 12 (by omega)
 have s18 : shr .i32 (c : Int) 18 = ((c / 262144 : Nat) : Int) := shr_nat c 18 (by omega)
 have L1 : (l.length + 1) * 1 ≤ 140737488355328 := by omega
 have L2 : (l.length + 2) * 1 ≤ 140737488355328 := by omega
 have L3 : (l.length + 3) * 1 ≤ 140737488355328 := by omega
 have L4 : (l.length + 4) * 1 ≤ 140737488355328 := by omega
 unfold M_unicode_utf8_AppendRune M_unicode_utf8_appendRuneNonASCII encN
 simp only [u, s6, s12, s18, low6, List.length_cons, List.length_nil, Nat.zero_add, Nat.reduceAdd, L1, L2, L3, L4, decide_true, if_true, Option.bind_some]
 by_cases c1 : c < 128
 ·have : (c : Int) ≤ 127 := by omega
  simp only [c1, this, if_true, decide_true]
  rw [wrapU8 _ (by omega) (by omega)]
  simp
 have n1 : ¬ (c : Int) ≤ 127 := by omega
 by_cases c2 : c < 2048
 ·have : (c : Int) ≤ 2047 := by omega
  simp only [c1, n1, c2, this, if_true, if_false, decide_true, decide_false, Bool.false_eq_true, Option.bind_some]
  rw [wrapU8 _ (by omega) (by omega), io192 _ (by omega)]
  simp only [Int.toNat_natCast]
 have n2 : ¬ (c : Int) ≤ 2047 := by omega
 by_cases c3 : c < 65536
 ·have w : (c : Int) ≤ 65535 := by omega
  have : (c : Int) < 55296 ∨ (57343 : Int) < c := by omega
  have hx : ior .u8 224 (IntKind.u8.wrap ((c / 4096 : Nat) : Int)) = ((224 + c / 4096 : Nat) : Int) := by rw [wrapU8 _ (by omega) (by omega), io224 _ (by omega)]
  by_cases c4 : (c : Int) < 55296
  ·simp only [c1, n1, c2, n2, c3, c4, if_true, if_false, decide_true, decide_false, Bool.false_eq_true, Option.bind_some, Int.toNat_natCast, L3, hx, low6, s6, s12, s18]
  ·have c5 : (57343 : Int) < c := by omega
   simp only [c1, n1, c2, n2, c3, c4, c5, w, if_true, if_false, decide_true, decide_false, Bool.false_eq_true, Option.bind_some, Int.toNat_natCast, L3, hx, low6, s6, s12, s18]
 have n3 : ¬ (c : Int) ≤ 65535 := by omega
 have c4 : ¬ (c : Int) < 55296 := by omega
 have c5 : (57343 : Int) < c := by omega
 have c6 : (65535 : Int) < c := by omega
 have c7 : (c : Int) ≤ 1114111 := by omega
 have hx : ior .u8 240 (IntKind.u8.wrap ((c / 262144 : Nat) : Int)) = ((240 + c / 262144 : Nat) : Int) := by rw [wrapU8 _ (by omega) (by omega), io240 _ (by omega)]
 simp only [c1, n1, c2, n2, c3, n3, c4, c5, c6, c7, if_true, if_false, decide_true, decide_false, Bool.false_eq_true, Option.bind_some, Int.toNat_natCast, L4, hx, low6, s6, s12, s18]
theorem write_eq (F c : Nat) (h : okR c) (l : List UInt8) (hl : l.length ≤ 1000000000000) : ∃ n, M_strings_Builder_WriteRune F (((), l, ()), (c : Int)) = some ((n, ()), (), l ++ enc8 (c : Int), ()) := by
 unfold M_strings_Builder_WriteRune M_strings_Builder_copyCheck
 simp only [Option.bind_some, append_eq F c h l hl]
 exact ⟨_, rfl⟩
end Go.Vm
/- JSON, plainly: values. What is printed is read. No condition. -/
namespace Go.Vm
open Go.Lib (itoa)
set_option linter.unusedVariables false
set_option linter.unusedSimpArgs false
def okB (O : Option (JV → Prop)) : JV → Prop
 | .nil => False
 | .null => True
 | .bool _ => True
 | .int n => okN n
 | .str t => OkT t
 | .list l => match O with
  | none => False
  | some O => ∀ v ∈ l, O v
 | .obj l => match O with
  | none => False
  | some O => Ris l ∧ ∀ m ∈ l, OkT m.1 ∧ O m.2.1
def okV : Nat → JV → Prop
 | 0 => okB none
 | d + 1 => okB (some (okV d))
def Head (c : UInt8) : Prop := isBl c = false ∧ c ≠ 93 ∧ c ≠ 125 ∧ c ≠ 44
theorem dig_head {c : UInt8} (h : c = 45 ∨ isDig c = true) : Head c ∧ c ≠ 123 ∧ c ≠ 91 ∧ c ≠ 34 ∧ c ≠ 110 ∧ c ≠ 116 ∧ c ≠ 102 := by
 rcases h with rfl | h
 ·exact ⟨⟨rfl, by decide, by decide, by decide⟩, by decide, by decide, by decide, by decide, by decide, by decide⟩
 ·have hb : isBl c = false := by
   have q : ∀ k : UInt8, isDig k = false → (c == k) = false := by
    intro k hk
    rw [beq_eq_false_iff_ne]
    rintro rfl
    rw [h] at hk; cases hk
   unfold isBl
   rw [q 32 (by decide), q 9 (by decide), q 10 (by decide), q 13 (by decide)]
   rfl
  refine ⟨⟨hb, ?_, ?_, ?_⟩, ?_, ?_, ?_, ?_, ?_, ?_⟩ <;> (rintro rfl; exact absurd h (by decide))
theorem lay_head : ∀ (d : Nat) (v : JV), okV d v → ∃ c q, layP d v = c :: q ∧ Head c := by
 intro d v h
 have hd : Head 110 ∧ Head 116 ∧ Head 102 ∧ Head 34 ∧ Head 91 ∧ Head 123 := by refine ⟨?_, ?_, ?_, ?_, ?_, ?_⟩ <;> exact ⟨rfl, by decide, by decide, by decide⟩
 obtain ⟨h1, h2, h3, h4, h5, h6⟩ := hd
 cases v with
 | nil => cases d <;> exact h.elim
 | null => cases d <;> exact ⟨_, _, rfl, h1⟩
 | bool b => cases d <;> cases b <;> first | exact ⟨_, _, rfl, h2⟩ | exact ⟨_, _, rfl, h3⟩
 | int n =>
  obtain ⟨c, q, e, hc⟩ := itoa_head n
  cases d <;> exact ⟨c, q, e, (dig_head hc).1⟩
 | str t => cases d <;> exact ⟨_, _, rfl, h4⟩
 | list l => cases d with
  | zero => exact h.elim
  | succ d => exact ⟨_, _, rfl, h5⟩
 | obj l => cases d with
  | zero => exact h.elim
  | succ d => exact ⟨_, _, rfl, h6⟩
theorem skp_of {c : UInt8} (h : isBl c = false) (q : By) : skp (c :: q) = c :: q := by unfold skp; rw [List.dropWhile_cons_of_neg (by rw [h]; decide)]
theorem skp_of' {c : UInt8} (h : isBl c = true) (q : By) : skp (c :: q) = skp q := by unfold skp; rw [List.dropWhile_cons_of_pos h]
theorem join_len {α : Type} (f : α → By) : ∀ l : List α, (∀ v ∈ l, f v ≠ []) → l.length ≤ (joinB (l.map f)).length
 | [], _ => by simp
 | [v], h => by have := List.length_pos_iff.2 (h v (by simp)); simp [joinB]; omega
 | v :: w :: l, h => by
  have := join_len f (w :: l) (fun v hv => h v (List.mem_cons_of_mem _ hv))
  simp only [List.map_cons, joinB, List.length_append, List.length_cons] at this ⊢
  omega
end Go.Vm
/- JSON, plainly: what is read may be, and is printed in no more bytes. No condition. -/
namespace Go.Vm
open Go.Lib (itoa)
set_option linter.unusedVariables false
set_option linter.unusedSimpArgs false
theorem lst_ok (V : By → Except Nat (JV × By)) (f : JV → By) (O : JV → Prop) (hV : ∀ s v r, V s = .ok (v, r) → O v ∧ r <:+ s ∧ r.length < s.length ∧ (f v).length + r.length ≤ s.length) :
  ∀ (n : Nat) (s : By) (l : List JV) (r : By), lstP V n s = .ok (l, r) → (∀ v ∈ l, O v) ∧ r <:+ s ∧ (joinB (l.map f)).length + 1 + r.length ≤ s.length
 | 0, s, l, r, h => by cases h
 | n + 1, s, l, r, h => by
  unfold lstP at h
  cases hv : V s with
  | error e => rw [hv] at h; cases h
  | ok x =>
   obtain ⟨v, r1⟩ := x
   rw [hv] at h
   obtain ⟨o1, o2, o3, o4⟩ := hV s v r1 hv
   simp only at h
   split at h
   ·rename_i r2 hs
    have q1 := skp_len r1
    have q2 : (44 :: r2) <:+ r1 := hs ▸ skp_suffix r1
    rw [hs, List.length_cons] at q1
    cases hl : lstP V n r2 with
    | error e => rw [hl] at h; cases h
    | ok y =>
     obtain ⟨l', r'⟩ := y
     rw [hl] at h
     cases h
     obtain ⟨i1, i2, i3⟩ := lst_ok V f O hV n r2 l' r hl
     refine ⟨fun w hw => ?_, (i2.trans (List.suffix_cons _ _)).trans (q2.trans o2), ?_⟩
     ·rcases List.mem_cons.1 hw with rfl | hw
      ·exact o1
      ·exact i1 w hw
     ·cases l' with
      | nil => simp [joinB] at i3 ⊢; omega
      | cons w l' => simp only [List.map_cons, joinB, List.length_append, List.length_cons] at i3 ⊢; omega
   ·rename_i r2 hs
    cases h
    have q1 := skp_len r1
    have q2 : (93 :: r) <:+ r1 := hs ▸ skp_suffix r1
    rw [hs, List.length_cons] at q1
    refine ⟨fun w hw => ?_, (List.suffix_cons _ _).trans (q2.trans o2), ?_⟩
    ·rw [List.mem_singleton] at hw; subst hw; exact o1
    ·simp [joinB]; omega
   ·cases h
def szM (f : JV → By) (l : List Me) : Nat := (l.map fun m => (quo m.1 ++ 58 :: f m.2.1).length + 1).sum
theorem join_sz {α : Type} (f : α → By) : ∀ (a : α) (l : List α), (joinB ((a :: l).map f)).length + 1 = ((a :: l).map fun x => (f x).length + 1).sum
 | a, [] => by simp [joinB]
 | a, b :: l => by
  have := join_sz f b l
  simp only [List.map_cons, joinB, List.length_append, List.length_cons, List.sum_cons] at this ⊢
  omega
theorem obj_ok (V : By → Except Nat (JV × By)) (f : JV → By) (O : JV → Prop) (hV : ∀ s v r, V s = .ok (v, r) → O v ∧ r <:+ s ∧ r.length < s.length ∧ (f v).length + r.length ≤ s.length) :
  ∀ (n : Nat) (acc : List Me) (s : By) (l : List Me) (r : By), objP V n acc s = .ok (l, r) → Uni acc → (∀ m ∈ acc, OkT m.1 ∧ O m.2.1) → Uni l ∧ l ≠ [] ∧ (∀ m ∈ l, OkT m.1 ∧ O m.2.1) ∧ r <:+ s ∧ szM f l + r.length ≤ szM f acc + s.length
 | 0, acc, s, l, r, h, _, _ => by cases h
 | n + 1, acc, s, l, r, h, hu, ha => by
  unfold objP at h
  split at h
  ·rename_i r0 h0
   have q1 := skp_len s
   have q2 : (34 :: r0) <:+ s := h0 ▸ skp_suffix s
   rw [h0, List.length_cons] at q1
   split at h
   ·cases h
   ·rename_i name r1 h1
    obtain ⟨t1, t2, t3⟩ := txt_ok r0 h1
    split at h
    ·cases h
    ·rename_i hnew
     split at h
     ·rename_i r2 h2
      have q3 := skp_len r1
      have q4 : (58 :: r2) <:+ r1 := h2 ▸ skp_suffix r1
      rw [h2, List.length_cons] at q3
      cases hv : V r2 with
      | error e => rw [hv] at h; cases h
      | ok x =>
       obtain ⟨v, r3⟩ := x
       rw [hv] at h
       obtain ⟨o1, o2, o3, o4⟩ := hV r2 v r3 hv
       have hu' : Uni (acc ++ [(name, v, ())]) := by
        refine List.pairwise_append.2 ⟨hu, List.pairwise_singleton _ _, fun x hx y hy => ?_⟩
        rw [List.mem_singleton] at hy
        subst hy
        intro e
        apply hnew
        rw [List.any_eq_true]
        exact ⟨x, hx, by simpa using e⟩
       have ha' : ∀ m ∈ acc ++ [(name, v, ())], OkT m.1 ∧ O m.2.1 := by
        intro m hm
        rcases List.mem_append.1 hm with hm | hm
        ·exact ha m hm
        ·rw [List.mem_singleton] at hm; subst hm; exact ⟨t1, o1⟩
       have hz : szM f (acc ++ [(name, v, ())]) = szM f acc + ((quoL name).length + (f v).length + 4) := by
        unfold szM quo
        simp
        omega
       have hsuf : r3 <:+ s := o2.trans ((List.suffix_cons _ _).trans (q4.trans (t2.trans ((List.suffix_cons _ _).trans q2))))
       simp only at h
       split at h
       ·rename_i r4 h4
        have q5 := skp_len r3
        have q6 : (44 :: r4) <:+ r3 := h4 ▸ skp_suffix r3
        rw [h4, List.length_cons] at q5
        obtain ⟨i1, i2, i3, i4, i5⟩ := obj_ok V f O hV n _ r4 l r h hu' ha'
        exact ⟨i1, i2, i3, i4.trans ((List.suffix_cons _ _).trans (q6.trans hsuf)), by rw [hz] at i5; omega⟩
       ·rename_i r4 h4
        cases h
        have q5 := skp_len r3
        have q6 : (125 :: r) <:+ r3 := h4 ▸ skp_suffix r3
        rw [h4, List.length_cons] at q5
        exact ⟨hu', by simp, ha', (List.suffix_cons _ _).trans (q6.trans hsuf), by rw [hz]; omega⟩
       ·cases h
     ·cases h
  ·cases h
theorem perm_sz (f : JV → By) {l l' : List Me} (h : l.Perm l') : szM f l = szM f l' := (h.map _).sum_nat
theorem val_ok : ∀ (d : Nat) (s : By) (v : JV) (r : By), valP d s = .ok (v, r) → okV d v ∧ r <:+ s ∧ r.length < s.length ∧ (layP d v).length + r.length ≤ s.length := by
 have base : ∀ (V : Option (By → Except Nat (JV × By))) (L : Option (JV → By)) (O : Option (JV → Prop)) (hLO : V = none ∧ L = none ∧ O = none ∨ ∃ W M Q, V = some W ∧ L = some M ∧ O = some Q ∧ ∀ s v r, W s = .ok (v, r) → Q v ∧ r <:+ s ∧ r.length < s.length ∧ (M v).length + r.length ≤ s.length) (s : By) (v : JV) (r : By), valB V s = .ok (v, r) →
   okB O v ∧ r <:+ s ∧ r.length < s.length ∧ (layB L v).length + r.length ≤ s.length := by
  intro V L O hLO s v r h
  unfold valB at h
  split at h
  ·cases h
  ·rename_i c t hs
   have q1 := skp_len s
   have q2 : (c :: t) <:+ s := hs ▸ skp_suffix s
   rw [hs, List.length_cons] at q1
   have q3 : t <:+ s := (List.suffix_cons _ _).trans q2
   by_cases c1 : c = 123
   ·rw [if_pos c1] at h
    rcases hLO with ⟨rfl, rfl, rfl⟩ | ⟨W, M, Q, rfl, rfl, rfl, hW⟩
    ·cases h
    ·simp only at h
     split at h
     ·rename_i t' ht
      cases h
      have q4 := skp_len t
      have q5 : (125 :: r) <:+ t := ht ▸ skp_suffix t
      rw [ht, List.length_cons] at q4
      exact ⟨⟨.nil, fun m hm => by cases hm⟩, (List.suffix_cons _ _).trans (q5.trans q3), by omega, by simp [layB, joinB]; omega⟩
     ·cases ho : objP W ((skp t).length + 1) [] (skp t) with
      | error e => rw [ho] at h; cases h
      | ok x =>
       obtain ⟨l, r'⟩ := x
       rw [ho] at h
       cases h
       obtain ⟨o1, o2, o3, o4, o5⟩ := obj_ok W M Q hW _ [] _ l r ho .nil (fun m hm => by cases hm)
       have q4 := skp_len t
       have q5 := skp_suffix t
       refine ⟨⟨sortM_ris l o1, fun m hm => o3 m ((sortM_perm l).mem_iff.1 hm)⟩, o4.trans (q5.trans q3), ?_, ?_⟩
       ·have := o4.length_le
        omega
       ·have p1 := perm_sz M (sortM_perm l)
        have p2 : szM M [] = 0 := rfl
        cases hl : sortM l with
        | nil => exact absurd ((sortM_perm l).symm.trans (by rw [hl])).eq_nil o2
        | cons m l' =>
         have p3 := join_sz (fun m : Me => quo m.1 ++ 58 :: M m.2.1) m l'
         rw [hl] at p1
         unfold szM at p1 p2 o5
         show (123 :: (joinB _ ++ [125])).length + _ ≤ _
         rw [List.length_cons, List.length_append, List.length_singleton]
         rw [← p1, p2] at o5
         have p4 := Nat.le_trans (Nat.add_le_add_right (Nat.le_of_eq p3) r.length) o5
         have p5 : ∀ J : Nat, J + 1 + r.length ≤ 0 + (skp t).length → J + 1 + 1 + r.length ≤ s.length := fun J hJ => by omega
         exact p5 _ p4
   rw [if_neg c1] at h
   by_cases c2 : c = 91
   ·rw [if_pos c2] at h
    rcases hLO with ⟨rfl, rfl, rfl⟩ | ⟨W, M, Q, rfl, rfl, rfl, hW⟩
    ·cases h
    ·simp only at h
     split at h
     ·rename_i t' ht
      cases h
      have q4 := skp_len t
      have q5 : (93 :: r) <:+ t := ht ▸ skp_suffix t
      rw [ht, List.length_cons] at q4
      exact ⟨(fun m hm => by cases hm), (List.suffix_cons _ _).trans (q5.trans q3), by omega, by simp [layB, joinB]; omega⟩
     ·cases ho : lstP W ((skp t).length + 1) (skp t) with
      | error e => rw [ho] at h; cases h
      | ok x =>
       obtain ⟨l, r'⟩ := x
       rw [ho] at h
       cases h
       obtain ⟨o1, o2, o3⟩ := lst_ok W M Q hW _ _ l r ho
       have q4 := skp_len t
       have q5 := skp_suffix t
       refine ⟨o1, o2.trans (q5.trans q3), ?_, ?_⟩
       ·have := o2.length_le
        omega
       ·show (91 :: (joinB _ ++ [93])).length + _ ≤ _
        rw [List.length_cons, List.length_append, List.length_singleton]
        omega
   rw [if_neg c2] at h
   by_cases c3 : c = 34
   ·rw [if_pos c3] at h
    split at h
    ·cases h
    ·rename_i tt r' ht
     cases h
     obtain ⟨t1, t2, t3⟩ := txt_ok t ht
     exact ⟨t1, t2.trans q3, by omega, by simp [layB, quo]; omega⟩
   rw [if_neg c3] at h
   have word : ∀ (w : By) (k : Nat) (v : JV), w.length = k + 1 → (c :: t).take (k + 1) = w → v = .null ∨ (∃ b, v = .bool b) → (layB L v).length ≤ k + 1 → okB O v ∧ t.drop k <:+ s ∧ (t.drop k).length < s.length ∧ (layB L v).length + (t.drop k).length ≤ s.length := by
    intro w k v hw ht hv hl
    have : k ≤ t.length := by
     have e := congrArg List.length ht
     rw [hw] at e
     simp at e
     omega
    refine ⟨?_, (List.drop_suffix _ _).trans q3, by simp; omega, by simp; omega⟩
    rcases hv with rfl | ⟨b, rfl⟩ <;> exact trivial
   by_cases c4 : (c :: t).take 4 = [110, 117, 108, 108]
   ·rw [if_pos c4] at h
    cases h
    exact word _ 3 _ rfl c4 (.inl rfl) (Nat.le_refl _)
   rw [if_neg c4] at h
   by_cases c5 : (c :: t).take 4 = [116, 114, 117, 101]
   ·rw [if_pos c5] at h
    cases h
    exact word _ 3 _ rfl c5 (.inr ⟨_, rfl⟩) (Nat.le_refl _)
   rw [if_neg c5] at h
   by_cases c6 : (c :: t).take 5 = [102, 97, 108, 115, 101]
   ·rw [if_pos c6] at h
    cases h
    exact word _ 4 _ rfl c6 (.inr ⟨_, rfl⟩) (Nat.le_refl _)
   rw [if_neg c6] at h
   split at h
   ·cases h
   ·rename_i n r' hn
    cases h
    obtain ⟨n1, n2, n3, n4⟩ := num_ok hn
    simp only [List.length_cons] at n3 n4
    exact ⟨n1, n2.trans q2, by omega, by show (itoa n).length + _ ≤ _; omega⟩
 intro d
 induction d with
 | zero => exact base none none none (.inl ⟨rfl, rfl, rfl⟩)
 | succ d ih => exact base (some (valP d)) (some (layP d)) (some (okV d)) (.inr ⟨_, _, _, rfl, rfl, rfl, ih⟩)
end Go.Vm
/- JSON: the program's reader at its leaves is the plain one. No condition but on lengths. -/
namespace Go.Vm
open Go.Lib (decodeL decodeN decodeL_N decode_N decodeN_shape decodeL_le)
set_option linter.unusedVariables false
set_option linter.unusedSimpArgs false
abbrev RS := By × Int × Int × Int × Unit
def st (s r : By) (k e : Int) : RS := (s, ((s.length - r.length : Nat) : Int), k, e, ())
theorem suf_len {r s : By} (h : r <:+ s) : r.length ≤ s.length := h.length_le
theorem idx_suf {s q : By} {c : UInt8} (h : c :: q <:+ s) : idx s ((s.length - (c :: q).length : Nat) : Int) = some c := by
 obtain ⟨t, rfl⟩ := h
 rw [idx_nat']
 have : (t ++ c :: q).length - (c :: q).length = t.length := by simp
 rw [this]
 simp
where
 idx_nat' {α : Type} {l : List α} {k : Nat} : idx l (k : Int) = l[k]? := by
  unfold idx
  rw [if_pos (by omega)]
  simp
theorem sub_suf {s r : By} (h : r <:+ s) : sub s ((s.length - r.length : Nat) : Int) (s.length : Int) = some r := by
 rw [sub_to_end s _ (by omega)]
 obtain ⟨t, rfl⟩ := h
 simp
theorem next_suf {s q : By} {c : UInt8} (h : c :: q <:+ s) (hs : s.length ≤ 1000) : IntKind.i64.wrap (((s.length - (c :: q).length : Nat) : Int) + 1) = ((s.length - q.length : Nat) : Int) := by
 have := suf_len h
 rw [List.length_cons] at this ⊢
 rw [wrap64 _ (by omega) (by omega)]
 omega
theorem at_end {s : By} : ¬ ((s.length - ([] : By).length : Nat) : Int) < (s.length : Int) := by simp
theorem at_in {s q : By} {c : UInt8} (h : c :: q <:+ s) : ((s.length - (c :: q).length : Nat) : Int) < (s.length : Int) := by
 have := suf_len h
 rw [List.length_cons] at this ⊢
 omega
theorem tail_suf {s q : By} {c : UInt8} (h : c :: q <:+ s) : q <:+ s := (List.suffix_cons c q).trans h
theorem fail_eq (F : Nat) (s : By) (p k e e' : Int) : M_json_reader_fail F ((s, p, k, e, ()), e') = some ((), s, p, k, (if e = 0 then e' else e), ()) := by
 unfold M_json_reader_fail
 simp only
 split
 ·rename_i h
  rw [if_pos (of_decide_eq_true h)]
 ·rename_i h
  rw [if_neg (by simpa using h)]
theorem blk_tab : ∀ c : Fin 256, (M_strings_IndexByte 0 (([32, 9, 10, 13] : By), ((c.val : Nat) : Int))).map (fun i => decide (0 ≤ i)) = some (isBl (UInt8.ofNat c.val)) := by decide +kernel
theorem blk_at (F : Nat) (c : UInt8) : ∃ i, M_strings_IndexByte F (([32, 9, 10, 13] : By), (c.toNat : Int)) = some i ∧ decide (0 ≤ i) = isBl c := by
 have h := blk_tab ⟨c.toNat, c.toNat_lt⟩
 have h' : (M_strings_IndexByte F (([32, 9, 10, 13] : By), (c.toNat : Int))).map (fun i => decide (0 ≤ i)) = some (isBl (UInt8.ofNat c.toNat)) := h
 obtain ⟨i, h1, h2⟩ := Option.map_eq_some_iff.1 h'
 refine ⟨i, h1, ?_⟩
 rw [h2]
 simp
theorem peek_loop (s : By) (hs : s.length ≤ 1000) (k e : Int) : ∀ r : By, r <:+ s → TendsL M_json_reader_peek_l0 ((), st s r k e, ()) ((), st s (skp r) k e, ())
 | [], h => by
  refine TendsL.fin (.of fun F => ?_)
  unfold M_json_reader_peek_l0 st
  simp only
  rw [if_neg (by simp)]
  rfl
 | c :: q, h => by
  have ih := peek_loop s hs k e q (tail_suf h)
  by_cases hb : isBl c = true
  ·rw [skp_of' hb]
   refine TendsL.step (.of fun F => ?_) ih
   obtain ⟨i, h1, h2⟩ := blk_at F c
   unfold M_json_reader_peek_l0 st
   simp only [at_in h, decide_true, if_true, idx_suf h, Option.bind_some, h1, h2, hb]
   rw [next_suf h hs]
  ·have hb : isBl c = false := by simpa using hb
   rw [skp_of hb]
   refine TendsL.fin (.of fun F => ?_)
   obtain ⟨i, h1, h2⟩ := blk_at F c
   unfold M_json_reader_peek_l0 st
   simp only [at_in h, decide_true, if_true, idx_suf h, Option.bind_some, h1, h2, hb, Bool.false_eq_true, if_false]
def hd (r : By) : Int := match r with
 | [] => 0
 | c :: _ => (c.toNat : Int)
theorem peek_t (s r : By) (h : r <:+ s) (hs : s.length ≤ 1000) (k e : Int) : Tends (fun F => M_json_reader_peek F (st s r k e)) (if e = 0 then hd (skp r) else 0, st s (skp r) k e) := by
 unfold M_json_reader_peek
 refine (peek_loop s hs k e r h).run.bind ?_
 have hsuf : skp r <:+ s := (skp_suffix r).trans h
 refine .of fun F => ?_
 unfold st
 simp only
 by_cases he : e = 0
 ·simp only [he, decide_true, Bool.not_true, if_true, Bool.false_eq_true, if_false]
  cases hr : skp r with
  | nil => simp [hd]
  | cons c q =>
   rw [hr] at hsuf
   have h1 := at_in hsuf
   have h2 : ¬ (s.length : Int) ≤ ((s.length - (c :: q).length : Nat) : Int) := by omega
   simp only [h2, decide_false, Option.bind_some, Bool.false_eq_true, if_false, idx_suf hsuf, hd]
 ·simp only [he, decide_false, Bool.not_false, if_false, Bool.true_eq_false, Option.bind_some, if_true]
/-! ### the end of a list, a comma -/
theorem leave_t (s r : By) (h : r <:+ s) (hs : s.length ≤ 1000) (k e : Int) (z : UInt8) (hz : z ≠ 0) (hk : -1000 ≤ k ∧ k ≤ 1000) : Tends (fun F => M_json_reader_leave F (st s r k e, (z.toNat : Int)))
  (if e = 0 ∧ (skp r).head? = some z then (true, st s (skp r).tail (k - 1) e) else (false, st s (skp r) k e)) := by
 unfold M_json_reader_leave
 refine (peek_t s r h hs k e).bind ?_
 have hsuf : skp r <:+ s := (skp_suffix r).trans h
 have hz0 : (z.toNat : Int) ≠ 0 := by
  intro hh
  apply hz
  apply UInt8.toNat_inj.1
  show z.toNat = 0
  omega
 by_cases he : e = 0
 ·subst he
  cases hr : skp r with
  | nil =>
   refine .of fun F => ?_
   unfold st
   have : ¬ (0 : Int) = (z.toNat : Int) := fun hh => hz0 hh.symm
   simp [hd, this]
  | cons c q =>
   rw [hr] at hsuf
   refine .of fun F => ?_
   by_cases hc : c = z
   ·subst hc
    unfold st
    simp only [hd, if_true, decide_true, Bool.not_true, Bool.false_eq_true, if_false, List.head?_cons, and_self, List.tail_cons]
    rw [next_suf hsuf hs, wrap64 _ (by omega) (by omega)]
   ·have : ¬ (c.toNat : Int) = (z.toNat : Int) := by
     intro hh
     exact hc (UInt8.toNat_inj.1 (by omega))
    unfold st
    simp [hd, this, hc]
 ·refine .of fun F => ?_
  unfold st
  have : ¬ (0 : Int) = (z.toNat : Int) := fun hh => hz0 hh.symm
  simp [he, this]
theorem comma_t (s r : By) (h : r <:+ s) (hs : s.length ≤ 1000) (k e : Int) (z : UInt8) (hz : z ≠ 0) (hk : -1000 ≤ k ∧ k ≤ 1000) (hzc : z ≠ 44) : Tends (fun F => M_json_reader_comma F (st s r k e, (z.toNat : Int)))
  (if e = 0 ∧ (skp r).head? = some 44 then (true, st s (skp r).tail k e) else if e = 0 ∧ (skp r).head? = some z then (false, st s (skp r).tail (k - 1) e) else (false, st s (skp r) k (if e = 0 then 3 else e))) := by
 unfold M_json_reader_comma
 refine (peek_t s r h hs k e).bind ?_
 have hsuf : skp r <:+ s := (skp_suffix r).trans h
 have hl := leave_t s (skp r) hsuf hs k e z hz hk
 rw [skp_idem] at hl
 by_cases hc : e = 0 ∧ (skp r).head? = some 44
 ·rw [if_pos hc]
  obtain ⟨rfl, hc⟩ := hc
  cases hr : skp r with
  | nil => rw [hr] at hc; cases hc
  | cons c q =>
   rw [hr] at hc hsuf
   injection hc with hc
   subst hc
   refine .of fun F => ?_
   unfold st
   have e44 : hd ((44 : UInt8) :: q) = 44 := rfl
   simp only [if_true, e44, decide_true, List.tail_cons]
   rw [next_suf hsuf hs]
 ·rw [if_neg hc]
  have hne : ¬ (if e = 0 then hd (skp r) else 0) = (44 : Int) := by
   intro hh
   apply hc
   by_cases he : e = 0
   ·rw [if_pos he] at hh
    refine ⟨he, ?_⟩
    cases hr : skp r with
    | nil => rw [hr] at hh; exact absurd hh (by decide)
    | cons c q =>
     rw [hr] at hh
     have h2 : (c.toNat : Int) = 44 := hh
     have : c = 44 := UInt8.toNat_inj.1 (show c.toNat = 44 by omega)
     rw [this]; rfl
   ·rw [if_neg he] at hh; exact absurd hh (by decide)
  refine Tends.neg (by simpa using hne) ?_
  refine hl.bind ?_
  by_cases h2 : e = 0 ∧ (skp r).head? = some z
  ·rw [if_pos h2, if_pos h2]
   exact .of fun F => rfl
  ·rw [if_neg h2, if_neg h2]
   refine .of fun F => ?_
   unfold st
   simp only [Bool.not_false, if_true, fail_eq, Option.bind_some]
theorem enter_t (s q : By) (c : UInt8) (h : c :: q <:+ s) (hs : s.length ≤ 1000) (k : Int) (hk : 0 ≤ k ∧ k ≤ 100) : Tends (fun F => M_json_reader_enter F (st s (c :: q) k 0)) ((), st s q (k + 1) (if 8 < k + 1 then 10 else 0)) := by
 unfold M_json_reader_enter
 refine .of fun F => ?_
 unfold st
 simp only
 rw [wrap64 (k + 1) (by omega) (by omega)]
 by_cases h8 : 8 < k + 1
 ·simp only [h8, decide_true, if_true, fail_eq, Option.bind_some]
  rw [next_suf h hs]
 ·simp only [h8, decide_false, Bool.false_eq_true, if_false, Option.bind_some]
  rw [next_suf h hs]
/-! ### escapes -/
theorem wrap32' (n : Int) (h : -2147483648 ≤ n) (h' : n ≤ 2147483647) : IntKind.i32.wrap n = n := by
 simp only [IntKind.wrap, IntKind.signed, IntKind.bits]
 simp
 omega
theorem shl_or (n v : Nat) (hn : n < 4096) (hv : v < 16) : ior .i32 (shl .i32 ((n : Nat) : Int) 4) ((v : Nat) : Int) = ((n * 16 + v : Nat) : Int) := by
 have hb : IntKind.i32.bits = 32 := rfl
 have e1 : shl .i32 ((n : Nat) : Int) 4 = ((n * 16 : Nat) : Int) := by
  unfold shl
  have : min (4 : Int).toNat IntKind.i32.bits = 4 := rfl
  rw [this, wrap32' _ (by omega) (by omega)]
  omega
 rw [e1]
 unfold ior
 rw [hb, BitVec.ofInt_natCast, BitVec.ofInt_natCast, BitVec.toNat_or, BitVec.toNat_ofNat, BitVec.toNat_ofNat, Nat.mod_eq_of_lt (by omega), Nat.mod_eq_of_lt (by omega)]
 have e2 : n * 16 ||| v = n * 16 + v := by
  have := Nat.shiftLeft_add_eq_or_of_lt (i := 4) (b := v) hv n
  rw [Nat.shiftLeft_eq] at this
  exact this.symm
 rw [e2, wrap32' _ (by omega) (by omega)]
theorem hex_byte : ∀ c : Fin 256, (if 48 ≤ c.val then decide (c.val ≤ 57) else false) = true → hexD (UInt8.ofNat c.val) = some (IntKind.i32.wrap (IntKind.u8.wrap (((c.val : Nat) : Int) - 48))).toNat ∧ 0 ≤ IntKind.i32.wrap (IntKind.u8.wrap (((c.val : Nat) : Int) - 48)) := by decide +kernel
theorem hex_byte2 : ∀ c : Fin 256, (if 48 ≤ c.val then decide (c.val ≤ 57) else false) = false → (if 97 ≤ ior .u8 ((c.val : Nat) : Int) 32 then decide (ior .u8 ((c.val : Nat) : Int) 32 ≤ 102) else false) = true →
  hexD (UInt8.ofNat c.val) = some (IntKind.i32.wrap (IntKind.u8.wrap (IntKind.u8.wrap (ior .u8 ((c.val : Nat) : Int) 32 - 97) + 10))).toNat ∧ 0 ≤ IntKind.i32.wrap (IntKind.u8.wrap (IntKind.u8.wrap (ior .u8 ((c.val : Nat) : Int) 32 - 97) + 10)) := by decide +kernel
theorem hex_byte3 : ∀ c : Fin 256, (if 48 ≤ c.val then decide (c.val ≤ 57) else false) = false → (if 97 ≤ ior .u8 ((c.val : Nat) : Int) 32 then decide (ior .u8 ((c.val : Nat) : Int) 32 ≤ 102) else false) = false → hexD (UInt8.ofNat c.val) = none := by decide +kernel
theorem hex_step (F : Nat) (s : By) (n i : Nat) (c : UInt8) (hc : idx s (i : Int) = some c) (hn : n < 4096) (hi : i < 4) : M_json_hex_l0 F (s, (n : Int), (i : Int), ()) = some (match hexD c with
  | some v => .inl (s, ((n * 16 + v : Nat) : Int), ((i + 1 : Nat) : Int), ())
  | none => .inr (.inr (0, false, ()))) := by
 have hb := c.toNat_lt
 have hx : UInt8.ofNat c.toNat = c := by simp
 have h1 := hex_byte ⟨c.toNat, hb⟩
 have h2 := hex_byte2 ⟨c.toNat, hb⟩
 have h3 := hex_byte3 ⟨c.toNat, hb⟩
 simp only [hx] at h1 h2 h3
 have i4 : (i : Int) < 4 := by omega
 have iw : IntKind.i64.wrap ((i : Int) + 1) = ((i + 1 : Nat) : Int) := by rw [wrap64 _ (by omega) (by omega)]; rfl
 unfold M_json_hex_l0
 simp only [i4, decide_true, if_true, hc, Option.bind_some, sumC_inl, sumC_inr, iw]
 by_cases d1 : 48 ≤ c.toNat
 ·have d1' : (48 : Int) ≤ (c.toNat : Int) := by omega
  by_cases d2 : c.toNat ≤ 57
  ·have d2' : (c.toNat : Int) ≤ 57 := by omega
   obtain ⟨q1, q2⟩ := h1 (by simp [d1, d2])
   have q3 := shl_or n _ hn (hexD_lt q1)
   simp only [d1', d2', decide_true, if_true, Option.bind_some, sumC_inl, sumC_inr, iw, hc, q1] at q3 ⊢
   rw [Int.toNat_of_nonneg q2] at q3
   rw [q3]
  ·have d2' : ¬ (c.toNat : Int) ≤ 57 := by omega
   by_cases d3 : (if 97 ≤ ior .u8 (c.toNat : Int) 32 then decide (ior .u8 (c.toNat : Int) 32 ≤ 102) else false) = true
   ·obtain ⟨q1, q2⟩ := h2 (by simp [d1, d2]) d3
    have q3 := shl_or n _ hn (hexD_lt q1)
    have d4 : 97 ≤ ior .u8 (c.toNat : Int) 32 := by by_cases hh : 97 ≤ ior .u8 (c.toNat : Int) 32; exact hh; rw [if_neg hh] at d3; cases d3
    rw [if_pos d4] at d3
    simp only [d1', d2', decide_true, decide_false, if_true, Bool.false_eq_true, if_false, Option.bind_some, sumC_inl, sumC_inr, iw, hc, q1, d4, d3] at q3 ⊢
    rw [Int.toNat_of_nonneg q2] at q3
    rw [q3]
   ·have d3 : (if 97 ≤ ior .u8 (c.toNat : Int) 32 then decide (ior .u8 (c.toNat : Int) 32 ≤ 102) else false) = false := by simpa using d3
    have q1 := h3 (by simp [d1, d2]) d3
    by_cases d4 : 97 ≤ ior .u8 (c.toNat : Int) 32
    ·rw [if_pos d4] at d3
     simp only [d1', d2', decide_true, decide_false, if_true, Bool.false_eq_true, if_false, Option.bind_some, sumC_inl, sumC_inr, iw, hc, q1, d4, d3]
    ·simp only [d1', d2', decide_true, decide_false, if_true, Bool.false_eq_true, if_false, Option.bind_some, sumC_inl, sumC_inr, iw, hc, q1, d4]
 ·have d1' : ¬ (48 : Int) ≤ (c.toNat : Int) := by omega
  by_cases d3 : (if 97 ≤ ior .u8 (c.toNat : Int) 32 then decide (ior .u8 (c.toNat : Int) 32 ≤ 102) else false) = true
  ·obtain ⟨q1, q2⟩ := h2 (by simp [d1]) d3
   have q3 := shl_or n _ hn (hexD_lt q1)
   have d4 : 97 ≤ ior .u8 (c.toNat : Int) 32 := by by_cases hh : 97 ≤ ior .u8 (c.toNat : Int) 32; exact hh; rw [if_neg hh] at d3; cases d3
   rw [if_pos d4] at d3
   simp only [d1', decide_true, decide_false, if_true, Bool.false_eq_true, if_false, Option.bind_some, sumC_inl, sumC_inr, iw, hc, q1, d4, d3] at q3 ⊢
   rw [Int.toNat_of_nonneg q2] at q3
   rw [q3]
  ·have d3 : (if 97 ≤ ior .u8 (c.toNat : Int) 32 then decide (ior .u8 (c.toNat : Int) 32 ≤ 102) else false) = false := by simpa using d3
   have q1 := h3 (by simp [d1]) d3
   by_cases d4 : 97 ≤ ior .u8 (c.toNat : Int) 32
   ·rw [if_pos d4] at d3
    simp only [d1', decide_true, decide_false, if_true, Bool.false_eq_true, if_false, Option.bind_some, sumC_inl, sumC_inr, iw, hc, q1, d4, d3]
   ·simp only [d1', decide_true, decide_false, if_true, Bool.false_eq_true, if_false, Option.bind_some, sumC_inl, sumC_inr, iw, hc, q1, d4]
def hexR (s : By) : Int × Bool := match hexN s with
 | some n => ((n : Int), true)
 | none => (0, false)
theorem hexN_short {s : By} (h : s.length < 4) : hexN s = none := by
 unfold hexN
 split
 ·simp at h; omega
 ·rfl
theorem idx_at {α : Type} (l : List α) (k : Nat) (x : α) (h : l[k]? = some x) : idx l (k : Int) = some x := by
 unfold idx
 rw [if_pos (by omega), Int.toNat_natCast, h]
theorem four_of {s : By} (h : 4 ≤ s.length) : ∃ a b c d r, s = a :: b :: c :: d :: r := by
 rcases s with _ | ⟨a, _ | ⟨b, _ | ⟨c, _ | ⟨d, r⟩⟩⟩⟩
 ·simp at h
 ·simp at h
 ·simp at h
 ·simp at h
 ·exact ⟨a, b, c, d, r, rfl⟩
theorem hex_t (s : By) : Tends (fun F => M_json_hex F s) (hexR s) := by
 unfold M_json_hex
 by_cases h4 : s.length < 4
 ·refine Tends.pos (by have : (s.length : Int) < 4 := by omega
                       simpa using this) ?_
  unfold hexR
  rw [hexN_short h4]
  exact .ret _
 ·refine Tends.neg (by have : ¬ (s.length : Int) < 4 := by omega
                       simpa using this) ?_
  obtain ⟨a, b, c, d, r, rfl⟩ := four_of (by omega : 4 ≤ s.length)
  ·have key : TendsL M_json_hex_l0 (a :: b :: c :: d :: r, 0, 0, ()) (match hexN (a :: b :: c :: d :: r) with
     | some n => .inl ((n : Int), ())
     | none => .inr (0, false, ())) := by
    have s0 := fun F => hex_step F (a :: b :: c :: d :: r) 0 0 a (idx_at _ 0 _ rfl) (by omega) (by omega)
    show TendsL M_json_hex_l0 (a :: b :: c :: d :: r, ((0 : Nat) : Int), ((0 : Nat) : Int), ()) _
    unfold hexN
    simp only
    cases ha : hexD a with
    | none =>
     simp only [ha] at s0
     exact TendsL.fin (.of s0)
    | some na =>
     have l1 := hexD_lt ha
     simp only [ha] at s0
     refine TendsL.step (.of s0) ?_
     have s1 := fun F => hex_step F (a :: b :: c :: d :: r) (0 * 16 + na) 1 b (idx_at _ 1 _ rfl) (by omega) (by omega)
     simp only [Option.bind_some]
     cases hb : hexD b with
     | none =>
      simp only [hb] at s1
      exact TendsL.fin (.of s1)
     | some nb =>
      have l2 := hexD_lt hb
      simp only [hb] at s1
      refine TendsL.step (.of s1) ?_
      have s2 := fun F => hex_step F (a :: b :: c :: d :: r) ((0 * 16 + na) * 16 + nb) 2 c (idx_at _ 2 _ rfl) (by omega) (by omega)
      simp only [Option.bind_some]
      cases hc : hexD c with
      | none =>
       simp only [hc] at s2
       exact TendsL.fin (.of s2)
      | some nc =>
       have l3 := hexD_lt hc
       simp only [hc] at s2
       refine TendsL.step (.of s2) ?_
       have s3 := fun F => hex_step F (a :: b :: c :: d :: r) (((0 * 16 + na) * 16 + nb) * 16 + nc) 3 d (idx_at _ 3 _ rfl) (by omega) (by omega)
       simp only [Option.bind_some]
       cases hd : hexD d with
       | none =>
        simp only [hd] at s3
        exact TendsL.fin (.of s3)
       | some nd =>
        simp only [hd] at s3
        refine TendsL.step (.of s3) (TendsL.fin (.of fun F => ?_))
        unfold M_json_hex_l0
        have : ¬ ((3 + 1 : Nat) : Int) < 4 := by decide
        simp only [this, decide_false, Bool.false_eq_true, if_false, Option.bind_some]
        congr 5
        omega
   refine key.run.bind ?_
   unfold hexR
   cases hexN (a :: b :: c :: d :: r) with
   | none => exact .ret _
   | some n => exact .ret _
theorem hasP_eq (F : Nat) (a p : By) : M_strings_HasPrefix F (a, p) = some (decide (a.take p.length = p)) := by
 unfold M_strings_HasPrefix M_internal_stringslite_HasPrefix
 simp only
 by_cases h : p.length ≤ a.length
 ·have h' : (p.length : Int) ≤ (a.length : Int) := by omega
  have e := sub_nat a 0 p.length (Nat.zero_le _) h
  simp only [Nat.sub_zero, List.drop_zero] at e
  have e2 : sub a 0 (p.length : Int) = some (a.take p.length) := e
  simp only [h', decide_true, if_true, e2, Option.bind_some]
 ·have h' : ¬ (p.length : Int) ≤ (a.length : Int) := by omega
  have : ¬ a.take p.length = p := by
   intro hh
   have := congrArg List.length hh
   rw [List.length_take] at this
   omega
  simp only [h', decide_false, Bool.false_eq_true, if_false, Option.bind_some, this]
def outP (x : Option (Nat × Nat)) : Int × Int := match x with
 | some (c, k) => ((c : Int), (k : Int))
 | none => (0, 0)
theorem outP_some (c k : Nat) : outP (some (c, k)) = ((c : Int), (k : Int)) := rfl
theorem outP_none : outP none = (0, 0) := rfl
def ptR (r : By) : Int × Int := outP (uniP r)
theorem shl10 : ∀ a : Fin 1024, shl .i32 ((a.val : Nat) : Int) 10 = ((a.val * 1024 : Nat) : Int) := by decide +kernel
theorem take2 {q : By} (h : q.take 2 = [92, 117]) : ∃ q', q = 92 :: 117 :: q' := by
 rcases q with _ | ⟨x, _ | ⟨y, q⟩⟩
 ·cases h
 ·cases h
 ·injection h with h1 h2
  injection h2 with h2 _
  exact ⟨q, by rw [h1, h2]⟩
theorem lowP_none {n : Nat} {r : By} (h : ¬ r.take 2 = [92, 117]) : lowP n r = none := by
 unfold lowP
 split
 ·exact absurd rfl h
 ·rfl
theorem pair_val (F n m : Nat) (h1 : ¬ n < 55296) (h2 : ¬ 56320 ≤ n) (h3 : 56320 ≤ m ∧ m ≤ 57343) :
  IntKind.i32.wrap (IntKind.i32.wrap (IntKind.i32.wrap (65536 + shl .i32 (IntKind.i32.wrap ((n : Int) - 55296)) 10) + (m : Int)) - 56320) = (pairN n m : Int) := by
 unfold pairN
 have e9 : IntKind.i32.wrap ((n : Int) - 55296) = ((n - 55296 : Nat) : Int) := by rw [wrap32' _ (by omega) (by omega)]; omega
 have e10 := shl10 ⟨n - 55296, by omega⟩
 simp only at e10
 rw [e9, e10]
 simp (disch := omega) only [wrap32']
 omega
theorem pt_gen (lo hi be : Int) (x : By) (n : Int) (K : By → Int → Option (Int × Int)) :
  ((if decide (lo ≤ n) = true then some (x, n, decide (n < be), ()) else some (x, n, false, ()) : Option (By × Int × Bool × Unit)).bind fun v2 => if v2.2.2.1 = true then some (0, 0) else
    (if decide (v2.2.1 < hi) = false then some (v2.1, v2.2.1, decide (be ≤ v2.2.1), ()) else some (v2.1, v2.2.1, true, ()) : Option (By × Int × Bool × Unit)).bind fun v3 => if v3.2.2.1 = true then some (v3.2.1, 6) else K v3.1 v3.2.1) =
  if lo ≤ n ∧ n < be then some (0, 0) else if n < hi ∨ be ≤ n then some (n, 6) else K x n := by
 by_cases h1 : lo ≤ n <;> by_cases h2 : n < be <;> by_cases h3 : n < hi <;> by_cases h4 : be ≤ n <;> first
  | (exfalso; omega)
  | simp only [h1, h2, h3, h4, decide_true, decide_false, if_true, if_false, Bool.false_eq_true, Bool.true_eq_false, Option.bind_some, and_self, and_true, and_false, false_and, true_and, or_self, or_true, true_or, or_false, false_or]
theorem pt_gen2 (lo be n m : Int) (K : Int → Int → Int) :
  ((if (!true) = false then some (n, m, decide (m < lo), ()) else some (n, m, true, ()) : Option (Int × Int × Bool × Unit)).bind fun v8 =>
    (if v8.2.2.1 = false then some (v8.1, v8.2.1, decide (be ≤ v8.2.1), ()) else some (v8.1, v8.2.1, true, ()) : Option (Int × Int × Bool × Unit)).bind fun v9 => if v9.2.2.1 = true then some (0, 0) else some (K v9.1 v9.2.1, 12)) =
  if m < lo ∨ be ≤ m then some (0, 0) else some (K n m, (12 : Int)) := by
 by_cases h1 : m < lo <;> by_cases h2 : be ≤ m <;> simp [h1, h2]
noncomputable def ptK (F : Nat) (x : By) (n : Int) : Option (Int × Int) :=
 (sub x 6 (x.length : Int)).bind fun v4 =>
  (M_strings_HasPrefix F (v4, [92, 117])).bind fun v5 =>
   if (!v5) = true then some (0, 0)
   else
    (sub x 8 (x.length : Int)).bind fun v6 =>
     (M_json_hex F v6).bind fun v7 =>
      (if (!v7.2) = false then some (n, v7.1, decide (v7.1 < 56320), ()) else some (n, v7.1, true, ())).bind fun v8 =>
       (if v8.2.2.1 = false then some (v8.1, v8.2.1, decide (57344 ≤ v8.2.1), ()) else some (v8.1, v8.2.1, true, ())).bind fun v9 =>
        if v9.2.2.1 = true then some (0, 0)
        else
         some
          (IntKind.i32.wrap
            (IntKind.i32.wrap (IntKind.i32.wrap (65536 + shl IntKind.i32 (IntKind.i32.wrap (v9.1 - 55296)) 10) + v9.2.1) - 56320),
           12)
theorem point_eq (F : Nat) (x : By) : M_json_point F x = (sub x 2 (x.length : Int)).bind fun v0 => (M_json_hex F v0).bind fun v1 =>
  (if (!v1.2) = false then if decide (56320 ≤ v1.1) = true then some (x, v1.1, decide (v1.1 < 57344), ()) else some (x, v1.1, false, ()) else some (x, v1.1, true, ())).bind fun v2 =>
   if v2.2.2.1 = true then some (0, 0)
   else (if decide (v2.2.1 < 55296) = false then some (v2.1, v2.2.1, decide (57344 ≤ v2.2.1), ()) else some (v2.1, v2.2.1, true, ())).bind fun v3 => if v3.2.2.1 = true then some (v3.2.1, 6) else ptK F v3.1 v3.2.1 := rfl
theorem low_t (a b : UInt8) (r : By) (hr : 4 ≤ r.length) (n : Nat) (c1 : ¬ n < 55296) (c3 : ¬ 56320 ≤ n) : Tends (fun F => ptK F (a :: b :: r) (n : Int)) (outP (lowP n (r.drop 4))) := by
 unfold ptK
 have e6 : sub (a :: b :: r) 6 ((a :: b :: r).length : Int) = some (r.drop 4) := sub_to_end (a :: b :: r) 6 (by simp; omega)
 have hlen2 : ([92, 117] : By).length = 2 := rfl
 refine Tends.congr (m := fun F => if (!decide ((r.drop 4).take 2 = [92, 117])) = true then some (0, 0) else (sub (a :: b :: r) 8 ((a :: b :: r).length : Int)).bind fun v6 => (M_json_hex F v6).bind fun v7 =>
      (if (!v7.2) = false then some ((n : Int), v7.1, decide (v7.1 < 56320), ()) else some ((n : Int), v7.1, true, ())).bind fun v8 =>
       (if v8.2.2.1 = false then some (v8.1, v8.2.1, decide (57344 ≤ v8.2.1), ()) else some (v8.1, v8.2.1, true, ())).bind fun v9 =>
        if v9.2.2.1 = true then some (0, 0)
        else
         some
          (IntKind.i32.wrap
            (IntKind.i32.wrap (IntKind.i32.wrap (65536 + shl IntKind.i32 (IntKind.i32.wrap (v9.1 - 55296)) 10) + v9.2.1) - 56320),
           12)) ?_ fun F => by rw [e6, Option.bind_some, hasP_eq, Option.bind_some]; rfl
 by_cases hp : (r.drop 4).take 2 = [92, 117]
 ·obtain ⟨q, hq⟩ := take2 hp
  have hl := congrArg List.length hq
  simp at hl
  have e8 : sub (a :: b :: r) 8 ((a :: b :: r).length : Int) = some q := by
   have h8 := sub_to_end (a :: b :: r) 8 (by simp; omega)
   rw [show (a :: b :: r).drop 8 = (r.drop 4).drop 2 by simp, hq] at h8
   exact h8
  refine Tends.neg (by simp [hp]) ?_
  rw [e8]
  refine Tends.bind (.ret q) ?_
  refine (hex_t q).bind ?_
  rw [hq]
  unfold lowP hexR
  simp only
  cases hm : hexN q with
  | none => exact .of fun F => by rw [Option.bind_none, outP_none]; rfl
  | some m =>
   obtain ⟨m1, m2⟩ := hexN_lt hm
   rw [Option.bind_some]
   refine Tends.congr (m := fun _ => _) ?_ fun F => pt_gen2 56320 57344 (n : Int) (m : Int) fun x y => IntKind.i32.wrap (IntKind.i32.wrap (IntKind.i32.wrap (65536 + shl IntKind.i32 (IntKind.i32.wrap (x - 55296)) 10) + y) - 56320)
   by_cases c5 : 56320 ≤ m ∧ m ≤ 57343
   ·have hv := pair_val 0 n m c1 c3 c5
    refine Tends.neg (by omega) ?_
    rw [if_pos c5, outP_some, hv]
    exact .ret _
   ·refine Tends.pos (by omega) ?_
    rw [if_neg c5, outP_none]
    exact .ret _
 ·rw [lowP_none hp, outP_none]
  exact Tends.pos (by simp [hp]) (.ret _)
theorem point_t (a b : UInt8) (r : By) : Tends (fun F => M_json_point F (a :: b :: r)) (ptR r) := by
 have e2 : sub (a :: b :: r) 2 ((a :: b :: r).length : Int) = some r := sub_to_end (a :: b :: r) 2 (by simp)
 refine Tends.congr ?_ fun F => point_eq F _
 rw [e2]
 refine Tends.bind (.ret r) ?_
 refine (hex_t r).bind ?_
 unfold ptR uniP hexR
 cases hn : hexN r with
 | none => exact .of fun F => by rw [Option.bind_none, outP_none]; rfl
 | some n =>
  obtain ⟨n1, n2⟩ := hexN_lt hn
  rw [Option.bind_some]
  refine Tends.congr (m := fun F => _) ?_ fun F => pt_gen 56320 55296 57344 (a :: b :: r) (n : Int) (ptK F)
  by_cases c1 : n < 55296 ∨ 57343 < n
  ·rw [if_pos c1, outP_some]
   exact Tends.neg (by omega) (Tends.pos (by omega) (.ret _))
  rw [if_neg c1]
  by_cases c3 : 56320 ≤ n
  ·rw [if_pos c3, outP_none]
   exact Tends.pos (by omega) (.ret _)
  ·rw [if_neg c3]
   exact Tends.neg (by omega) (Tends.neg (by omega) (low_t a b r n2 n (by omega) c3))
def escR (r : By) : Int × Int := outP (escP r)
theorem escape_t (r : By) : Tends (fun F => M_json_escape F (92 :: r)) (escR r) := by
 unfold M_json_escape escR
 cases r with
 | nil => exact .of fun F => by simp [escP, outP_none]
 | cons c r =>
  have h2 : ¬ (((92 : UInt8) :: c :: r).length : Int) < 2 := by simp; omega
  have hi : idx ((92 : UInt8) :: c :: r) 1 = some c := idx_at _ 1 _ rfl
  have hp := point_t 92 c r
  have nv : ∀ k : UInt8, ((c.toNat : Int) = (k.toNat : Int)) = (c = k) := by
   intro k
   apply propext
   constructor
   ·intro hh; exact UInt8.toNat_inj.1 (by omega)
   ·intro hh; rw [hh]
  have n34 := nv 34; have n92 := nv 92; have n47 := nv 47; have n98 := nv 98; have n102 := nv 102; have n110 := nv 110; have n114 := nv 114; have n116 := nv 116; have n117 := nv 117
  have t34 : ((34 : UInt8).toNat : Int) = 34 := rfl
  have t92 : ((92 : UInt8).toNat : Int) = 92 := rfl
  have t47 : ((47 : UInt8).toNat : Int) = 47 := rfl
  have t98 : ((98 : UInt8).toNat : Int) = 98 := rfl
  have t102 : ((102 : UInt8).toNat : Int) = 102 := rfl
  have t110 : ((110 : UInt8).toNat : Int) = 110 := rfl
  have t114 : ((114 : UInt8).toNat : Int) = 114 := rfl
  have t116 : ((116 : UInt8).toNat : Int) = 116 := rfl
  have t117 : ((117 : UInt8).toNat : Int) = 117 := rfl
  rw [t34] at n34; rw [t92] at n92; rw [t47] at n47; rw [t98] at n98; rw [t102] at n102; rw [t110] at n110; rw [t114] at n114; rw [t116] at n116; rw [t117] at n117
  simp only [h2, decide_false, Bool.false_eq_true, if_false, hi, Option.bind_some, n34, n92, n47, n98, n102, n110, n114, n116, n117]
  unfold escP
  simp only
  by_cases c1 : c = 34 ∨ c = 92 ∨ c = 47
  ·refine .of fun F => ?_
   rcases c1 with rfl | rfl | rfl <;> rfl
  ·have a1 : ¬ c = 34 := fun hh => c1 (.inl hh)
   have a2 : ¬ c = 92 := fun hh => c1 (.inr (.inl hh))
   have a3 : ¬ c = 47 := fun hh => c1 (.inr (.inr hh))
   simp only [a1, a2, a3, decide_false, Bool.false_eq_true, if_false, Option.bind_some, or_self]
   by_cases b1 : c = 98
   ·refine .of fun F => ?_
    simp only [b1, decide_true, if_true, outP_some]
    rfl
   simp only [b1, decide_false, Bool.false_eq_true, if_false]
   by_cases b2 : c = 102
   ·refine .of fun F => ?_
    simp only [b2, decide_true, if_true, outP_some]
    rfl
   simp only [b2, decide_false, Bool.false_eq_true, if_false]
   by_cases b3 : c = 110
   ·refine .of fun F => ?_
    simp only [b3, decide_true, if_true, outP_some]
    rfl
   simp only [b3, decide_false, Bool.false_eq_true, if_false]
   by_cases b4 : c = 114
   ·refine .of fun F => ?_
    simp only [b4, decide_true, if_true, outP_some]
    rfl
   simp only [b4, decide_false, Bool.false_eq_true, if_false]
   by_cases b5 : c = 116
   ·refine .of fun F => ?_
    simp only [b5, decide_true, if_true, outP_some]
    rfl
   simp only [b5, decide_false, Bool.false_eq_true, if_false]
   by_cases b6 : c = 117
   ·simp only [n98, n102, n110, n114, n116, n117, b1, b2, b3, b4, b5, b6, decide_true, if_true, decide_false, Bool.false_eq_true, if_false]
    subst b6
    unfold ptR at hp
    exact hp.bind (.ret _)
   ·refine .of fun F => ?_
    simp only [n98, n102, n110, n114, n116, n117, b1, b2, b3, b4, b5, b6, decide_false, Bool.false_eq_true, if_false, outP_none]
end Go.Vm
