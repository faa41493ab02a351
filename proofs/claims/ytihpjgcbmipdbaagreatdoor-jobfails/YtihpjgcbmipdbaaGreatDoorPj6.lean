import Derived.Test.YtihpjgcbmipdbaaGreatDoorPj4
import Derived.Lib.SplitLaws
import Derived.Lib.Join
import Derived.Lib.AtoiTie
import Derived.Test.YtihpjgcbmipdbaaGreatDoorPk1
import Derived.Test.YtihpjgcbmipdbaaGreatDoorPj2
import Derived.Test.YtihpjgcbmipdbaaGreatDoorFbld
/- Cutting at a byte, joining again, numbers and their texts: plainly. No condition. -/
namespace Go.Vm
open Go.Lib (decDigits itoa)
set_option linter.unusedVariables false
set_option linter.unusedSimpArgs false
/-! ### cut at each such byte -/
end Go.Vm
/- Phrases, plainly: names, gaps, pieces sign by sign and byte by byte. No condition. -/
namespace Go.Vm
open Go.Lib (decodeL decodeN decodeL_N decode_N decodeN_shape decodeL_le)
set_option linter.unusedVariables false
set_option linter.unusedSimpArgs false
def isNm (c : UInt8) : Bool := (decide (97 ≤ c.toNat) && decide (c.toNat ≤ 122)) || (decide (48 ≤ c.toNat) && decide (c.toNat ≤ 57))
def nmP (s : By) : Bool := s.all isNm && decide (1 ≤ s.length) && decide (s.length ≤ 12)
def gapN (s : By) : Nat := match s with
 | _ :: b :: r => if b = 37 ∨ b = 98 ∨ b = 107 ∨ b = 109 ∨ b = 112 then 2 else if b = 123 then
   (if (r.takeWhile (fun c => c != 125)).length < r.length ∧ nmP (r.takeWhile (fun c => c != 125)) = true then (r.takeWhile (fun c => c != 125)).length + 3 else 0) else 0
 | _ => 0
theorem gapN_le (s : By) : gapN s ≤ s.length := by
 unfold gapN
 split
 ·rename_i a b r
  split
  ·simp
  ·split
   ·split
    ·rename_i h
     simp only [List.length_cons]
     omega
    ·omega
   ·omega
 ·omega
theorem gapN_one (s : By) : gapN s ≠ 1 := by
 unfold gapN
 split
 ·split
  ·decide
  ·split
   ·split <;> omega
   ·decide
 ·decide
def plnB (b : UInt8) : Prop := 33 ≤ b.toNat ∧ b.toNat ≤ 126
theorem take_more (a : By) (x : UInt8) (t : By) : (a ++ x :: t).take (a.length + 1) = a ++ [x] := by
 rw [List.take_append, List.take_of_length_le (by omega), show a.length + 1 - a.length = 1 by omega]
 rfl
theorem gapN_bytes (r : By) : ∀ b ∈ (37 :: r : By).take (gapN (37 :: r)), plnB b := by
 unfold gapN
 split
 ·rename_i a c q heq
  injection heq with h1 h2
  subst h1; subst h2
  split
  ·rename_i hc
   intro b hb
   simp only [List.take_succ_cons, List.take_zero] at hb
   rcases List.mem_cons.1 hb with rfl | hb
   ·exact ⟨by decide, by decide⟩
   ·rw [List.mem_singleton] at hb
    subst hb
    rcases hc with rfl | rfl | rfl | rfl | rfl <;> exact ⟨by decide, by decide⟩
  ·split
   ·rename_i hb123
    subst hb123
    split
    ·rename_i hk
     obtain ⟨hk, hnm⟩ := hk
     intro b hb
     have hdec : q = q.takeWhile (fun c => c != 125) ++ q.dropWhile (fun c => c != 125) := (List.takeWhile_append_dropWhile ..).symm
     have hne : q.dropWhile (fun c => c != 125) ≠ [] := by
      intro hh
      rw [hh, List.append_nil] at hdec
      have := congrArg List.length hdec
      omega
     obtain ⟨x, t, hx⟩ := List.exists_cons_of_ne_nil hne
     have hx125 : x = 125 := by
      have := List.head_dropWhile_not (fun c => c != 125) hne
      simp only [hx, List.head_cons] at this
      simpa using this
     have htk : (37 :: 123 :: q : By).take ((q.takeWhile (fun c => c != 125)).length + 3) = 37 :: 123 :: (q.takeWhile (fun c => c != 125) ++ [x]) := by
      rw [show (q.takeWhile (fun c => c != 125)).length + 3 = ((q.takeWhile (fun c => c != 125)).length + 1) + 1 + 1 by omega, List.take_succ_cons, List.take_succ_cons]
      congr 2
      exact (congrArg (List.take _) (hdec.trans (by rw [hx]))).trans (take_more _ _ _)
     rw [htk] at hb
     unfold nmP at hnm
     simp only [Bool.and_eq_true] at hnm
     rcases List.mem_cons.1 hb with rfl | hb
     ·exact ⟨by decide, by decide⟩
     rcases List.mem_cons.1 hb with rfl | hb
     ·exact ⟨by decide, by decide⟩
     rcases List.mem_append.1 hb with hb | hb
     ·have := List.all_eq_true.1 hnm.1.1 b hb
      simp [isNm] at this
      unfold plnB
      omega
     ·rw [List.mem_singleton] at hb
      subst hb
      subst hx125
      exact ⟨by decide, by decide⟩
    ·intro b hb; rw [List.take_zero] at hb; cases hb
   ·intro b hb; rw [List.take_zero] at hb; cases hb
 ·intro b hb; rw [List.take_zero] at hb; cases hb
end Go.Vm
/- Phrases, plainly: pieces sign by sign are the pieces byte by byte. No condition. -/
namespace Go.Vm
open Go.Lib (decodeL decodeN decodeL_N decode_N decodeN_shape decodeL_le)
set_option linter.unusedVariables false
set_option linter.unusedSimpArgs false
abbrev Pc := Bool × List UInt8 × Unit
def cutF : Nat → By → Option (List Pc)
 | 0, _ => some []
 | n + 1, s => match s with
  | [] => some []
  | c :: r => if sortI ((decodeL s).1 : Int) = 0 then none else if c = 37 then (if gapN s = 0 then none else (cutF n (s.drop (gapN s))).map fun l => (true, s.take (gapN s), ()) :: l)
   else (cutF n (s.drop (decodeL s).2)).map fun l => (false, s.take (decodeL s).2, ()) :: l
def cutP (s : By) : Option (List Pc) := cutF s.length s
def flatL (val : By → By) (l : List Pc) : By := l.flatMap fun p => if p.1 = true then val p.2.1 else p.2.1
theorem cutF_fuel : ∀ (n m : Nat) (s : By), s.length ≤ n → s.length ≤ m → cutF n s = cutF m s
 | 0, 0, s, h, h' => rfl
 | 0, m + 1, s, h, h' => by
  obtain rfl : s = [] := List.length_eq_zero_iff.1 (by omega)
  rfl
 | n + 1, 0, s, h, h' => by
  obtain rfl : s = [] := List.length_eq_zero_iff.1 (by omega)
  rfl
 | n + 1, m + 1, s, h, h' => by
  cases s with
  | nil => rfl
  | cons c r =>
   have hp := decodeL_pos (c :: r)
   simp only [List.length_cons] at h h'
   unfold cutF
   simp only
   split
   ·rfl
   split
   ·split
    ·rfl
    ·rename_i hg
     have h1 := gapN_one (c :: r)
     rw [cutF_fuel n m ((c :: r).drop (gapN (c :: r))) (by simp; omega) (by simp; omega)]
   ·rw [cutF_fuel n m ((c :: r).drop (decodeL (c :: r)).2) (by simp; omega) (by simp; omega)]
theorem cutP_nil : cutP [] = some [] := rfl
theorem cutP_cons (c : UInt8) (r : By) : cutP (c :: r) = if sortI ((decodeL (c :: r)).1 : Int) = 0 then none else if c = 37 then (if gapN (c :: r) = 0 then none else (cutP ((c :: r).drop (gapN (c :: r)))).map fun l => (true, (c :: r).take (gapN (c :: r)), ()) :: l)
   else (cutP ((c :: r).drop (decodeL (c :: r)).2)).map fun l => (false, (c :: r).take (decodeL (c :: r)).2, ()) :: l := by
 have hp := decodeL_pos (c :: r)
 have h1 := gapN_one (c :: r)
 show cutF (r.length + 1) (c :: r) = _
 unfold cutF cutP
 simp only
 split
 ·rfl
 split
 ·split
  ·rfl
  ·rename_i hg
   rw [cutF_fuel r.length _ ((c :: r).drop (gapN (c :: r))) (by simp; omega) (Nat.le_refl _)]
 ·rw [cutF_fuel r.length _ ((c :: r).drop (decodeL (c :: r)).2) (by simp; omega) (Nat.le_refl _)]
theorem dec_one (c : UInt8) (h : c.toNat < 128) (r : By) : decodeL (c :: r) = (c.toNat, 1) := by
 have := dec_encN c.toNat (by unfold okR; omega) r
 have e : encN c.toNat = [c] := by unfold encN; rw [if_pos h]; simp
 rw [e] at this
 exact this
theorem signs_one (c : UInt8) (h : c.toNat < 128) (r : By) : signs (c :: r) = ((c.toNat : Int), [c]) :: signs r := by
 rw [signs_cons (by simp), dec_one c h]
 rfl
end Go.Vm
/- A sign written by strings.Builder, plainly. No condition but on lengths. -/
namespace Go.Vm
open Go.Lib (decodeL decodeN decodeL_N decode_N decodeN_shape decodeL_le)
set_option linter.unusedVariables false
set_option linter.unusedSimpArgs false
set_option maxHeartbeats 1000000 in
theorem append_eq (F c : Nat) (h : okR c) (l : List UInt8) (hl : l.length ≤ 1000000000000) : M_unicode_utf8_AppendRune F (l, (c : Int)) = some (l ++ enc8 (c : Int)) := by
 rw [enc8_val c h]
 obtain ⟨h1, h2⟩ := h
 have u : IntKind.u32.wrap (c : Int) = (c : Int) := wrapU32 _ (by omega) (by omega)
 have s6 : shr .i32 (c : Int) 6 = ((c / 64 : Nat) : Int) := shr_nat c 6 (by omega)
 have s12 : shr .i32 (c : Int) 12 = ((c / 4096 : Nat) : Int) := shr_nat c 12 (by omega)
 have s18 : shr .i32 (c : Int) 18 = ((c / 262144 : Nat) : Int) := shr_nat c 18 (by omega)
 have L1 : (l.length + 1) * 1 ≤ 140737488355328 := by omega
 have L2 : (l.length + 2) * 1 ≤ 140737488355328 := by omega
 have L3 : (l.length + 3) * 1 ≤ 140737488355328 := by omega
 have L4 : (l.length + 4) * 1 ≤ 140737488355328 := by omega
 unfold M_unicode_utf8_AppendRune M_unicode_utf8_appendRuneNonASCII encN
 simp only [u, s6, s12, s18, low6, List.length_cons, List.length_nil, Nat.zero_add, Nat.reduceAdd, L1, L2, L3, L4, decide_true, if_true, Option.bind_some]
 by_cases c1 : c < 128
 ·have : (c : Int) ≤ 127 := by omega
  simp only [c1, this, if_true, decide_true]
  rw [wrapU8 _ (by omega) (by omega)]
  simp
 have n1 : ¬ (c : Int) ≤ 127 := by omega
 by_cases c2 : c < 2048
 ·have : (c : Int) ≤ 2047 := by omega
  simp only [c1, n1, c2, this, if_true, if_false, decide_true, decide_false, Bool.false_eq_true, Option.bind_some]
  rw [wrapU8 _ (by omega) (by omega), io192 _ (by omega)]
  simp only [Int.toNat_natCast]
 have n2 : ¬ (c : Int) ≤ 2047 := by omega
 by_cases c3 : c < 65536
 ·have w : (c : Int) ≤ 65535 := by omega
  have : (c : Int) < 55296 ∨ (57343 : Int) < c := by omega
  have hx : ior .u8 224 (IntKind.u8.wrap ((c / 4096 : Nat) : Int)) = ((224 + c / 4096 : Nat) : Int) := by rw [wrapU8 _ (by omega) (by omega), io224 _ (by omega)]
  by_cases c4 : (c : Int) < 55296
  ·simp only [c1, n1, c2, n2, c3, c4, if_true, if_false, decide_true, decide_false, Bool.false_eq_true, Option.bind_some, Int.toNat_natCast, L3, hx, low6, s6, s12, s18]
  ·have c5 : (57343 : Int) < c := by omega
   simp only [c1, n1, c2, n2, c3, c4, c5, w, if_true, if_false, decide_true, decide_false, Bool.false_eq_true, Option.bind_some, Int.toNat_natCast, L3, hx, low6, s6, s12, s18]
 have n3 : ¬ (c : Int) ≤ 65535 := by omega
 have c4 : ¬ (c : Int) < 55296 := by omega
 have c5 : (57343 : Int) < c := by omega
 have c6 : (65535 : Int) < c := by omega
 have c7 : (c : Int) ≤ 1114111 := by omega
 have hx : ior .u8 240 (IntKind.u8.wrap ((c / 262144 : Nat) : Int)) = ((240 + c / 262144 : Nat) : Int) := by rw [wrapU8 _ (by omega) (by omega), io240 _ (by omega)]
 simp only [c1, n1, c2, n2, c3, n3, c4, c5, c6, c7, if_true, if_false, decide_true, decide_false, Bool.false_eq_true, Option.bind_some, Int.toNat_natCast, L4, hx, low6, s6, s12, s18]
theorem write_eq (F c : Nat) (h : okR c) (l : List UInt8) (hl : l.length ≤ 1000000000000) : ∃ n, M_strings_Builder_WriteRune F (((), l, ()), (c : Int)) = some ((n, ()), (), l ++ enc8 (c : Int), ()) := by
 unfold M_strings_Builder_WriteRune M_strings_Builder_copyCheck
 simp only [Option.bind_some, append_eq F c h l hl]
 exact ⟨_, rfl⟩
end Go.Vm
/- JSON, plainly: values. What is printed is read. No condition. -/
namespace Go.Vm
open Go.Lib (itoa)
set_option linter.unusedVariables false
set_option linter.unusedSimpArgs false
def okB (O : Option (JV → Prop)) : JV → Prop
 | .nil => False
 | .null => True
 | .bool _ => True
 | .int n => okN n
 | .str t => OkT t
 | .list l => match O with
  | none => False
  | some O => ∀ v ∈ l, O v
 | .obj l => match O with
  | none => False
  | some O => Ris l ∧ ∀ m ∈ l, OkT m.1 ∧ O m.2.1
def okV : Nat → JV → Prop
 | 0 => okB none
 | d + 1 => okB (some (okV d))
def Head (c : UInt8) : Prop := isBl c = false ∧ c ≠ 93 ∧ c ≠ 125 ∧ c ≠ 44
theorem dig_head {c : UInt8} (h : c = 45 ∨ isDig c = true) : Head c ∧ c ≠ 123 ∧ c ≠ 91 ∧ c ≠ 34 ∧ c ≠ 110 ∧ c ≠ 116 ∧ c ≠ 102 := by
 rcases h with rfl | h
 ·exact ⟨⟨rfl, by decide, by decide, by decide⟩, by decide, by decide, by decide, by decide, by decide, by decide⟩
 ·have hb : isBl c = false := by
   have q : ∀ k : UInt8, isDig k = false → (c == k) = false := by
    intro k hk
    rw [beq_eq_false_iff_ne]
    rintro rfl
    rw [h] at hk; cases hk
   unfold isBl
   rw [q 32 (by decide), q 9 (by decide), q 10 (by decide), q 13 (by decide)]
   rfl
  refine ⟨⟨hb, ?_, ?_, ?_⟩, ?_, ?_, ?_, ?_, ?_, ?_⟩ <;> (rintro rfl; exact absurd h (by decide))
theorem lay_head : ∀ (d : Nat) (v : JV), okV d v → ∃ c q, layP d v = c :: q ∧ Head c := by
 intro d v h
 have hd : Head 110 ∧ Head 116 ∧ Head 102 ∧ Head 34 ∧ Head 91 ∧ Head 123 := by refine ⟨?_, ?_, ?_, ?_, ?_, ?_⟩ <;> exact ⟨rfl, by decide, by decide, by decide⟩
 obtain ⟨h1, h2, h3, h4, h5, h6⟩ := hd
 cases v with
 | nil => cases d <;> exact h.elim
 | null => cases d <;> exact ⟨_, _, rfl, h1⟩
 | bool b => cases d <;> cases b <;> first | exact ⟨_, _, rfl, h2⟩ | exact ⟨_, _, rfl, h3⟩
 | int n =>
  obtain ⟨c, q, e, hc⟩ := itoa_head n
  cases d <;> exact ⟨c, q, e, (dig_head hc).1⟩
 | str t => cases d <;> exact ⟨_, _, rfl, h4⟩
 | list l => cases d with
  | zero => exact h.elim
  | succ d => exact ⟨_, _, rfl, h5⟩
 | obj l => cases d with
  | zero => exact h.elim
  | succ d => exact ⟨_, _, rfl, h6⟩
theorem skp_of {c : UInt8} (h : isBl c = false) (q : By) : skp (c :: q) = c :: q := by unfold skp; rw [List.dropWhile_cons_of_neg (by rw [h]; decide)]
theorem skp_of' {c : UInt8} (h : isBl c = true) (q : By) : skp (c :: q) = skp q := by unfold skp; rw [List.dropWhile_cons_of_pos h]
theorem join_len {α : Type} (f : α → By) : ∀ l : List α, (∀ v ∈ l, f v ≠ []) → l.length ≤ (joinB (l.map f)).length
 | [], _ => by simp
 | [v], h => by have := List.length_pos_iff.2 (h v (by simp)); simp [joinB]; omega
 | v :: w :: l, h => by
  have := join_len f (w :: l) (fun v hv => h v (List.mem_cons_of_mem _ hv))
  simp only [List.map_cons, joinB, List.length_append, List.length_cons] at this ⊢
  omega
end Go.Vm
