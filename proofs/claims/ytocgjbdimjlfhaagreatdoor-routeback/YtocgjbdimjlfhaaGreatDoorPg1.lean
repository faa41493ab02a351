import Derived.Test.YtocgjbdimjlfhaaGreatDoorV4
import Derived.Lib.MapLaws
import Derived.Lib.ItoaNum
import Derived.Lib.SplitLaws
import Derived.Lib.Join
import Derived.Lib.AtoiTie
/- Parts of lists, plainly. No condition. -/
namespace Go.Vm
set_option linter.unusedVariables false
open Go
theorem subN {α : Type} (s : List α) (a b : Nat) (h : a ≤ b) (h' : b ≤ s.length) : sub s (a : Int) (b : Int) = some ((s.drop a).take (b - a)) := by
  unfold sub
  rw [if_pos (by omega)]
  simp
theorem idxN {α : Type} (l : List α) (i : Nat) (n : Int) (hn : n = (i : Int)) (h : i < l.length) : idx l n = some l[i] := by
  subst hn
  unfold idx
  rw [if_pos (by omega)]
  simp [h]
theorem next_nat (i : Nat) (h : i < 9000000000000000) : IntKind.i64.wrap ((i : Int) + 1) = ((i + 1 : Nat) : Int) := by rw [wrap64] <;> omega
end Go.Vm
/- Signs and their bytes, plainly, with no model in sight. No condition but on lengths. -/
namespace Go.Vm
open Go.Lib (decodeL decodeN decodeL_N decode_N decodeN_shape decodeL_le)
set_option linter.unusedVariables false
set_option linter.unusedSimpArgs false
theorem decodeL_pos (l : List UInt8) : 1 ≤ (decodeL l).2 := by
  rw [decodeL_N]
  rcases decodeN_shape l.length (l.getD 0 0).toNat (l.getD 1 0).toNat (l.getD 2 0).toNat (l.getD 3 0).toNat with ⟨_, e⟩ | ⟨_, _, _, _, e⟩ | ⟨_, _, _, _, _, _, e⟩ | ⟨_, _, _, _, _, _, _, e⟩ | e <;> rw [e] <;> simp
theorem getD_drop (s : List UInt8) (i k : Nat) : (s.drop i).getD k 0 = s.getD (i + k) 0 := by simp [List.getD]
theorem dec_at (s : List UInt8) (i : Nat) : Utf8.decode ⟨s.toArray⟩ i = decodeL (s.drop i) := by
  rw [decode_N, decodeL_N]
  simp only [List.length_drop, getD_drop, Nat.add_zero]
theorem runeAt_eq (s : List UInt8) (i : Nat) : runeAt s i = ((decodeL (s.drop i)).1 : Int) := by unfold runeAt; rw [dec_at]; rfl
theorem runeLen_eq (s : List UInt8) (i : Nat) : runeLen s i = (decodeL (s.drop i)).2 := by unfold runeLen; rw [dec_at]
def signs (l : List UInt8) : List (Int × List UInt8) :=
  if h : l = [] then [] else (((decodeL l).1 : Int), l.take (decodeL l).2) :: signs (l.drop (decodeL l).2)
termination_by l.length
decreasing_by
  have := decodeL_pos l
  have : 0 < l.length := List.length_pos_iff.2 h
  simp only [List.length_drop]
  omega
theorem signs_nil : signs [] = [] := by rw [signs]; simp
theorem signs_cons {l : List UInt8} (h : l ≠ []) : signs l = (((decodeL l).1 : Int), l.take (decodeL l).2) :: signs (l.drop (decodeL l).2) := by
  conv => lhs; rw [signs]
  simp [h]
theorem signs_ind {p : List UInt8 → Prop} (h0 : p []) (h1 : ∀ l, l ≠ [] → p (l.drop (decodeL l).2) → p l) (l : List UInt8) : p l := by
  have : ∀ n (l : List UInt8), l.length ≤ n → p l := by
    intro n
    induction n with
    | zero => intro l hl; rw [List.length_eq_zero_iff.1 (by omega : l.length = 0)]; exact h0
    | succ n ih =>
      intro l hl
      by_cases hn : l = []
      · rw [hn]; exact h0
      · refine h1 l hn (ih _ ?_)
        have := decodeL_pos l
        have : 0 < l.length := List.length_pos_iff.2 hn
        simp only [List.length_drop]
        omega
  exact this l.length l (Nat.le_refl _)
theorem signs_len (l : List UInt8) : (signs l).length ≤ l.length := by
  induction l using signs_ind with
  | h0 => rw [signs_nil]; simp
  | h1 l hn ih =>
    rw [signs_cons hn]
    have := decodeL_pos l
    have : 0 < l.length := List.length_pos_iff.2 hn
    simp only [List.length_drop, List.length_cons] at ih ⊢
    omega
theorem idx_lit (l : List UInt8) (k : Nat) : idx l (k : Int) = if k < l.length then some (l.getD k 0) else none := by
  unfold idx
  rw [if_pos (by omega)]
  split
  · rename_i h; simp [h]
  · rename_i h; simp; omega
theorem sumC_ite {α β γ : Type} (c : Prop) [Decidable c] (s t : α ⊕ β) (f : α → γ) (g : β → γ) : sumC (if c then s else t) f g = if c then sumC s f g else sumC t f g := by split <;> rfl
theorem sumC_inl {α β γ : Type} (a : α) (f : α → γ) (g : β → γ) : sumC (.inl a) f g = f a := rfl
theorem sumC_inr {α β γ : Type} (b : β) (f : α → γ) (g : β → γ) : sumC (.inr b) f g = g b := rfl
theorem sub_nat {α : Type} (s : List α) (a b : Nat) (h : a ≤ b) (h' : b ≤ s.length) : sub s (a : Int) (b : Int) = some ((s.drop a).take (b - a)) := by
  unfold sub
  rw [if_pos (by omega)]
  simp
theorem sub_to_end {α : Type} (s : List α) (a : Nat) (h : a ≤ s.length) : sub s (a : Int) (s.length : Int) = some (s.drop a) := by
  rw [sub_nat s a s.length h (Nat.le_refl _), List.take_of_length_le (by simp)]
def ats (p : Nat) : List (Int × List UInt8) → List Int
  | [] => []
  | x :: t => (p : Int) :: ats (p + x.2.length) t
theorem drop_ne {s : List UInt8} {p : Nat} (h : p < s.length) : s.drop p ≠ [] := by
  intro e
  have := congrArg List.length e
  simp at this
  omega
theorem drop_next (s : List UInt8) (p : Nat) : (s.drop p).drop (decodeL (s.drop p)).2 = s.drop (p + (decodeL (s.drop p)).2) := by rw [List.drop_drop]
theorem take_len {s : List UInt8} {p : Nat} (h : p < s.length) : ((s.drop p).take (decodeL (s.drop p)).2).length = (decodeL (s.drop p)).2 := by
  have := decodeL_le (s.drop p) (drop_ne h)
  simp only [List.length_take]
  omega
theorem next_le {s : List UInt8} {p : Nat} (h : p < s.length) : p + (decodeL (s.drop p)).2 ≤ s.length := by
  have := decodeL_le (s.drop p) (drop_ne h)
  simp only [List.length_drop] at this
  omega
theorem idxAt {α : Type} (l : List α) (k : Nat) (x : α) (h : l[k]? = some x) : idx l (k : Int) = some x := by
  unfold idx
  rw [if_pos (by omega), Int.toNat_natCast, h]
def okR (c : Nat) : Prop := c ≤ 1114111 ∧ (c < 55296 ∨ 57343 < c)
def encN (c : Nat) : List UInt8 := if c < 128 then [UInt8.ofNat c] else if c < 2048 then [UInt8.ofNat (192 + c / 64), UInt8.ofNat (128 + c % 64)] else if c < 65536 then [UInt8.ofNat (224 + c / 4096), UInt8.ofNat (128 + c / 64 % 64), UInt8.ofNat (128 + c % 64)] else [UInt8.ofNat (240 + c / 262144), UInt8.ofNat (128 + c / 4096 % 64), UInt8.ofNat (128 + c / 64 % 64), UInt8.ofNat (128 + c % 64)]
def encB (c : Nat) : ByteArray := if c < 0x80 then ⟨#[UInt8.ofNat c]⟩
  else if c < 0x800 then ⟨#[UInt8.ofNat (0xC0 + c / 64), UInt8.ofNat (0x80 + c % 64)]⟩
  else if c < 0x10000 then ⟨#[UInt8.ofNat (0xE0 + c / 4096), UInt8.ofNat (0x80 + c / 64 % 64), UInt8.ofNat (0x80 + c % 64)]⟩
  else ⟨#[UInt8.ofNat (0xF0 + c / 262144), UInt8.ofNat (0x80 + c / 4096 % 64), UInt8.ofNat (0x80 + c / 64 % 64), UInt8.ofNat (0x80 + c % 64)]⟩
theorem enc_B (r : Int) : Utf8.encode r = encB (if Utf8.valid r = true then r.toNat else Utf8.runeError) := rfl
theorem B_N (c : Nat) : (encB c).data.toList = encN c := by
  unfold encB encN
  split
  · rfl
  split
  · rfl
  split
  · rfl
  · rfl
theorem e1 (n : Int) : enc8 n = (Utf8.encode n).data.toList := by unfold enc8; rfl
theorem e3 (n : Int) : enc8 n = encN (if Utf8.valid n = true then n.toNat else Utf8.runeError) := (e1 n).trans ((congrArg (fun b : ByteArray => b.data.toList) (enc_B n)).trans (B_N _))
theorem e2 (n : Int) (c : Nat) (hn : n = (c : Int)) (hv : Utf8.valid n = true) : (if Utf8.valid n = true then n.toNat else Utf8.runeError) = c := by rw [if_pos hv]; omega
theorem rune_ok (l : List UInt8) : okR (decodeL l).1 := by
  unfold okR
  rw [decodeL_N]
  rcases decodeN_shape l.length (l.getD 0 0).toNat (l.getD 1 0).toNat (l.getD 2 0).toNat (l.getD 3 0).toNat with ⟨p, e⟩ | ⟨_, _, _, _, e⟩ | ⟨_, _, _, _, _, _, e⟩ | ⟨_, _, _, _, _, _, _, e⟩ | e <;> rw [e] <;> simp only <;> omega
end Go.Vm
/- JSON, plainly: which value a text is, and what a value's form is. No condition. -/
namespace Go.Vm
open Go.Lib (decodeL decodeN decodeL_N decode_N decodeN_shape decodeL_le)
set_option linter.unusedVariables false
set_option linter.unusedSimpArgs false
def isDig (c : UInt8) : Bool := decide (48 ≤ c.toNat) && decide (c.toNat ≤ 57)
def valD (ds : By) : Nat := ds.foldl (fun n c => n * 10 + (c.toNat - 48)) 0
def hexC (n : Nat) : UInt8 := if n < 10 then UInt8.ofNat (48 + n) else UInt8.ofNat (87 + n)
def quoB (c : UInt8) : By := if c = 34 ∨ c = 92 then [92, c] else if c = 8 then [92, 98] else if c = 9 then [92, 116] else if c = 10 then [92, 110] else if c = 12 then [92, 102] else if c = 13 then [92, 114] else if c.toNat < 32 then [92, 117, 48, 48, hexC (c.toNat / 16), hexC (c.toNat % 16)] else [c]
def quoL (t : By) : By := t.flatMap quoB
def quo (t : By) : By := 34 :: (quoL t ++ [34])
def joinB : List By → By
  | [] => []
  | [x] => x
  | x :: y :: l => x ++ 44 :: joinB (y :: l)
end Go.Vm
/- JSON, plainly: signs and their bytes; texts of right signs; what is printed is read. No condition. -/
namespace Go.Vm
open Go.Lib (decodeL decodeN decodeL_N decode_N decodeN_shape decodeL_le)
set_option linter.unusedVariables false
set_option linter.unusedSimpArgs false
instance (c : Nat) : Decidable (okR c) := by unfold okR; infer_instance
theorem dec_encN (c : Nat) (h : okR c) (r : By) : decodeL (encN c ++ r) = (c, (encN c).length) := by
  obtain ⟨h1, h2⟩ := h
  rw [decodeL_N]
  unfold encN
  by_cases c1 : c < 128
  · simp only [c1, if_true]
    have a0 : (UInt8.ofNat c).toNat = c := by simp; omega
    simp only [List.cons_append, List.nil_append, List.getD_cons_zero, List.length_cons, List.length_nil, a0]
    unfold decodeN
    rw [if_pos c1]
  by_cases c2 : c < 2048
  · simp only [c1, c2, if_true, if_false]
    have a0 : (UInt8.ofNat (192 + c / 64)).toNat = 192 + c / 64 := by simp; omega
    have a1 : (UInt8.ofNat (128 + c % 64)).toNat = 128 + c % 64 := by simp; omega
    simp only [List.cons_append, List.nil_append, List.getD_cons_zero, List.getD_cons_succ, List.length_cons, List.length_nil, a0, a1]
    unfold decodeN
    rw [if_neg (by omega), if_pos ⟨by omega, by omega, by omega⟩, if_pos (by omega)]
    congr 1
    omega
  by_cases c3 : c < 65536
  · simp only [c1, c2, c3, if_true, if_false]
    have a0 : (UInt8.ofNat (224 + c / 4096)).toNat = 224 + c / 4096 := by simp; omega
    have a1 : (UInt8.ofNat (128 + c / 64 % 64)).toNat = 128 + c / 64 % 64 := by simp; omega
    have a2 : (UInt8.ofNat (128 + c % 64)).toNat = 128 + c % 64 := by simp; omega
    simp only [List.cons_append, List.nil_append, List.getD_cons_zero, List.getD_cons_succ, List.length_cons, List.length_nil, a0, a1, a2]
    unfold decodeN
    rw [if_neg (by omega), if_neg (by omega), if_pos ⟨by omega, ⟨by omega, by omega⟩, by omega, by omega⟩, if_pos (by omega)]
    congr 1
    omega
  · simp only [c1, c2, c3, if_false]
    have a0 : (UInt8.ofNat (240 + c / 262144)).toNat = 240 + c / 262144 := by simp; omega
    have a1 : (UInt8.ofNat (128 + c / 4096 % 64)).toNat = 128 + c / 4096 % 64 := by simp; omega
    have a2 : (UInt8.ofNat (128 + c / 64 % 64)).toNat = 128 + c / 64 % 64 := by simp; omega
    have a3 : (UInt8.ofNat (128 + c % 64)).toNat = 128 + c % 64 := by simp; omega
    simp only [List.cons_append, List.nil_append, List.getD_cons_zero, List.getD_cons_succ, List.length_cons, List.length_nil, a0, a1, a2, a3]
    unfold decodeN
    rw [if_neg (by omega), if_neg (by omega), if_neg (by omega), if_pos ⟨by omega, ⟨by omega, by omega⟩, ⟨by omega, by omega⟩, by omega, by omega⟩, if_pos (by omega)]
    congr 1
    omega
theorem encR_N (c : Nat) (h : okR c) : Go.Lib.encodeRune (c : Int) = encN c := by
  obtain ⟨h1, h2⟩ := h
  unfold Go.Lib.encodeRune encN
  have q : ∀ z : Int, ∀ n : Nat, z = (n : Int) → z.toNat.toUInt8 = UInt8.ofNat n := by intro z n e; subst e; rfl
  by_cases c1 : c < 128
  · rw [if_pos c1, Go.Lib.encodeRuneZ_one (by omega) (by omega)]
    simp only [List.map_cons, List.map_nil]
    rw [q _ c rfl]
  by_cases c2 : c < 2048
  · rw [if_neg c1, if_pos c2, Go.Lib.encodeRuneZ_two (by omega) (by omega)]
    simp only [List.map_cons, List.map_nil]
    rw [q _ (192 + c / 64) (by omega), q _ (128 + c % 64) (by omega)]
  by_cases c3 : c < 65536
  · rw [if_neg c1, if_neg c2, if_pos c3, Go.Lib.encodeRuneZ_three (by omega)]
    simp only [List.map_cons, List.map_nil]
    rw [q _ (224 + c / 4096) (by omega), q _ (128 + c / 64 % 64) (by omega), q _ (128 + c % 64) (by omega)]
  · rw [if_neg c1, if_neg c2, if_neg c3, Go.Lib.encodeRuneZ_four (by omega) (by omega)]
    simp only [List.map_cons, List.map_nil]
    rw [q _ (240 + c / 262144) (by omega), q _ (128 + c / 4096 % 64) (by omega), q _ (128 + c / 64 % 64) (by omega), q _ (128 + c % 64) (by omega)]
theorem take_encN (l : By) (hne : l ≠ []) (hv : ¬ ((decodeL l).1 = 65533 ∧ (decodeL l).2 = 1)) : l.take (decodeL l).2 = encN (decodeL l).1 := by
  rw [← Go.Lib.encode_decode l hne hv, encR_N _ (rune_ok l)]
inductive OkT : By → Prop
  | nil : OkT []
  | cons (c : Nat) (t : By) : okR c → OkT t → OkT (encN c ++ t)
theorem OkT.app {a b : By} (h : OkT a) (h' : OkT b) : OkT (a ++ b) := by
  induction h with
  | nil => exact h'
  | cons c t hc _ ih => rw [List.append_assoc]; exact .cons c _ hc ih
/-! ### what escapes tell is a sign -/
end Go.Vm
/- JSON, plainly: strings. What is printed is read; what is read is of right signs, and is printed in no more bytes. No condition. -/
namespace Go.Vm
open Go.Lib (decodeL decodeN decodeL_N decode_N decodeN_shape decodeL_le)
set_option linter.unusedVariables false
set_option linter.unusedSimpArgs false
end Go.Vm
/- JSON, plainly: numbers. What is printed is read; what is read is of 15 digits, and is printed in no more bytes. No condition. -/
namespace Go.Vm
open Go.Lib (decodeL decDigits itoa nDigits)
set_option linter.unusedVariables false
set_option linter.unusedSimpArgs false
theorem valD_snoc (l : By) (c : UInt8) : valD (l ++ [c]) = valD l * 10 + (c.toNat - 48) := by unfold valD; rw [List.foldl_append]; rfl
theorem nDigits_le : ∀ (k u : Nat), 1 ≤ k → u < 10 ^ k → nDigits u ≤ k
  | 0, u, h, _ => by omega
  | 1, u, _, h => by rw [Go.Lib.nDigits_small (by simpa using h)]; exact Nat.le_refl _
  | k + 2, u, _, h => by
    by_cases hu : u < 10
    · rw [Go.Lib.nDigits_small hu]; omega
    · rw [Go.Lib.nDigits_big hu]
      have := nDigits_le (k + 1) (u / 10) (by omega) (by rw [Nat.pow_succ] at h; omega)
      omega
theorem itoa_len (u k : Nat) (h : 1 ≤ k) (hu : u < 10 ^ k) : (itoa (u : Int)).length ≤ k ∧ (itoa (-(u : Int))).length ≤ k + 1 := by
  have h1 := nDigits_le k u h hu
  unfold itoa
  constructor
  · rw [if_neg (by omega), Int.toNat_natCast, Go.Lib.decDigits_length]
    exact h1
  · split
    · rw [List.length_cons, Go.Lib.decDigits_length]
      have : (-(u : Int)).natAbs = u := by omega
      rw [this]; omega
    · rename_i hn
      have : (-(u : Int)).toNat = 0 := by omega
      rw [this, Go.Lib.decDigits_length]
      rw [Go.Lib.nDigits_small (by decide)]
      omega
def okN (n : Int) : Prop := -1000000000000000 < n ∧ n < 1000000000000000
theorem p15 : 10 ^ 15 = 1000000000000000 := by decide
theorem dec_facts (u : Nat) : (∀ c ∈ decDigits u, isDig c = true) ∧ valD (decDigits u) = u ∧ (u ≠ 0 → ∀ c q, decDigits u = c :: q → c ≠ 48) := by
  induction u using Nat.strongRecOn with
  | _ u ih =>
    rw [decDigits]
    split
    · rename_i h
      have e : (UInt8.ofNat (48 + u)).toNat = 48 + u := by simp; omega
      refine ⟨?_, ?_, ?_⟩
      · intro c hc; simp at hc; subst hc; simp [isDig]; omega
      · simp [valD]; omega
      · intro hu c q hq
        injection hq with hq _
        rw [← hq]
        intro hh
        have := congrArg UInt8.toNat hh
        rw [e] at this
        have : (48 : UInt8).toNat = 48 := rfl
        omega
    · rename_i h
      obtain ⟨i1, i2, i3⟩ := ih (u / 10) (by omega)
      have e : (UInt8.ofNat (48 + u % 10)).toNat = 48 + u % 10 := by simp; omega
      refine ⟨?_, ?_, ?_⟩
      · intro c hc
        rcases List.mem_append.1 hc with hc | hc
        · exact i1 c hc
        · simp at hc; subst hc; simp [isDig]; omega
      · rw [valD_snoc, i2, e]; omega
      · intro hu c q hq
        have hl := Go.Lib.decDigits_length (u / 10)
        have := Go.Lib.nDigits_pos (u / 10)
        cases hd : decDigits (u / 10) with
        | nil => rw [hd] at hl; simp at hl; omega
        | cons x l =>
          rw [hd] at hq
          injection hq with hq _
          rw [← hq]
          exact i3 (by omega) x l hd
theorem dec_head (u : Nat) : ∃ c q, decDigits u = c :: q ∧ isDig c = true := by
  obtain ⟨f1, _⟩ := dec_facts u
  have hp : 1 ≤ (decDigits u).length := by rw [Go.Lib.decDigits_length]; exact Go.Lib.nDigits_pos u
  cases hd : decDigits u with
  | nil => rw [hd] at hp; simp at hp
  | cons c q => exact ⟨c, q, rfl, f1 c (by rw [hd]; exact List.mem_cons_self ..)⟩
end Go.Vm
/- Cutting at a byte, joining again, numbers and their texts: plainly. No condition. -/
namespace Go.Vm
open Go.Lib (decDigits itoa)
set_option linter.unusedVariables false
set_option linter.unusedSimpArgs false
/-! ### cut at each such byte -/
def splC (d : UInt8) : By → List By
  | [] => [[]]
  | c :: s => if c = d then [] :: splC d s else match splC d s with
    | p :: ps => (c :: p) :: ps
    | [] => [[c]]
theorem splC_nil (d : UInt8) : splC d [] = [[]] := rfl
theorem splC_s (d : UInt8) (s : By) : splC d (d :: s) = [] :: splC d s := by rw [splC, if_pos rfl]
theorem splC_c {d c : UInt8} {s p : By} {ps : List By} (h : c ≠ d) (hs : splC d s = p :: ps) : splC d (c :: s) = (c :: p) :: ps := by rw [splC, if_neg h, hs]
theorem splC_ne (d : UInt8) : ∀ s : By, splC d s ≠ []
  | [] => by simp [splC]
  | c :: s => by
    rw [splC]
    split
    · simp
    · split <;> simp
theorem indexD (d : UInt8) (l : By) : Lib.index (d :: l) [d] = ((0 : Nat) : Int) := by rw [Lib.index]; simp [List.isPrefixOf]
theorem indexD_ne {d b : UInt8} {l : By} {j : Nat} (h : b ≠ d) (hj : Lib.index l [d] = (j : Int)) : Lib.index (b :: l) [d] = ((j + 1 : Nat) : Int) := by
  have hp : ([d] : By).isPrefixOf (b :: l) = false := by simp [List.isPrefixOf, Ne.symm h]
  rw [Lib.index, hp, hj]
  have : ¬ ((j : Int) == -1) = true := fun e => by have := beq_iff_eq.1 e; omega
  simp [this]
theorem split_splC (d : UInt8) : ∀ s : By, Lib.split s [d] = splC d s
  | [] => by simp [Lib.split, Lib.count_miss, Lib.index, Lib.splitK, splC]
  | b :: l => by
    have ih := split_splC d l
    unfold Lib.split at ih ⊢
    by_cases hb : b = d
    · subst hb
      rw [Lib.count_cons_eq, splC_s, Nat.add_comm, Lib.splitK, indexD]
      rw [if_neg (by simp)]
      simpa using ih
    · rw [Lib.count_cons_ne b d l hb]
      by_cases hm : Lib.index l [d] = -1
      · rw [Lib.count_miss hm] at ih ⊢
        rw [Lib.splitK] at ih ⊢
        exact (splC_c hb ih.symm).symm
      · have hge := Lib.index_ge l [d]
        obtain ⟨j, hj⟩ : ∃ j : Nat, Lib.index l [d] = j := ⟨(Lib.index l [d]).toNat, by omega⟩
        have hc := Lib.count_hit (s := l) (sub := [d]) (by simp) hj
        generalize Lib.count (l.drop (j + [d].length)) [d] = k at hc
        rw [hc, Nat.add_comm, Lib.splitK, hj, if_neg (fun e => by have := beq_iff_eq.1 e; omega)] at ih
        rw [hc, Nat.add_comm, Lib.splitK, indexD_ne hb hj, if_neg (fun e => by have := beq_iff_eq.1 e; omega)]
        rw [splC_c hb ih.symm]
        simp
theorem splC_len (d : UInt8) : ∀ s : By, (splC d s).length ≤ s.length + 1 ∧ ∀ p ∈ splC d s, p.length ≤ s.length
  | [] => ⟨Nat.le_refl _, fun p hp => by
    rw [splC_nil, List.mem_singleton] at hp
    subst hp
    exact Nat.le_refl _⟩
  | c :: s => by
    obtain ⟨h1, h2⟩ := splC_len d s
    by_cases hc : c = d
    · subst hc
      rw [splC_s]
      refine ⟨by rw [List.length_cons, List.length_cons]; omega, fun p hp => ?_⟩
      rcases List.mem_cons.1 hp with rfl | hp
      · exact Nat.zero_le _
      · have := h2 p hp
        rw [List.length_cons]; omega
    · cases hx : splC d s with
      | nil => exact absurd hx (splC_ne d s)
      | cons q qs =>
        rw [splC_c hc hx]
        rw [hx] at h1 h2
        rw [List.length_cons] at h1
        refine ⟨by rw [List.length_cons, List.length_cons]; omega, fun p hp => ?_⟩
        rcases List.mem_cons.1 hp with rfl | hp
        · have := h2 q (List.mem_cons_self ..)
          rw [List.length_cons, List.length_cons]; omega
        · have := h2 p (List.mem_cons_of_mem _ hp)
          rw [List.length_cons]; omega
def joinD (d : UInt8) : List By → By
  | [] => []
  | [p] => p
  | p :: q :: r => p ++ d :: joinD d (q :: r)
theorem joinD_cons (d : UInt8) (p : By) {r : List By} (h : r ≠ []) : joinD d (p :: r) = p ++ d :: joinD d r := by
  cases r with
  | nil => exact absurd rfl h
  | cons q r => rfl
theorem join_splC (d : UInt8) : ∀ s : By, joinD d (splC d s) = s
  | [] => rfl
  | c :: s => by
    have ih := join_splC d s
    by_cases hc : c = d
    · subst hc
      rw [splC_s, joinD_cons _ _ (splC_ne c s), ih]
      rfl
    · cases hx : splC d s with
      | nil => exact absurd hx (splC_ne d s)
      | cons q qs =>
        rw [splC_c hc hx]
        rw [hx] at ih
        cases qs with
        | nil => show c :: q = _; rw [← ih]; rfl
        | cons r rs =>
          show c :: (q ++ d :: joinD d (r :: rs)) = _
          rw [← ih]
          rfl
theorem splC_app {d : UInt8} {p : By} (hp : ∀ b ∈ p, b ≠ d) (s : By) : splC d (p ++ d :: s) = p :: splC d s := by
  induction p with
  | nil => exact splC_s d s
  | cons c p ih => exact splC_c (hp c (List.mem_cons_self ..)) (ih fun b hb => hp b (List.mem_cons_of_mem _ hb))
theorem splC_none {d : UInt8} {p : By} (hp : ∀ b ∈ p, b ≠ d) : splC d p = [p] := by
  induction p with
  | nil => rfl
  | cons c p ih => exact splC_c (hp c (List.mem_cons_self ..)) (ih fun b hb => hp b (List.mem_cons_of_mem _ hb))
theorem splC_join {d : UInt8} : ∀ l : List By, l ≠ [] → (∀ p ∈ l, ∀ b ∈ p, b ≠ d) → splC d (joinD d l) = l
  | [], h, _ => absurd rfl h
  | [p], _, h => splC_none (h p (List.mem_cons_self ..))
  | p :: q :: r, _, h => by
    rw [joinD_cons d p (by simp), splC_app (h p (List.mem_cons_self ..)), splC_join (q :: r) (by simp) fun x hx => h x (List.mem_cons_of_mem _ hx)]
/-! ### cut once -/
theorem cut_hit {d : UInt8} {p : By} (hp : ∀ b ∈ p, b ≠ d) (s : By) : Lib.cut (p ++ d :: s) [d] = (p, s, true) := by
  have hi : Lib.index (p ++ d :: s) [d] = (p.length : Int) := by
    induction p with
    | nil => exact indexD d s
    | cons c p ih => exact indexD_ne (hp c (List.mem_cons_self ..)) (ih fun b hb => hp b (List.mem_cons_of_mem _ hb))
  unfold Lib.cut
  rw [hi, if_pos (by omega)]
  simp
theorem index_miss {d : UInt8} {p : By} (hp : ∀ b ∈ p, b ≠ d) : Lib.index p [d] = -1 := by
  refine Lib.index_none fun j hj => ?_
  cases h : Lib.occAt p [d] j with
  | false => rfl
  | true =>
    have := Lib.occAt_head (c := d) (t := []) rfl h
    exact absurd rfl (hp d (List.mem_of_getElem? this))
theorem cut_miss {d : UInt8} {p : By} (hp : ∀ b ∈ p, b ≠ d) : Lib.cut p [d] = (p, [], false) := by
  unfold Lib.cut
  rw [index_miss hp, if_neg (by decide)]
theorem cut_cases (d : UInt8) (s : By) : (∃ p q, s = p ++ d :: q ∧ (∀ b ∈ p, b ≠ d) ∧ Lib.cut s [d] = (p, q, true)) ∨ ((∀ b ∈ s, b ≠ d) ∧ Lib.cut s [d] = (s, [], false)) := by
  by_cases h : d ∈ s
  · obtain ⟨p, q, rfl, hp⟩ := List.append_of_mem h |> fun ⟨a, b, e⟩ => first_of s d h
    exact .inl ⟨p, q, rfl, hp, cut_hit hp q⟩
  · have hp : ∀ b ∈ s, b ≠ d := fun b hb e => h (e ▸ hb)
    exact .inr ⟨hp, cut_miss hp⟩
where
  first_of : ∀ (s : By) (d : UInt8), d ∈ s → ∃ p q, s = p ++ d :: q ∧ ∀ b ∈ p, b ≠ d
    | c :: s, d, h => by
      by_cases hc : c = d
      · subst hc
        exact ⟨[], s, rfl, fun b hb => by cases hb⟩
      · obtain ⟨p, q, h1, h2⟩ := first_of s d (by
          rcases List.mem_cons.1 h with rfl | h
          · exact absurd rfl hc
          · exact h)
        refine ⟨c :: p, q, by rw [h1]; rfl, fun b hb => ?_⟩
        rcases List.mem_cons.1 hb with rfl | hb
        · exact hc
        · exact h2 b hb
/-! ### numbers -/
theorem itoa_nat (n : Nat) : itoa (n : Int) = decDigits n := by unfold itoa; rw [if_neg (by omega), Int.toNat_natCast]
theorem itoa_dig (n : Nat) : ∀ c ∈ itoa (n : Int), isDig c = true := by rw [itoa_nat]; exact (dec_facts n).1
theorem itoa_ne (n : Nat) : itoa (n : Int) ≠ [] := by
  rw [itoa_nat]
  obtain ⟨c, q, hc, _⟩ := dec_head n
  rw [hc]; simp
end Go.Vm
