/- Signs and their bytes, plainly, with no model in sight. No condition but on lengths. -/
import Derived.Test.YtgeafoacmnlioaaDoorPbase
import Derived.Lib.MapLaws
namespace Go.Vm
open Go.Lib (decodeL decodeN decodeL_N decode_N decodeN_shape decodeL_le)
set_option linter.unusedVariables false
set_option linter.unusedSimpArgs false
theorem decodeL_pos (l : List UInt8) : 1 ≤ (decodeL l).2 := by
  rw [decodeL_N]
  rcases decodeN_shape l.length (l.getD 0 0).toNat (l.getD 1 0).toNat (l.getD 2 0).toNat (l.getD 3 0).toNat with ⟨_, e⟩ | ⟨_, _, _, _, e⟩ | ⟨_, _, _, _, _, _, e⟩ | ⟨_, _, _, _, _, _, _, e⟩ | e <;> rw [e] <;> simp
theorem getD_drop (s : List UInt8) (i k : Nat) : (s.drop i).getD k 0 = s.getD (i + k) 0 := by simp [List.getD]
theorem dec_at (s : List UInt8) (i : Nat) : Utf8.decode ⟨s.toArray⟩ i = decodeL (s.drop i) := by
  rw [decode_N, decodeL_N]
  simp only [List.length_drop, getD_drop, Nat.add_zero]
theorem runeAt_eq (s : List UInt8) (i : Nat) : runeAt s i = ((decodeL (s.drop i)).1 : Int) := by unfold runeAt; rw [dec_at]; rfl
theorem runeLen_eq (s : List UInt8) (i : Nat) : runeLen s i = (decodeL (s.drop i)).2 := by unfold runeLen; rw [dec_at]
def signs (l : List UInt8) : List (Int × List UInt8) :=
  if h : l = [] then [] else (((decodeL l).1 : Int), l.take (decodeL l).2) :: signs (l.drop (decodeL l).2)
termination_by l.length
decreasing_by
  have := decodeL_pos l
  have : 0 < l.length := List.length_pos_iff.2 h
  simp only [List.length_drop]
  omega
theorem signs_nil : signs [] = [] := by rw [signs]; simp
theorem signs_cons {l : List UInt8} (h : l ≠ []) : signs l = (((decodeL l).1 : Int), l.take (decodeL l).2) :: signs (l.drop (decodeL l).2) := by
  conv => lhs; rw [signs]
  simp [h]
theorem signs_ind {p : List UInt8 → Prop} (h0 : p []) (h1 : ∀ l, l ≠ [] → p (l.drop (decodeL l).2) → p l) (l : List UInt8) : p l := by
  have : ∀ n (l : List UInt8), l.length ≤ n → p l := by
    intro n
    induction n with
    | zero => intro l hl; rw [List.length_eq_zero_iff.1 (by omega : l.length = 0)]; exact h0
    | succ n ih =>
      intro l hl
      by_cases hn : l = []
      · rw [hn]; exact h0
      · refine h1 l hn (ih _ ?_)
        have := decodeL_pos l
        have : 0 < l.length := List.length_pos_iff.2 hn
        simp only [List.length_drop]
        omega
  exact this l.length l (Nat.le_refl _)
theorem signs_len (l : List UInt8) : (signs l).length ≤ l.length := by
  induction l using signs_ind with
  | h0 => rw [signs_nil]; simp
  | h1 l hn ih =>
    rw [signs_cons hn]
    have := decodeL_pos l
    have : 0 < l.length := List.length_pos_iff.2 hn
    simp only [List.length_drop, List.length_cons] at ih ⊢
    omega
theorem idx_lit (l : List UInt8) (k : Nat) : idx l (k : Int) = if k < l.length then some (l.getD k 0) else none := by
  unfold idx
  rw [if_pos (by omega)]
  split
  · rename_i h; simp [h]
  · rename_i h; simp; omega
theorem sumC_ite {α β γ : Type} (c : Prop) [Decidable c] (s t : α ⊕ β) (f : α → γ) (g : β → γ) : sumC (if c then s else t) f g = if c then sumC s f g else sumC t f g := by split <;> rfl
theorem sumC_inl {α β γ : Type} (a : α) (f : α → γ) (g : β → γ) : sumC (.inl a) f g = f a := rfl
theorem sumC_inr {α β γ : Type} (b : β) (f : α → γ) (g : β → γ) : sumC (.inr b) f g = g b := rfl
theorem sub_nat {α : Type} (s : List α) (a b : Nat) (h : a ≤ b) (h' : b ≤ s.length) : sub s (a : Int) (b : Int) = some ((s.drop a).take (b - a)) := by
  unfold sub
  rw [if_pos (by omega)]
  simp
theorem sub_to_end {α : Type} (s : List α) (a : Nat) (h : a ≤ s.length) : sub s (a : Int) (s.length : Int) = some (s.drop a) := by
  rw [sub_nat s a s.length h (Nat.le_refl _), List.take_of_length_le (by simp)]
def ats (p : Nat) : List (Int × List UInt8) → List Int
  | [] => []
  | x :: t => (p : Int) :: ats (p + x.2.length) t
theorem drop_ne {s : List UInt8} {p : Nat} (h : p < s.length) : s.drop p ≠ [] := by
  intro e
  have := congrArg List.length e
  simp at this
  omega
theorem drop_next (s : List UInt8) (p : Nat) : (s.drop p).drop (decodeL (s.drop p)).2 = s.drop (p + (decodeL (s.drop p)).2) := by rw [List.drop_drop]
theorem take_len {s : List UInt8} {p : Nat} (h : p < s.length) : ((s.drop p).take (decodeL (s.drop p)).2).length = (decodeL (s.drop p)).2 := by
  have := decodeL_le (s.drop p) (drop_ne h)
  simp only [List.length_take]
  omega
theorem next_le {s : List UInt8} {p : Nat} (h : p < s.length) : p + (decodeL (s.drop p)).2 ≤ s.length := by
  have := decodeL_le (s.drop p) (drop_ne h)
  simp only [List.length_drop] at this
  omega
theorem idxAt {α : Type} (l : List α) (k : Nat) (x : α) (h : l[k]? = some x) : idx l (k : Int) = some x := by
  unfold idx
  rw [if_pos (by omega), Int.toNat_natCast, h]
def encN (c : Nat) : List UInt8 := if c < 128 then [UInt8.ofNat c] else if c < 2048 then [UInt8.ofNat (192 + c / 64), UInt8.ofNat (128 + c % 64)] else if c < 65536 then [UInt8.ofNat (224 + c / 4096), UInt8.ofNat (128 + c / 64 % 64), UInt8.ofNat (128 + c % 64)] else [UInt8.ofNat (240 + c / 262144), UInt8.ofNat (128 + c / 4096 % 64), UInt8.ofNat (128 + c / 64 % 64), UInt8.ofNat (128 + c % 64)]
def encB (c : Nat) : ByteArray := if c < 0x80 then ⟨#[UInt8.ofNat c]⟩
  else if c < 0x800 then ⟨#[UInt8.ofNat (0xC0 + c / 64), UInt8.ofNat (0x80 + c % 64)]⟩
  else if c < 0x10000 then ⟨#[UInt8.ofNat (0xE0 + c / 4096), UInt8.ofNat (0x80 + c / 64 % 64), UInt8.ofNat (0x80 + c % 64)]⟩
  else ⟨#[UInt8.ofNat (0xF0 + c / 262144), UInt8.ofNat (0x80 + c / 4096 % 64), UInt8.ofNat (0x80 + c / 64 % 64), UInt8.ofNat (0x80 + c % 64)]⟩
theorem enc_B (r : Int) : Utf8.encode r = encB (if Utf8.valid r = true then r.toNat else Utf8.runeError) := rfl
theorem B_N (c : Nat) : (encB c).data.toList = encN c := by
  unfold encB encN
  split
  · rfl
  split
  · rfl
  split
  · rfl
  · rfl
theorem e1 (n : Int) : enc8 n = (Utf8.encode n).data.toList := by unfold enc8; rfl
theorem e3 (n : Int) : enc8 n = encN (if Utf8.valid n = true then n.toNat else Utf8.runeError) := (e1 n).trans ((congrArg (fun b : ByteArray => b.data.toList) (enc_B n)).trans (B_N _))
theorem e2 (n : Int) (c : Nat) (hn : n = (c : Int)) (hv : Utf8.valid n = true) : (if Utf8.valid n = true then n.toNat else Utf8.runeError) = c := by rw [if_pos hv]; omega
end Go.Vm
