import Derived.Test.YtihpjgcbmipdbaaGreatDoorV4
import Derived.Lib.MapLaws
import Derived.Test.YtihpjgcbmipdbaaGreatDoorFlaw22
import Derived.Test.YtihpjgcbmipdbaaGreatDoorFcanon
/- Parts of lists, plainly. No condition. -/
namespace Go.Vm
set_option linter.unusedVariables false
open Go
theorem idxN {α : Type} (l : List α) (i : Nat) (n : Int) (hn : n = (i : Int)) (h : i < l.length) : idx l n = some l[i] := by
 subst hn
 unfold idx
 rw [if_pos (by omega)]
 simp [h]
theorem next_nat (i : Nat) (h : i < 9000000000000000) : IntKind.i64.wrap ((i : Int) + 1) = ((i + 1 : Nat) : Int) := by rw [wrap64] <;> omega
end Go.Vm
/- Signs and their bytes, plainly, with no model in sight. No condition but on lengths. -/
namespace Go.Vm
open Go.Lib (decodeL decodeN decodeL_N decode_N decodeN_shape decodeL_le)
set_option linter.unusedVariables false
set_option linter.unusedSimpArgs false
theorem decodeL_pos (l : List UInt8) : 1 ≤ (decodeL l).2 := by
 rw [decodeL_N]
 rcases decodeN_shape l.length (l.getD 0 0).toNat (l.getD 1 0).toNat (l.getD 2 0).toNat (l.getD 3 0).toNat with ⟨_, e⟩ | ⟨_, _, _, _, e⟩ | ⟨_, _, _, _, _, _, e⟩ | ⟨_, _, _, _, _, _, _, e⟩ | e <;> rw [e] <;> simp
theorem getD_drop (s : List UInt8) (i k : Nat) : (s.drop i).getD k 0 = s.getD (i + k) 0 := by simp [List.getD]
theorem dec_at (s : List UInt8) (i : Nat) : Utf8.decode ⟨s.toArray⟩ i = decodeL (s.drop i) := by
 rw [decode_N, decodeL_N]
 simp only [List.length_drop, getD_drop, Nat.add_zero]
theorem runeAt_eq (s : List UInt8) (i : Nat) : runeAt s i = ((decodeL (s.drop i)).1 : Int) := by unfold runeAt; rw [dec_at]; rfl
theorem runeLen_eq (s : List UInt8) (i : Nat) : runeLen s i = (decodeL (s.drop i)).2 := by unfold runeLen; rw [dec_at]
def signs (l : List UInt8) : List (Int × List UInt8) :=
 if h : l = [] then [] else (((decodeL l).1 : Int), l.take (decodeL l).2) :: signs (l.drop (decodeL l).2)
termination_by l.length
decreasing_by
 have := decodeL_pos l
 have : 0 < l.length := List.length_pos_iff.2 h
 simp only [List.length_drop]
 omega
theorem signs_nil : signs [] = [] := by rw [signs]; simp
theorem signs_cons {l : List UInt8} (h : l ≠ []) : signs l = (((decodeL l).1 : Int), l.take (decodeL l).2) :: signs (l.drop (decodeL l).2) := by
 conv => lhs; rw [signs]
 simp [h]
theorem sumC_inl {α β γ : Type} (a : α) (f : α → γ) (g : β → γ) : sumC (.inl a) f g = f a := rfl
theorem sumC_inr {α β γ : Type} (b : β) (f : α → γ) (g : β → γ) : sumC (.inr b) f g = g b := rfl
theorem sub_nat {α : Type} (s : List α) (a b : Nat) (h : a ≤ b) (h' : b ≤ s.length) : sub s (a : Int) (b : Int) = some ((s.drop a).take (b - a)) := by
 unfold sub
 rw [if_pos (by omega)]
 simp
theorem sub_to_end {α : Type} (s : List α) (a : Nat) (h : a ≤ s.length) : sub s (a : Int) (s.length : Int) = some (s.drop a) := by
 rw [sub_nat s a s.length h (Nat.le_refl _), List.take_of_length_le (by simp)]
def ats (p : Nat) : List (Int × List UInt8) → List Int
 | [] => []
 | x :: t => (p : Int) :: ats (p + x.2.length) t
theorem drop_ne {s : List UInt8} {p : Nat} (h : p < s.length) : s.drop p ≠ [] := by
 intro e
 have := congrArg List.length e
 simp at this
 omega
theorem drop_next (s : List UInt8) (p : Nat) : (s.drop p).drop (decodeL (s.drop p)).2 = s.drop (p + (decodeL (s.drop p)).2) := by rw [List.drop_drop]
theorem next_le {s : List UInt8} {p : Nat} (h : p < s.length) : p + (decodeL (s.drop p)).2 ≤ s.length := by
 have := decodeL_le (s.drop p) (drop_ne h)
 simp only [List.length_drop] at this
 omega
def okR (c : Nat) : Prop := c ≤ 1114111 ∧ (c < 55296 ∨ 57343 < c)
def encN (c : Nat) : List UInt8 := if c < 128 then [UInt8.ofNat c] else if c < 2048 then [UInt8.ofNat (192 + c / 64), UInt8.ofNat (128 + c % 64)] else if c < 65536 then [UInt8.ofNat (224 + c / 4096), UInt8.ofNat (128 + c / 64 % 64), UInt8.ofNat (128 + c % 64)] else [UInt8.ofNat (240 + c / 262144), UInt8.ofNat (128 + c / 4096 % 64), UInt8.ofNat (128 + c / 64 % 64), UInt8.ofNat (128 + c % 64)]
def encB (c : Nat) : ByteArray := if c < 0x80 then ⟨#[UInt8.ofNat c]⟩
 else if c < 0x800 then ⟨#[UInt8.ofNat (0xC0 + c / 64), UInt8.ofNat (0x80 + c % 64)]⟩
 else if c < 0x10000 then ⟨#[UInt8.ofNat (0xE0 + c / 4096), UInt8.ofNat (0x80 + c / 64 % 64), UInt8.ofNat (0x80 + c % 64)]⟩
 else ⟨#[UInt8.ofNat (0xF0 + c / 262144), UInt8.ofNat (0x80 + c / 4096 % 64), UInt8.ofNat (0x80 + c / 64 % 64), UInt8.ofNat (0x80 + c % 64)]⟩
theorem enc_B (r : Int) : Utf8.encode r = encB (if Utf8.valid r = true then r.toNat else Utf8.runeError) := rfl
theorem B_N (c : Nat) : (encB c).data.toList = encN c := by
 unfold encB encN
 split
 ·rfl
 split
 ·rfl
 split
 ·rfl
 ·rfl
theorem e1 (n : Int) : enc8 n = (Utf8.encode n).data.toList := by unfold enc8; rfl
theorem e3 (n : Int) : enc8 n = encN (if Utf8.valid n = true then n.toNat else Utf8.runeError) := (e1 n).trans ((congrArg (fun b : ByteArray => b.data.toList) (enc_B n)).trans (B_N _))
theorem e2 (n : Int) (c : Nat) (hn : n = (c : Int)) (hv : Utf8.valid n = true) : (if Utf8.valid n = true then n.toNat else Utf8.runeError) = c := by rw [if_pos hv]; omega
theorem enc8_N (n : Int) (c : Nat) (hn : n = (c : Int)) (hv : Utf8.valid n = true) : enc8 n = encN c := by rw [e3, e2 n c hn hv]
theorem valid_ok (n : Int) (c : Nat) (hn : n = (c : Int)) (h : okR c) : Utf8.valid n = true := by
 obtain ⟨h1, h2⟩ := h
 unfold Utf8.valid
 rcases h2 with h2 | h2
 ·have a : (0 : Int) ≤ n := by omega
  have b : n < 0xD800 := by omega
  simp only [a, b, decide_true, Bool.and_true, Bool.true_or]
 ·have a : (0xE000 : Int) ≤ n := by omega
  have b : n ≤ 0x10FFFF := by omega
  simp only [a, b, decide_true, Bool.and_true, Bool.or_true]
theorem enc8_val (c : Nat) (h : okR c) : enc8 (c : Int) = encN c := enc8_N _ c rfl (valid_ok _ c rfl h)
theorem wrapU8 (n : Int) (h : 0 ≤ n) (h' : n ≤ 255) : IntKind.u8.wrap n = n := by
 have hb : IntKind.u8.bits = 8 := rfl
 have hs : IntKind.u8.signed = false := rfl
 unfold IntKind.wrap
 simp only [hb, hs]
 simp
 omega
theorem wrapU8_mod (n : Int) (h : 0 ≤ n) : IntKind.u8.wrap n = n % 256 := by
 have hb : IntKind.u8.bits = 8 := rfl
 have hs : IntKind.u8.signed = false := rfl
 unfold IntKind.wrap
 simp only [hb, hs]
 simp
theorem wrapU32 (n : Int) (h : 0 ≤ n) (h' : n ≤ 4294967295) : IntKind.u32.wrap n = n := by
 have hb : IntKind.u32.bits = 32 := rfl
 have hs : IntKind.u32.signed = false := rfl
 unfold IntKind.wrap
 simp only [hb, hs]
 simp
 omega
theorem rune_ok (l : List UInt8) : okR (decodeL l).1 := by
 unfold okR
 rw [decodeL_N]
 rcases decodeN_shape l.length (l.getD 0 0).toNat (l.getD 1 0).toNat (l.getD 2 0).toNat (l.getD 3 0).toNat with ⟨p, e⟩ | ⟨_, _, _, _, e⟩ | ⟨_, _, _, _, _, _, e⟩ | ⟨_, _, _, _, _, _, _, e⟩ | e <;> rw [e] <;> simp only <;> omega
theorem ior192 : ∀ k : Fin 32, ior .u8 192 ((k.val : Nat) : Int) = ((192 + k.val : Nat) : Int) := by decide
theorem ior224 : ∀ k : Fin 16, ior .u8 224 ((k.val : Nat) : Int) = ((224 + k.val : Nat) : Int) := by decide
theorem ior240 : ∀ k : Fin 8, ior .u8 240 ((k.val : Nat) : Int) = ((240 + k.val : Nat) : Int) := by decide
theorem ior128 : ∀ k : Fin 64, ior .u8 128 ((k.val : Nat) : Int) = ((128 + k.val : Nat) : Int) := by decide
theorem iand63 : ∀ k : Fin 256, iand .u8 ((k.val : Nat) : Int) 63 = ((k.val % 64 : Nat) : Int) := by decide +kernel
theorem io192 (k : Nat) (h : k < 32) : ior .u8 192 (k : Int) = ((192 + k : Nat) : Int) := ior192 ⟨k, h⟩
theorem io224 (k : Nat) (h : k < 16) : ior .u8 224 (k : Int) = ((224 + k : Nat) : Int) := ior224 ⟨k, h⟩
theorem io240 (k : Nat) (h : k < 8) : ior .u8 240 (k : Int) = ((240 + k : Nat) : Int) := ior240 ⟨k, h⟩
theorem io128 (k : Nat) (h : k < 64) : ior .u8 128 (k : Int) = ((128 + k : Nat) : Int) := ior128 ⟨k, h⟩
theorem low6 (d : Nat) : ior .u8 128 (iand .u8 (IntKind.u8.wrap (d : Int)) 63) = ((128 + d % 64 : Nat) : Int) := by
 rw [wrapU8_mod _ (by omega), show (d : Int) % 256 = ((d % 256 : Nat) : Int) by omega, show iand .u8 ((d % 256 : Nat) : Int) 63 = ((d % 256 % 64 : Nat) : Int) from iand63 ⟨d % 256, by omega⟩, io128 _ (by omega)]
 congr 2
 omega
theorem shr_nat (c : Nat) (j : Nat) (hj : j ≤ 32) : shr .i32 (c : Int) (j : Int) = ((c / 2 ^ j : Nat) : Int) := by
 have hb : IntKind.i32.bits = 32 := rfl
 unfold shr
 rw [hb, Int.toNat_natCast, Nat.min_eq_left hj, Int.fdiv_eq_ediv_of_nonneg _ (Int.pow_nonneg (by decide)), Int.natCast_ediv, Int.natCast_pow]
 rfl
theorem encN_len (c : Nat) : (encN c).length ≤ 4 := by unfold encN; repeat' split
                                                       all_goals simp
end Go.Vm
/- The document's first sign and a sign's bytes, plainly. No condition but on lengths. -/
namespace Go.Vm
open Go.Lib (decodeL decodeN decodeL_N decode_N decodeN_shape decodeL_le)
set_option linter.unusedVariables false
set_option linter.unusedSimpArgs false
end Go.Vm
/- The document's signs of a text, plainly. No condition but on lengths. -/
namespace Go.Vm
open Go.Lib (decodeL decodeN decodeL_N decode_N decodeN_shape decodeL_le)
set_option linter.unusedVariables false
set_option linter.unusedSimpArgs false
end Go.Vm
/- Sorts of signs, plainly. No condition. -/
namespace Go.Vm
set_option linter.unusedVariables false
set_option linter.unusedSimpArgs false
theorem among_eq (F : Nat) (r a b c : Int) : M_sign_among F (r, a, b, c) = some (decide (a ≤ r ∧ r ≤ b ∧ r ≠ c)) := by
 unfold M_sign_among
 simp only [bind_ite, Option.bind_some, decide_eq_true_eq]
 repeat' split
 all_goals (rw [Option.some.injEq, Bool.eq_iff_iff]; simp only [Bool.not_eq_true', decide_eq_true_eq, decide_eq_false_iff_not, Bool.false_eq_true, true_iff, false_iff]; first | omega | (simp_all; done))
theorem valid_eq (F : Nat) (r : Int) : M_unicode_utf8_ValidRune F r = some (decide (0 ≤ r ∧ (r < 55296 ∨ 57343 < r) ∧ r ≤ 1114111)) := by
 unfold M_unicode_utf8_ValidRune
 simp only [bind_ite, Option.bind_some, decide_eq_true_eq, Bool.false_eq_true, if_false]
 repeat' split
 all_goals (rw [Option.some.injEq, Bool.eq_iff_iff]; simp only [Bool.not_eq_true', decide_eq_true_eq, decide_eq_false_iff_not, Bool.false_eq_true, true_iff, false_iff]; omega)
theorem control_eq (F : Nat) (r : Int) : M_sign_control F r = some (decide (r < 32 ∨ (127 ≤ r ∧ r ≤ 159) ∨ r = 65533 ∨ (55296 ≤ r ∧ r ≤ 57343) ∨ 1114111 < r)) := by
 unfold M_sign_control
 simp only [among_eq, valid_eq, bind_ite, Option.bind_some, decide_eq_true_eq, decide_eq_false_iff_not, Bool.true_eq_false, if_false]
 repeat' split
 all_goals (rw [Option.some.injEq, Bool.eq_iff_iff]; simp only [Bool.not_eq_true', decide_eq_true_eq, decide_eq_false_iff_not, Bool.false_eq_true, true_iff, false_iff]; omega)
theorem blank_eq (F : Nat) (r : Int) : M_sign_blank F r = some (decide (r = 32 ∨ r = 160 ∨ (8192 ≤ r ∧ r ≤ 8202) ∨ r = 12288)) := by
 unfold M_sign_blank
 simp only [among_eq, valid_eq, bind_ite, Option.bind_some, decide_eq_true_eq, decide_eq_false_iff_not, Bool.true_eq_false, if_false]
 repeat' split
 all_goals (rw [Option.some.injEq, Bool.eq_iff_iff]; simp only [Bool.not_eq_true', decide_eq_true_eq, decide_eq_false_iff_not, Bool.false_eq_true, true_iff, false_iff]; omega)
theorem letter_eq (F : Nat) (r : Int) : M_sign_letter F r = some (decide ((65 ≤ r ∧ r ≤ 90) ∨ (97 ≤ r ∧ r ≤ 122) ∨ (192 ≤ r ∧ r ≤ 591 ∧ r ≠ 215 ∧ r ≠ 247) ∨ (913 ≤ r ∧ r ≤ 969 ∧ r ≠ 930))) := by
 unfold M_sign_letter
 simp only [among_eq, some_ite, prod_ite, ite_self, Option.bind_some, Bool.if_true_right, Bool.if_true_left, Bool.if_false_left, Bool.if_false_right, Option.some.injEq]
 rw [Bool.eq_iff_iff]
 simp
 omega
def sortI (n : Int) : Int :=
 if n < 32 ∨ (127 ≤ n ∧ n ≤ 159) ∨ n = 65533 ∨ (55296 ≤ n ∧ n ≤ 57343) ∨ 1114111 < n then 0
 else if n = 32 ∨ n = 160 ∨ (8192 ≤ n ∧ n ≤ 8202) ∨ n = 12288 then 1
 else if 48 ≤ n ∧ n ≤ 57 then 2
 else if (65 ≤ n ∧ n ≤ 90) ∨ (97 ≤ n ∧ n ≤ 122) ∨ (192 ≤ n ∧ n ≤ 591 ∧ n ≠ 215 ∧ n ≠ 247) ∨ (913 ≤ n ∧ n ≤ 969 ∧ n ≠ 930) then 3 else 4
theorem sort_eq (F : Nat) (r : Int) : M_sign_Sort F r = some (sortI r) := by
 unfold M_sign_Sort sortI
 simp only [control_eq, blank_eq, among_eq, letter_eq, Option.bind_some, decide_eq_true_eq]
 repeat' split
 all_goals first | rfl | omega
end Go.Vm
/- Right texts, plainly. No condition. -/
namespace Go.Vm
open Go.Lib (decodeL decodeN decodeL_N decode_N decodeN_shape decodeL_le)
set_option linter.unusedVariables false
set_option linter.unusedSimpArgs false
def badN (l : List Int) : Bool := l.any fun n => decide (sortI n = 0)
def badR (l : List Int) : Unit ⊕ Bool × Unit := if badN l = true then .inr (false, ()) else .inl ()
theorem badR_nil : badR [] = .inl () := rfl
theorem badR_cons (n : Int) (l : List Int) : badR (n :: l) = if sortI n = 0 then .inr (false, ()) else badR l := by
 unfold badR badN
 by_cases h : sortI n = 0 <;> simp [h]
theorem rightLoop (s : List UInt8) (p : Nat) (hp : p ≤ s.length) : TendsL M_sign_Right_l0 ((), (s, p), ()) (badR ((signs (s.drop p)).map (·.1))) := by
 have main : ∀ n p, s.length - p ≤ n → p ≤ s.length → TendsL M_sign_Right_l0 ((), (s, p), ()) (badR ((signs (s.drop p)).map (·.1))) := by
  intro n
  induction n with
  | zero =>
   intro p hn hp
   have : p = s.length := by omega
   subst this
   refine TendsL.fin (Tends.of fun F => ?_)
   unfold M_sign_Right_l0
   simp [signs_nil, badR_nil]
  | succ n ih =>
   intro p hn hp
   by_cases hlt : p < s.length
   ·have hpos := decodeL_pos (s.drop p)
    have hnx := next_le hlt
    rw [signs_cons (drop_ne hlt), drop_next, List.map_cons, badR_cons]
    by_cases h0 : sortI ((decodeL (s.drop p)).1 : Int) = 0
    ·refine TendsL.fin (Tends.of fun F => ?_)
     unfold M_sign_Right_l0
     simp only [hlt, decide_true, if_true, runeAt_eq, sort_eq, Option.bind_some, h0]
    ·rw [if_neg h0]
     refine TendsL.step (x' := ((), (s, p + (decodeL (s.drop p)).2), ())) (Tends.of fun F => ?_) (ih _ (by omega) hnx)
     unfold M_sign_Right_l0
     simp only [hlt, decide_true, if_true, runeAt_eq, runeLen_eq, sort_eq, Option.bind_some, h0, decide_false, Bool.false_eq_true, if_false]
   ·have : p = s.length := by omega
    subst this
    refine TendsL.fin (Tends.of fun F => ?_)
    unfold M_sign_Right_l0
    simp [signs_nil, badR_nil]
 exact main _ p (Nat.le_refl _) hp
def rightB (s : List UInt8) (r : Int) : Bool := if s = [] ∨ r < (s.length : Int) then false else sumC (badR ((signs s).map (·.1))) (fun _ => true) fun v => v.1
theorem sumC_some {α β γ : Type} (x : α ⊕ β) (f : α → γ) (g : β → γ) : sumC x (fun a => some (f a)) (fun b => some (g b)) = some (sumC x f g) := by cases x <;> rfl
theorem right_tends (s : List UInt8) (r : Int) : Tends (fun F => M_sign_Right F (s, r)) (rightB s r) := by
 unfold M_sign_Right rightB
 by_cases h1 : s = []
 ·simp only [h1, decide_true, Bool.true_eq_false, if_false, Option.bind_some, if_true, true_or]
  exact Tends.ret false
 by_cases h2 : r < (s.length : Int)
 ·simp only [h1, h2, decide_true, decide_false, Bool.true_eq_false, if_false, Option.bind_some, if_true, or_true]
  exact Tends.ret false
 ·simp only [h1, h2, decide_true, decide_false, Bool.false_eq_true, if_false, Option.bind_some, if_true, or_self]
  have := rightLoop s 0 (by omega)
  refine this.run.bind ?_
  rw [List.drop_zero]
  exact Tends.of fun F => sumC_some _ _ _
end Go.Vm
/- Letters, digits, plain bytes, methods and keys: plain. No condition. -/
namespace Go.Vm
open Go Go.Proofs
set_option linter.unusedVariables false
def upN (n : Nat) : Nat := if 97 ≤ n ∧ n ≤ 122 then n - 32 else n
def upC (c : UInt8) : UInt8 := UInt8.ofNat (upN c.toNat)
def isL (c : UInt8) : Bool := decide (65 ≤ upN c.toNat ∧ upN c.toNat ≤ 90)
def dgtN (n : Nat) : Int := if 48 ≤ n ∧ n ≤ 57 then (n : Int) - 48 else if 65 ≤ n ∧ n ≤ 70 then (n : Int) - 55 else if 97 ≤ n ∧ n ≤ 102 then (n : Int) - 87 else -1
def dgt (c : UInt8) : Int := dgtN c.toNat
def plainN (n : Nat) : Bool := decide ((65 ≤ n ∧ n ≤ 90) ∨ (97 ≤ n ∧ n ≤ 122) ∨ (48 ≤ n ∧ n ≤ 57) ∨ n = 45 ∨ n = 46 ∨ n = 95 ∨ n = 126)
def plainB (c : UInt8) : Bool := plainN c.toNat
def hexU (n : Nat) : UInt8 := UInt8.ofNat (if n < 10 then 48 + n else 55 + n)
theorem letter_tab : ∀ c : Fin 256, M_canon_letter 0 ((c.val : Nat) : Int) = some (((upN c.val : Nat) : Int), decide (65 ≤ upN c.val ∧ upN c.val ≤ 90)) := by decide +kernel
theorem digit_tab : ∀ c : Fin 256, M_canon_digit 0 ((c.val : Nat) : Int) = some (dgtN c.val) := by decide +kernel
theorem plain_tab : ∀ c : Fin 256, M_canon_plain 0 ((c.val : Nat) : Int) = some (plainN c.val) := by decide +kernel
theorem great_tab : ∀ c : Fin 16, idx ([48, 49, 50, 51, 52, 53, 54, 55, 56, 57, 65, 66, 67, 68, 69, 70] : List UInt8) ((c.val : Nat) : Int) = some (hexU c.val) := by decide +kernel
theorem letter_at (F : Nat) (c : UInt8) : M_canon_letter F (c.toNat : Int) = some (((upN c.toNat : Nat) : Int), isL c) := letter_tab ⟨c.toNat, c.toNat_lt⟩
theorem digit_at (F : Nat) (c : UInt8) : M_canon_digit F (c.toNat : Int) = some (dgt c) := digit_tab ⟨c.toNat, c.toNat_lt⟩
theorem plain_at (F : Nat) (c : UInt8) : M_canon_plain F (c.toNat : Int) = some (plainB c) := plain_tab ⟨c.toNat, c.toNat_lt⟩
theorem great_at (n : Nat) (h : n < 16) : idx ([48, 49, 50, 51, 52, 53, 54, 55, 56, 57, 65, 66, 67, 68, 69, 70] : List UInt8) (n : Int) = some (hexU n) := great_tab ⟨n, h⟩
theorem dgt_le (c : UInt8) : -1 ≤ dgt c ∧ dgt c ≤ 15 := by unfold dgt dgtN; have := c.toNat_lt; repeat' split
                                                           all_goals omega
theorem byte_back (c : UInt8) : UInt8.ofNat ((c.toNat : Int)).toNat = c := by simp
theorem upC_toNat (c : UInt8) : UInt8.ofNat ((upN c.toNat : Nat) : Int).toNat = upC c := by simp [upC]
theorem wbyte_eq (F : Nat) (l : List UInt8) (n : Int) (hl : l.length ≤ 1000000000000) : M_strings_Builder_WriteByte F (((), l, ()), n) = some ((), ((), l ++ [UInt8.ofNat n.toNat], ())) := by
 have h1 : M_strings_Builder_copyCheck F ((), l, ()) = some ((), ((), l, ())) := rfl
 unfold M_strings_Builder_WriteByte
 simp only [h1, Option.bind_some]
 rw [if_pos (by simp; omega)]
 rfl
theorem bindE {α β : Type} {x : Option α} {a : α} {f : α → Option β} {r : Option β} (h : x = some a) (h2 : f a = r) : x.bind f = r := by rw [h]; exact h2
/-! ### methods -/
def methR (out rest : List UInt8) : (Unit × (Unit × Unit × Unit) × List UInt8 × Unit) ⊕ (List UInt8 × Bool × Unit) := if rest.all isL = true then .inl ((), ((), (), ()), out ++ rest.map upC, ()) else .inr ([], false, ())
theorem methR_t {c : UInt8} {rest out : List UInt8} (h : isL c = true) : methR out (c :: rest) = methR (out ++ [upC c]) rest := by
 unfold methR
 rw [List.all_cons, h, Bool.true_and, List.map_cons, List.append_assoc, List.singleton_append]
theorem methR_f {c : UInt8} {rest out : List UInt8} (h : isL c = false) : methR out (c :: rest) = .inr ([], false, ()) := by
 unfold methR
 rw [List.all_cons, h, Bool.false_and]
 rfl
theorem meth_loop (s : List UInt8) (hs : s.length ≤ 1000) : ∀ (m k : Nat) (out : List UInt8), k + m = s.length → out.length + m ≤ 5000 →
  TendsL M_canon_Method_l0 (s, (), (s.length : Int), (k : Int), ((), (), ()), out, ()) (methR out (s.drop k))
 | 0, k, out, h, ho => by
  refine TendsL.fin (.of fun F => ?_)
  unfold M_canon_Method_l0
  refine (if_neg (by simp; omega)).trans ?_
  rw [List.drop_eq_nil_of_le (by omega)]
  simp [methR]
 | m + 1, k, out, h, ho => by
  have hk : k < s.length := by omega
  have hx := idxN s k (k : Int) rfl hk
  rw [List.drop_eq_getElem_cons hk]
  cases hl : isL s[k]
  ·refine TendsL.fin (.of fun F => ?_)
   unfold M_canon_Method_l0
   refine (if_pos (by simp; omega)).trans ?_
   simp only [hx, Option.bind_some, letter_at, hl]
   rw [methR_f hl]
   rfl
  ·have ih := meth_loop s hs m (k + 1) (out ++ [upC s[k]]) (by omega) (by simp; omega)
   rw [methR_t hl]
   refine TendsL.step (.of fun F => ?_) ih
   unfold M_canon_Method_l0
   refine (if_pos (by simp; omega)).trans ?_
   simp only [hx, Option.bind_some, letter_at, hl, wbyte_eq F out _ (by omega), upC_toNat]
   rw [if_neg (by simp), next_nat k (by omega)]
def methF (s : List UInt8) : List UInt8 × Bool := if s = [] ∨ 8 < s.length then ([], false) else if s.all isL = true then (s.map upC, true) else ([], false)
theorem methF_out {s : List UInt8} (h : s = [] ∨ 8 < s.length) : methF s = ([], false) := by unfold methF; rw [if_pos h]
theorem methF_in {s : List UInt8} (h : ¬ (s = [] ∨ 8 < s.length)) : methF s = if s.all isL = true then (s.map upC, true) else ([], false) := by unfold methF; rw [if_neg h]
theorem meth_tends (s : List UInt8) : Tends (fun F => M_canon_Method F s) (methF s) := by
 unfold M_canon_Method
 by_cases h0 : s = []
 ·rw [methF_out (.inl h0)]
  refine Tends.bind (r := (s, true, ())) (.of fun F => if_neg (by simpa using h0)) (Tends.pos rfl (.ret _))
 by_cases h8 : 8 < s.length
 ·rw [methF_out (.inr h8)]
  refine Tends.bind (r := (s, true, ())) (.of fun F => (if_pos (by simpa using h0)).trans ?_) (Tends.pos rfl (.ret _))
  rw [decide_eq_true (by omega)]
 rw [methF_in (by rintro (h | h) <;> contradiction)]
 refine Tends.bind (r := (s, false, ())) (.of fun F => (if_pos (by simpa using h0)).trans ?_) (Tends.neg (by simp) ?_)
 ·rw [decide_eq_false (by omega)]
 have hl := meth_loop s (by omega) s.length 0 [] (by omega) (by simp; omega)
 rw [List.drop_zero] at hl
 refine Tends.bind hl.run ?_
 unfold methR
 split
 ·exact .ret _
 ·exact .ret _
end Go.Vm
