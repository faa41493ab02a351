import Derived.Test.YtihpjgcbmipdbaaGreatDoorV4
import Derived.Lib.MapLaws
import Derived.Lib.ItoaNum
import Derived.Lib.SplitLaws
import Derived.Lib.Join
import Derived.Lib.AtoiTie
import Derived.Test.YtihpjgcbmipdbaaGreatDoorFref4
/- Parts of lists, plainly. No condition. -/
namespace Go.Vm
set_option linter.unusedVariables false
open Go
end Go.Vm
/- Signs and their bytes, plainly, with no model in sight. No condition but on lengths. -/
namespace Go.Vm
open Go.Lib (decodeL decodeN decodeL_N decode_N decodeN_shape decodeL_le)
set_option linter.unusedVariables false
set_option linter.unusedSimpArgs false
theorem decodeL_pos (l : List UInt8) : 1 ≤ (decodeL l).2 := by
 rw [decodeL_N]
 rcases decodeN_shape l.length (l.getD 0 0).toNat (l.getD 1 0).toNat (l.getD 2 0).toNat (l.getD 3 0).toNat with ⟨_, e⟩ | ⟨_, _, _, _, e⟩ | ⟨_, _, _, _, _, _, e⟩ | ⟨_, _, _, _, _, _, _, e⟩ | e <;> rw [e] <;> simp
theorem getD_drop (s : List UInt8) (i k : Nat) : (s.drop i).getD k 0 = s.getD (i + k) 0 := by simp [List.getD]
theorem dec_at (s : List UInt8) (i : Nat) : Utf8.decode ⟨s.toArray⟩ i = decodeL (s.drop i) := by
 rw [decode_N, decodeL_N]
 simp only [List.length_drop, getD_drop, Nat.add_zero]
theorem runeAt_eq (s : List UInt8) (i : Nat) : runeAt s i = ((decodeL (s.drop i)).1 : Int) := by unfold runeAt; rw [dec_at]; rfl
theorem runeLen_eq (s : List UInt8) (i : Nat) : runeLen s i = (decodeL (s.drop i)).2 := by unfold runeLen; rw [dec_at]
def signs (l : List UInt8) : List (Int × List UInt8) :=
 if h : l = [] then [] else (((decodeL l).1 : Int), l.take (decodeL l).2) :: signs (l.drop (decodeL l).2)
termination_by l.length
decreasing_by
 have := decodeL_pos l
 have : 0 < l.length := List.length_pos_iff.2 h
 simp only [List.length_drop]
 omega
theorem signs_nil : signs [] = [] := by rw [signs]; simp
theorem signs_cons {l : List UInt8} (h : l ≠ []) : signs l = (((decodeL l).1 : Int), l.take (decodeL l).2) :: signs (l.drop (decodeL l).2) := by
 conv => lhs; rw [signs]
 simp [h]
theorem signs_ind {p : List UInt8 → Prop} (h0 : p []) (h1 : ∀ l, l ≠ [] → p (l.drop (decodeL l).2) → p l) (l : List UInt8) : p l := by
 have : ∀ n (l : List UInt8), l.length ≤ n → p l := by
  intro n
  induction n with
  | zero => intro l hl; rw [List.length_eq_zero_iff.1 (by omega : l.length = 0)]; exact h0
  | succ n ih =>
   intro l hl
   by_cases hn : l = []
   ·rw [hn]; exact h0
   ·refine h1 l hn (ih _ ?_)
    have := decodeL_pos l
    have : 0 < l.length := List.length_pos_iff.2 hn
    simp only [List.length_drop]
    omega
 exact this l.length l (Nat.le_refl _)
theorem signs_len (l : List UInt8) : (signs l).length ≤ l.length := by
 induction l using signs_ind with
 | h0 => rw [signs_nil]; simp
 | h1 l hn ih =>
  rw [signs_cons hn]
  have := decodeL_pos l
  have : 0 < l.length := List.length_pos_iff.2 hn
  simp only [List.length_drop, List.length_cons] at ih ⊢
  omega
theorem idx_lit (l : List UInt8) (k : Nat) : idx l (k : Int) = if k < l.length then some (l.getD k 0) else none := by
 unfold idx
 rw [if_pos (by omega)]
 split
 ·rename_i h; simp [h]
 ·rename_i h; simp; omega
theorem sumC_ite {α β γ : Type} (c : Prop) [Decidable c] (s t : α ⊕ β) (f : α → γ) (g : β → γ) : sumC (if c then s else t) f g = if c then sumC s f g else sumC t f g := by split <;> rfl
theorem sumC_inl {α β γ : Type} (a : α) (f : α → γ) (g : β → γ) : sumC (.inl a) f g = f a := rfl
theorem sumC_inr {α β γ : Type} (b : β) (f : α → γ) (g : β → γ) : sumC (.inr b) f g = g b := rfl
theorem sub_nat {α : Type} (s : List α) (a b : Nat) (h : a ≤ b) (h' : b ≤ s.length) : sub s (a : Int) (b : Int) = some ((s.drop a).take (b - a)) := by
 unfold sub
 rw [if_pos (by omega)]
 simp
theorem sub_to_end {α : Type} (s : List α) (a : Nat) (h : a ≤ s.length) : sub s (a : Int) (s.length : Int) = some (s.drop a) := by
 rw [sub_nat s a s.length h (Nat.le_refl _), List.take_of_length_le (by simp)]
def ats (p : Nat) : List (Int × List UInt8) → List Int
 | [] => []
 | x :: t => (p : Int) :: ats (p + x.2.length) t
theorem drop_ne {s : List UInt8} {p : Nat} (h : p < s.length) : s.drop p ≠ [] := by
 intro e
 have := congrArg List.length e
 simp at this
 omega
theorem drop_next (s : List UInt8) (p : Nat) : (s.drop p).drop (decodeL (s.drop p)).2 = s.drop (p + (decodeL (s.drop p)).2) := by rw [List.drop_drop]
theorem take_len {s : List UInt8} {p : Nat} (h : p < s.length) : ((s.drop p).take (decodeL (s.drop p)).2).length = (decodeL (s.drop p)).2 := by
 have := decodeL_le (s.drop p) (drop_ne h)
 simp only [List.length_take]
 omega
theorem next_le {s : List UInt8} {p : Nat} (h : p < s.length) : p + (decodeL (s.drop p)).2 ≤ s.length := by
 have := decodeL_le (s.drop p) (drop_ne h)
 simp only [List.length_drop] at this
 omega
def okR (c : Nat) : Prop := c ≤ 1114111 ∧ (c < 55296 ∨ 57343 < c)
def encN (c : Nat) : List UInt8 := if c < 128 then [UInt8.ofNat c] else if c < 2048 then [UInt8.ofNat (192 + c / 64), UInt8.ofNat (128 + c % 64)] else if c < 65536 then [UInt8.ofNat (224 + c / 4096), UInt8.ofNat (128 + c / 64 % 64), UInt8.ofNat (128 + c % 64)] else [UInt8.ofNat (240 + c / 262144), UInt8.ofNat (128 + c / 4096 % 64), UInt8.ofNat (128 + c / 64 % 64), UInt8.ofNat (128 + c % 64)]
def encB (c : Nat) : ByteArray := if c < 0x80 then ⟨#[UInt8.ofNat c]⟩
 else if c < 0x800 then ⟨#[UInt8.ofNat (0xC0 + c / 64), UInt8.ofNat (0x80 + c % 64)]⟩
 else if c < 0x10000 then ⟨#[UInt8.ofNat (0xE0 + c / 4096), UInt8.ofNat (0x80 + c / 64 % 64), UInt8.ofNat (0x80 + c % 64)]⟩
 else ⟨#[UInt8.ofNat (0xF0 + c / 262144), UInt8.ofNat (0x80 + c / 4096 % 64), UInt8.ofNat (0x80 + c / 64 % 64), UInt8.ofNat (0x80 + c % 64)]⟩
theorem enc_B (r : Int) : Utf8.encode r = encB (if Utf8.valid r = true then r.toNat else Utf8.runeError) := rfl
theorem B_N (c : Nat) : (encB c).data.toList = encN c := by
 unfold encB encN
 split
 ·rfl
 split
 ·rfl
 split
 ·rfl
 ·rfl
theorem e1 (n : Int) : enc8 n = (Utf8.encode n).data.toList := by unfold enc8; rfl
theorem e3 (n : Int) : enc8 n = encN (if Utf8.valid n = true then n.toNat else Utf8.runeError) := (e1 n).trans ((congrArg (fun b : ByteArray => b.data.toList) (enc_B n)).trans (B_N _))
theorem e2 (n : Int) (c : Nat) (hn : n = (c : Int)) (hv : Utf8.valid n = true) : (if Utf8.valid n = true then n.toNat else Utf8.runeError) = c := by rw [if_pos hv]; omega
theorem enc8_N (n : Int) (c : Nat) (hn : n = (c : Int)) (hv : Utf8.valid n = true) : enc8 n = encN c := by rw [e3, e2 n c hn hv]
theorem valid_ok (n : Int) (c : Nat) (hn : n = (c : Int)) (h : okR c) : Utf8.valid n = true := by
 obtain ⟨h1, h2⟩ := h
 unfold Utf8.valid
 rcases h2 with h2 | h2
 ·have a : (0 : Int) ≤ n := by omega
  have b : n < 0xD800 := by omega
  simp only [a, b, decide_true, Bool.and_true, Bool.true_or]
 ·have a : (0xE000 : Int) ≤ n := by omega
  have b : n ≤ 0x10FFFF := by omega
  simp only [a, b, decide_true, Bool.and_true, Bool.or_true]
theorem enc8_val (c : Nat) (h : okR c) : enc8 (c : Int) = encN c := enc8_N _ c rfl (valid_ok _ c rfl h)
theorem wrapU8 (n : Int) (h : 0 ≤ n) (h' : n ≤ 255) : IntKind.u8.wrap n = n := by
 have hb : IntKind.u8.bits = 8 := rfl
 have hs : IntKind.u8.signed = false := rfl
 unfold IntKind.wrap
 simp only [hb, hs]
 simp
 omega
theorem wrapU8_mod (n : Int) (h : 0 ≤ n) : IntKind.u8.wrap n = n % 256 := by
 have hb : IntKind.u8.bits = 8 := rfl
 have hs : IntKind.u8.signed = false := rfl
 unfold IntKind.wrap
 simp only [hb, hs]
 simp
theorem wrapU32 (n : Int) (h : 0 ≤ n) (h' : n ≤ 4294967295) : IntKind.u32.wrap n = n := by
 have hb : IntKind.u32.bits = 32 := rfl
 have hs : IntKind.u32.signed = false := rfl
 unfold IntKind.wrap
 simp only [hb, hs]
 simp
 omega
theorem rune_ok (l : List UInt8) : okR (decodeL l).1 := by
 unfold okR
 rw [decodeL_N]
 rcases decodeN_shape l.length (l.getD 0 0).toNat (l.getD 1 0).toNat (l.getD 2 0).toNat (l.getD 3 0).toNat with ⟨p, e⟩ | ⟨_, _, _, _, e⟩ | ⟨_, _, _, _, _, _, e⟩ | ⟨_, _, _, _, _, _, _, e⟩ | e <;> rw [e] <;> simp only <;> omega
theorem ior192 : ∀ k : Fin 32, ior .u8 192 ((k.val : Nat) : Int) = ((192 + k.val : Nat) : Int) := by decide
theorem ior224 : ∀ k : Fin 16, ior .u8 224 ((k.val : Nat) : Int) = ((224 + k.val : Nat) : Int) := by decide
theorem ior240 : ∀ k : Fin 8, ior .u8 240 ((k.val : Nat) : Int) = ((240 + k.val : Nat) : Int) := by decide
theorem ior128 : ∀ k : Fin 64, ior .u8 128 ((k.val : Nat) : Int) = ((128 + k.val : Nat) : Int) := by decide
theorem iand63 : ∀ k : Fin 256, iand .u8 ((k.val : Nat) : Int) 63 = ((k.val % 64 : Nat) : Int) := by decide +kernel
theorem io192 (k : Nat) (h : k < 32) : ior .u8 192 (k : Int) = ((192 + k : Nat) : Int) := ior192 ⟨k, h⟩
theorem io224 (k : Nat) (h : k < 16) : ior .u8 224 (k : Int) = ((224 + k : Nat) : Int) := ior224 ⟨k, h⟩
theorem io240 (k : Nat) (h : k < 8) : ior .u8 240 (k : Int) = ((240 + k : Nat) : Int) := ior240 ⟨k, h⟩
theorem io128 (k : Nat) (h : k < 64) : ior .u8 128 (k : Int) = ((128 + k : Nat) : Int) := ior128 ⟨k, h⟩
theorem low6 (d : Nat) : ior .u8 128 (iand .u8 (IntKind.u8.wrap (d : Int)) 63) = ((128 + d % 64 : Nat) : Int) := by
 rw [wrapU8_mod _ (by omega), show (d : Int) % 256 = ((d % 256 : Nat) : Int) by omega, show iand .u8 ((d % 256 : Nat) : Int) 63 = ((d % 256 % 64 : Nat) : Int) from iand63 ⟨d % 256, by omega⟩, io128 _ (by omega)]
 congr 2
 omega
theorem shr_nat (c : Nat) (j : Nat) (hj : j ≤ 32) : shr .i32 (c : Int) (j : Int) = ((c / 2 ^ j : Nat) : Int) := by
 have hb : IntKind.i32.bits = 32 := rfl
 unfold shr
 rw [hb, Int.toNat_natCast, Nat.min_eq_left hj, Int.fdiv_eq_ediv_of_nonneg _ (Int.pow_nonneg (by decide)), Int.natCast_ediv, Int.natCast_pow]
 rfl
theorem encN_len (c : Nat) : (encN c).length ≤ 4 := by unfold encN; repeat' split
                                                       all_goals simp
end Go.Vm
/- JSON, plainly: which value a text is, and what a value's form is. No condition. -/
namespace Go.Vm
open Go.Lib (decodeL decodeN decodeL_N decode_N decodeN_shape decodeL_le)
set_option linter.unusedVariables false
set_option linter.unusedSimpArgs false
def isBl (c : UInt8) : Bool := c == 32 || c == 9 || c == 10 || c == 13
def skp (s : By) : By := s.dropWhile isBl
def hexD (c : UInt8) : Option Nat := if 48 ≤ c.toNat ∧ c.toNat ≤ 57 then some (c.toNat - 48) else if 97 ≤ c.toNat ∧ c.toNat ≤ 102 then some (c.toNat - 87) else if 65 ≤ c.toNat ∧ c.toNat ≤ 70 then some (c.toNat - 55) else none
def hexN (s : By) : Option Nat := match s with
 | a :: b :: c :: d :: _ => (hexD a).bind fun a => (hexD b).bind fun b => (hexD c).bind fun c => (hexD d).bind fun d => some (((a * 16 + b) * 16 + c) * 16 + d)
 | _ => none
def pairN (n m : Nat) : Nat := 65536 + (n - 55296) * 1024 + (m - 56320)
def lowP (n : Nat) (r : By) : Option (Nat × Nat) := match r with
 | 92 :: 117 :: q => (hexN q).bind fun m => if 56320 ≤ m ∧ m ≤ 57343 then some (pairN n m, 12) else none
 | _ => none
def uniP (r : By) : Option (Nat × Nat) :=
 (hexN r).bind fun n => if n < 55296 ∨ 57343 < n then some (n, 6) else if 56320 ≤ n then none else lowP n (r.drop 4)
def escP (s : By) : Option (Nat × Nat) := match s with
 | [] => none
 | c :: r => if c = 34 ∨ c = 92 ∨ c = 47 then some (c.toNat, 2) else if c = 98 then some (8, 2) else if c = 102 then some (12, 2) else if c = 110 then some (10, 2) else if c = 114 then some (13, 2) else if c = 116 then some (9, 2) else if c = 117 then uniP r else none
def txtP : Nat → By → Option (By × By)
 | 0, _ => none
 | n + 1, s => match s with
  | [] => none
  | c :: r => if c = 34 then some ([], r) else if c = 92 then (escP r).bind fun x => (txtP n (s.drop x.2)).map fun y => (encN x.1 ++ y.1, y.2)
   else if (decodeL s).1 < 32 ∨ ((decodeL s).1 = 65533 ∧ (decodeL s).2 = 1) then none else (txtP n (s.drop (decodeL s).2)).map fun y => (s.take (decodeL s).2 ++ y.1, y.2)
def txt (s : By) : Option (By × By) := txtP s.length s
def isDig (c : UInt8) : Bool := decide (48 ≤ c.toNat) && decide (c.toNat ≤ 57)
def digs (s : By) : By := match s with
 | [] => []
 | c :: _ => if c = 48 then [48] else (s.takeWhile isDig).take 15
def valD (ds : By) : Nat := ds.foldl (fun n c => n * 10 + (c.toNat - 48)) 0
def numP (s : By) : Option (Int × By) := match s with
 | [] => none
 | c :: r => if c = 45 then (if digs r = [] then none else some (-(valD (digs r) : Int), r.drop (digs r).length))
  else if digs s = [] then none else some ((valD (digs s) : Int), s.drop (digs s).length)
def lstP (V : By → Except Nat (JV × By)) : Nat → By → Except Nat (List JV × By)
 | 0, _ => .error 3
 | n + 1, s => match V s with
  | .error e => .error e
  | .ok (v, r) => match skp r with
   | 44 :: r' => match lstP V n r' with
    | .error e => .error e
    | .ok (l, r'') => .ok (v :: l, r'')
   | 93 :: r' => .ok ([v], r')
   | _ => .error 3
def objP (V : By → Except Nat (JV × By)) : Nat → List Me → By → Except Nat (List Me × By)
 | 0, _, _ => .error 3
 | n + 1, acc, s => match skp s with
  | 34 :: r => match txt r with
   | none => .error 3
   | some (name, r) => if acc.any (fun m => m.1 == name) then .error 7 else match skp r with
    | 58 :: r => match V r with
     | .error e => .error e
     | .ok (v, r) => match skp r with
      | 44 :: r => objP V n (acc ++ [(name, v, ())]) r
      | 125 :: r => .ok (acc ++ [(name, v, ())], r)
      | _ => .error 3
    | _ => .error 3
  | _ => .error 3
def valB (V : Option (By → Except Nat (JV × By))) (s : By) : Except Nat (JV × By) :=
 match skp s with
 | [] => .error 3
 | c :: r =>
  if c = 123 then match V with
   | none => .error 10
   | some V => match skp r with
    | 125 :: r => .ok (.obj [], r)
    | r => match objP V (r.length + 1) [] r with
     | .error e => .error e
     | .ok (l, r) => .ok (.obj (sortM l), r)
  else if c = 91 then match V with
   | none => .error 10
   | some V => match skp r with
    | 93 :: r => .ok (.list [], r)
    | r => match lstP V (r.length + 1) r with
     | .error e => .error e
     | .ok (l, r) => .ok (.list l, r)
  else if c = 34 then match txt r with
   | none => .error 3
   | some (t, r) => .ok (.str t, r)
  else if (c :: r).take 4 = [110, 117, 108, 108] then .ok (.null, r.drop 3)
  else if (c :: r).take 4 = [116, 114, 117, 101] then .ok (.bool true, r.drop 3)
  else if (c :: r).take 5 = [102, 97, 108, 115, 101] then .ok (.bool false, r.drop 4)
  else match numP (c :: r) with
   | none => .error 3
   | some (n, r) => .ok (.int n, r)
def valP : Nat → By → Except Nat (JV × By)
 | 0, s => valB none s
 | d + 1, s => valB (some (valP d)) s
def allP (s : By) : Except Nat JV := if 400 < s.length then .error 5 else match valP 8 s with
 | .error e => .error e
 | .ok (v, r) => if skp r = [] then .ok v else .error 3
/-! ### forms -/
def hexC (n : Nat) : UInt8 := if n < 10 then UInt8.ofNat (48 + n) else UInt8.ofNat (87 + n)
def quoB (c : UInt8) : By := if c = 34 ∨ c = 92 then [92, c] else if c = 8 then [92, 98] else if c = 9 then [92, 116] else if c = 10 then [92, 110] else if c = 12 then [92, 102] else if c = 13 then [92, 114] else if c.toNat < 32 then [92, 117, 48, 48, hexC (c.toNat / 16), hexC (c.toNat % 16)] else [c]
def quoL (t : By) : By := t.flatMap quoB
def quo (t : By) : By := 34 :: (quoL t ++ [34])
def joinB : List By → By
 | [] => []
 | [x] => x
 | x :: y :: l => x ++ 44 :: joinB (y :: l)
def layB (L : Option (JV → By)) : JV → By
 | .nil => [110, 117, 108, 108]
 | .null => [110, 117, 108, 108]
 | .bool true => [116, 114, 117, 101]
 | .bool false => [102, 97, 108, 115, 101]
 | .int n => Go.Lib.itoa n
 | .str t => quo t
 | .list l => match L with
  | none => []
  | some L => 91 :: (joinB (l.map L) ++ [93])
 | .obj l => match L with
  | none => []
  | some L => 123 :: (joinB (l.map fun m => quo m.1 ++ 58 :: L m.2.1) ++ [125])
def layP : Nat → JV → By
 | 0, v => layB none v
 | d + 1, v => layB (some (layP d)) v
/-! ### what is behind is shorter -/
theorem skp_len (s : By) : (skp s).length ≤ s.length := by unfold skp; exact (List.dropWhile_suffix isBl).length_le
theorem skp_suffix (s : By) : skp s <:+ s := List.dropWhile_suffix isBl
theorem skp_idem (s : By) : skp (skp s) = skp s := by
 unfold skp
 induction s with
 | nil => rfl
 | cons c s ih =>
  by_cases h : isBl c = true
  ·rw [List.dropWhile_cons_of_pos h]; exact ih
  ·rw [List.dropWhile_cons_of_neg h, List.dropWhile_cons_of_neg h]
theorem lowP_2 {n : Nat} {r : By} {x : Nat × Nat} (h : lowP n r = some x) : 2 ≤ x.2 := by
 unfold lowP at h
 split at h
 ·obtain ⟨m, hm, h⟩ := Option.bind_eq_some_iff.1 h
  clear hm
  by_cases hc : 56320 ≤ m ∧ m ≤ 57343
  ·rw [if_pos hc] at h
   injection h with h
   subst h
   exact Nat.le_of_ble_eq_true rfl
  ·rw [if_neg hc] at h
   cases h
 ·cases h
theorem uniP_2 {r : By} {x : Nat × Nat} (h : uniP r = some x) : 2 ≤ x.2 := by
 unfold uniP at h
 obtain ⟨k, hk, h⟩ := Option.bind_eq_some_iff.1 h
 clear hk
 by_cases c1 : k < 55296 ∨ 57343 < k
 ·rw [if_pos c1] at h; cases h; exact Nat.le_of_ble_eq_true rfl
 rw [if_neg c1] at h
 by_cases c2 : 56320 ≤ k
 ·rw [if_pos c2] at h; cases h
 rw [if_neg c2] at h
 exact lowP_2 h
theorem escP_2 {s : By} {x : Nat × Nat} (h : escP s = some x) : 2 ≤ x.2 := by
 unfold escP at h
 split at h
 ·cases h
 ·repeat' split at h
  all_goals first | (cases h; done) | (cases h; exact Nat.le_of_ble_eq_true rfl) | exact uniP_2 h
theorem txtP_fuel : ∀ (n m : Nat) (s : By), s.length ≤ n → s.length ≤ m → txtP n s = txtP m s
 | 0, 0, s, h, h' => rfl
 | 0, m + 1, s, h, h' => by
  obtain rfl : s = [] := List.length_eq_zero_iff.1 (by omega)
  rfl
 | n + 1, 0, s, h, h' => by
  obtain rfl : s = [] := List.length_eq_zero_iff.1 (by omega)
  rfl
 | n + 1, m + 1, s, h, h' => by
  cases s with
  | nil => rfl
  | cons c r =>
   have hp := decodeL_pos (c :: r)
   simp only [List.length_cons] at h h'
   unfold txtP
   simp only
   split
   ·rfl
   split
   ·cases he : escP r with
    | none => rfl
    | some x =>
     simp only [Option.bind_some]
     have hx := escP_2 he
     rw [txtP_fuel n m ((c :: r).drop x.2) (by simp; omega) (by simp; omega)]
   split
   ·rfl
   ·rw [txtP_fuel n m ((c :: r).drop (decodeL (c :: r)).2) (by simp; omega) (by simp; omega)]
end Go.Vm
/- JSON, plainly: signs and their bytes; texts of right signs; what is printed is read. No condition. -/
namespace Go.Vm
open Go.Lib (decodeL decodeN decodeL_N decode_N decodeN_shape decodeL_le)
set_option linter.unusedVariables false
set_option linter.unusedSimpArgs false
instance (c : Nat) : Decidable (okR c) := by unfold okR; infer_instance
theorem dec_encN (c : Nat) (h : okR c) (r : By) : decodeL (encN c ++ r) = (c, (encN c).length) := by
 obtain ⟨h1, h2⟩ := h
 rw [decodeL_N]
 unfold encN
 by_cases c1 : c < 128
 ·simp only [c1, if_true]
  have a0 : (UInt8.ofNat c).toNat = c := by simp; omega
  simp only [List.cons_append, List.nil_append, List.getD_cons_zero, List.length_cons, List.length_nil, a0]
  unfold decodeN
  rw [if_pos c1]
 by_cases c2 : c < 2048
 ·simp only [c1, c2, if_true, if_false]
  have a0 : (UInt8.ofNat (192 + c / 64)).toNat = 192 + c / 64 := by simp; omega
  have a1 : (UInt8.ofNat (128 + c % 64)).toNat = 128 + c % 64 := by simp; omega
  simp only [List.cons_append, List.nil_append, List.getD_cons_zero, List.getD_cons_succ, List.length_cons, List.length_nil, a0, a1]
  unfold decodeN
  rw [if_neg (by omega), if_pos ⟨by omega, by omega, by omega⟩, if_pos (by omega)]
  congr 1
  omega
 by_cases c3 : c < 65536
 ·simp only [c1, c2, c3, if_true, if_false]
  have a0 : (UInt8.ofNat (224 + c / 4096)).toNat = 224 + c / 4096 := by simp; omega
  have a1 : (UInt8.ofNat (128 + c / 64 % 64)).toNat = 128 + c / 64 % 64 := by simp; omega
  have a2 : (UInt8.ofNat (128 + c % 64)).toNat = 128 + c % 64 := by simp; omega
  simp only [List.cons_append, List.nil_append, List.getD_cons_zero, List.getD_cons_succ, List.length_cons, List.length_nil, a0, a1, a2]
  unfold decodeN
  rw [if_neg (by omega), if_neg (by omega), if_pos ⟨by omega, ⟨by omega, by omega⟩, by omega, by omega⟩, if_pos (by omega)]
  congr 1
  omega
 ·simp only [c1, c2, c3, if_false]
  have a0 : (UInt8.ofNat (240 + c / 262144)).toNat = 240 + c / 262144 := by simp; omega
  have a1 : (UInt8.ofNat (128 + c / 4096 % 64)).toNat = 128 + c / 4096 % 64 := by simp; omega
  have a2 : (UInt8.ofNat (128 + c / 64 % 64)).toNat = 128 + c / 64 % 64 := by simp; omega
  have a3 : (UInt8.ofNat (128 + c % 64)).toNat = 128 + c % 64 := by simp; omega
  simp only [List.cons_append, List.nil_append, List.getD_cons_zero, List.getD_cons_succ, List.length_cons, List.length_nil, a0, a1, a2, a3]
  unfold decodeN
  rw [if_neg (by omega), if_neg (by omega), if_neg (by omega), if_pos ⟨by omega, ⟨by omega, by omega⟩, ⟨by omega, by omega⟩, by omega, by omega⟩, if_pos (by omega)]
  congr 1
  omega
theorem encR_N (c : Nat) (h : okR c) : Go.Lib.encodeRune (c : Int) = encN c := by
 obtain ⟨h1, h2⟩ := h
 unfold Go.Lib.encodeRune encN
 have q : ∀ z : Int, ∀ n : Nat, z = (n : Int) → z.toNat.toUInt8 = UInt8.ofNat n := by intro z n e; subst e; rfl
 by_cases c1 : c < 128
 ·rw [if_pos c1, Go.Lib.encodeRuneZ_one (by omega) (by omega)]
  simp only [List.map_cons, List.map_nil]
  rw [q _ c rfl]
 by_cases c2 : c < 2048
 ·rw [if_neg c1, if_pos c2, Go.Lib.encodeRuneZ_two (by omega) (by omega)]
  simp only [List.map_cons, List.map_nil]
  rw [q _ (192 + c / 64) (by omega), q _ (128 + c % 64) (by omega)]
 by_cases c3 : c < 65536
 ·rw [if_neg c1, if_neg c2, if_pos c3, Go.Lib.encodeRuneZ_three (by omega)]
  simp only [List.map_cons, List.map_nil]
  rw [q _ (224 + c / 4096) (by omega), q _ (128 + c / 64 % 64) (by omega), q _ (128 + c % 64) (by omega)]
 ·rw [if_neg c1, if_neg c2, if_neg c3, Go.Lib.encodeRuneZ_four (by omega) (by omega)]
  simp only [List.map_cons, List.map_nil]
  rw [q _ (240 + c / 262144) (by omega), q _ (128 + c / 4096 % 64) (by omega), q _ (128 + c / 64 % 64) (by omega), q _ (128 + c % 64) (by omega)]
theorem take_encN (l : By) (hne : l ≠ []) (hv : ¬ ((decodeL l).1 = 65533 ∧ (decodeL l).2 = 1)) : l.take (decodeL l).2 = encN (decodeL l).1 := by
 rw [← Go.Lib.encode_decode l hne hv, encR_N _ (rune_ok l)]
theorem encN_ne (c : Nat) : encN c ≠ [] := by unfold encN; repeat' split
                                              all_goals simp
theorem encN_pos (c : Nat) : 1 ≤ (encN c).length := by have := List.length_pos_iff.2 (encN_ne c); omega
inductive OkT : By → Prop
 | nil : OkT []
 | cons (c : Nat) (t : By) : okR c → OkT t → OkT (encN c ++ t)
theorem OkT.app {a b : By} (h : OkT a) (h' : OkT b) : OkT (a ++ b) := by
 induction h with
 | nil => exact h'
 | cons c t hc _ ih => rw [List.append_assoc]; exact .cons c _ hc ih
/-! ### what escapes tell is a sign -/
theorem hexD_lt {c : UInt8} {n : Nat} (h : hexD c = some n) : n < 16 := by
 unfold hexD at h
 repeat' split at h
 all_goals first | (cases h; done) | (cases h; omega)
theorem hexN_lt {s : By} {n : Nat} (h : hexN s = some n) : n < 65536 ∧ 4 ≤ s.length := by
 unfold hexN at h
 split at h
 ·obtain ⟨a, ha, h⟩ := Option.bind_eq_some_iff.1 h
  obtain ⟨b, hb, h⟩ := Option.bind_eq_some_iff.1 h
  obtain ⟨c, hc, h⟩ := Option.bind_eq_some_iff.1 h
  obtain ⟨d, hd, h⟩ := Option.bind_eq_some_iff.1 h
  cases h
  have := hexD_lt ha; have := hexD_lt hb; have := hexD_lt hc; have := hexD_lt hd
  refine ⟨by omega, by simp⟩
 ·cases h
theorem lowP_ok {n : Nat} {r : By} {c k : Nat} (h : lowP n r = some (c, k)) (h1 : ¬ (n < 55296 ∨ 57343 < n)) (h2 : ¬ 56320 ≤ n) : okR c ∧ k = 12 ∧ 6 ≤ r.length := by
 unfold lowP at h
 split at h
 ·rename_i q
  obtain ⟨m, hm, h⟩ := Option.bind_eq_some_iff.1 h
  have h3 := hexN_lt hm
  by_cases hc : 56320 ≤ m ∧ m ≤ 57343
  ·rw [if_pos hc] at h
   injection h with h
   injection h with h4 h5
   subst h5
   unfold pairN at h4
   unfold okR
   exact ⟨by omega, rfl, by simp; omega⟩
  ·rw [if_neg hc] at h
   cases h
 ·cases h
theorem uniP_ok {r : By} {c k : Nat} (h : uniP r = some (c, k)) : okR c ∧ (k = 6 ∧ c < 65536 ∨ k = 12) ∧ k ≤ r.length + 2 := by
 unfold uniP at h
 obtain ⟨n, hn, h⟩ := Option.bind_eq_some_iff.1 h
 have h1 := hexN_lt hn
 by_cases c1 : n < 55296 ∨ 57343 < n
 ·rw [if_pos c1] at h
  injection h with h
  injection h with h2 h3
  subst h3
  unfold okR
  exact ⟨by omega, .inl ⟨rfl, by omega⟩, by omega⟩
 rw [if_neg c1] at h
 by_cases c2 : 56320 ≤ n
 ·rw [if_pos c2] at h; cases h
 rw [if_neg c2] at h
 obtain ⟨q1, q2, q3⟩ := lowP_ok h c1 c2
 simp at q3
 exact ⟨q1, .inr q2, by omega⟩
theorem quoB_len (c : UInt8) : (quoB c).length ≤ 6 := by
 unfold quoB
 repeat' split
 all_goals simp
theorem quoB_big (n : Nat) (h : 128 ≤ n) (h' : n < 256) : quoB (UInt8.ofNat n) = [UInt8.ofNat n] := by
 have e : (UInt8.ofNat n).toNat = n := by simp; omega
 have ne : ∀ k : UInt8, k.toNat < 128 → UInt8.ofNat n ≠ k := by
  intro k hk hh
  rw [← hh, e] at hk
  omega
 unfold quoB
 rw [if_neg (by rintro (hh | hh) <;> exact ne _ (by decide) hh), if_neg (ne _ (by decide)), if_neg (ne _ (by decide)), if_neg (ne _ (by decide)), if_neg (ne _ (by decide)), if_neg (ne _ (by decide)), if_neg (by omega)]
theorem quoL_one (c : Nat) (h : c < 128) : quoL (encN c) = quoB (UInt8.ofNat c) := by
 unfold encN quoL
 rw [if_pos h]
 simp
theorem quoL_big (c : Nat) (h : ¬ c < 128) (h' : c ≤ 1114111) : quoL (encN c) = encN c := by
 unfold encN quoL
 rw [if_neg h]
 split
 ·simp only [List.flatMap_cons, List.flatMap_nil]
  rw [quoB_big _ (by omega) (by omega), quoB_big _ (by omega) (by omega)]
  rfl
 split
 ·simp only [List.flatMap_cons, List.flatMap_nil]
  rw [quoB_big _ (by omega) (by omega), quoB_big _ (by omega) (by omega), quoB_big _ (by omega) (by omega)]
  rfl
 ·simp only [List.flatMap_cons, List.flatMap_nil]
  rw [quoB_big _ (by omega) (by omega), quoB_big _ (by omega) (by omega), quoB_big _ (by omega) (by omega), quoB_big _ (by omega) (by omega)]
  rfl
theorem quoL_enc' (c : Nat) (h : c ≤ 1114111) : (quoL (encN c)).length ≤ 6 := by
 by_cases h1 : c < 128
 ·rw [quoL_one c h1]; exact quoB_len _
 ·rw [quoL_big c h1 h]; have := encN_len c; omega
theorem escP_ok {s : By} {c k : Nat} (h : escP s = some (c, k)) : okR c ∧ 2 ≤ k ∧ k ≤ s.length + 1 ∧ (quoL (encN c)).length ≤ k := by
 unfold escP at h
 split at h
 ·cases h
 ·rename_i x r
  by_cases h1 : x = 34 ∨ x = 92 ∨ x = 47
  ·rw [if_pos h1] at h
   cases h
   rcases h1 with rfl | rfl | rfl <;> exact ⟨by decide, by decide, by simp, by decide⟩
  rw [if_neg h1] at h
  by_cases h2 : x = 98
  ·rw [if_pos h2] at h; cases h; exact ⟨by decide, by decide, by simp, by decide⟩
  rw [if_neg h2] at h
  by_cases h3 : x = 102
  ·rw [if_pos h3] at h; cases h; exact ⟨by decide, by decide, by simp, by decide⟩
  rw [if_neg h3] at h
  by_cases h4 : x = 110
  ·rw [if_pos h4] at h; cases h; exact ⟨by decide, by decide, by simp, by decide⟩
  rw [if_neg h4] at h
  by_cases h5 : x = 114
  ·rw [if_pos h5] at h; cases h; exact ⟨by decide, by decide, by simp, by decide⟩
  rw [if_neg h5] at h
  by_cases h6 : x = 116
  ·rw [if_pos h6] at h; cases h; exact ⟨by decide, by decide, by simp, by decide⟩
  rw [if_neg h6] at h
  by_cases h7 : x = 117
  ·rw [if_pos h7] at h
   obtain ⟨q1, q2, q3⟩ := uniP_ok h
   have q4 := quoL_enc' c q1.1
   refine ⟨q1, by omega, by simp; omega, by omega⟩
  ·rw [if_neg h7] at h; cases h
end Go.Vm
/- JSON, plainly: strings. What is printed is read; what is read is of right signs, and is printed in no more bytes. No condition. -/
namespace Go.Vm
open Go.Lib (decodeL decodeN decodeL_N decode_N decodeN_shape decodeL_le)
set_option linter.unusedVariables false
set_option linter.unusedSimpArgs false
theorem txt_nil : txt [] = none := rfl
theorem txt_cons (c : UInt8) (r : By) : txt (c :: r) = if c = 34 then some ([], r) else if c = 92 then (escP r).bind fun x => (txt ((c :: r).drop x.2)).map fun y => (encN x.1 ++ y.1, y.2)
  else if (decodeL (c :: r)).1 < 32 ∨ ((decodeL (c :: r)).1 = 65533 ∧ (decodeL (c :: r)).2 = 1) then none else (txt ((c :: r).drop (decodeL (c :: r)).2)).map fun y => ((c :: r).take (decodeL (c :: r)).2 ++ y.1, y.2) := by
 have hp := decodeL_pos (c :: r)
 unfold txt
 conv => lhs; rw [List.length_cons, txtP]
 by_cases h1 : c = 34
 ·rw [if_pos h1, if_pos h1]
 rw [if_neg h1, if_neg h1]
 by_cases h2 : c = 92
 ·rw [if_pos h2, if_pos h2]
  cases he : escP r with
  | none => rfl
  | some x =>
   have := escP_2 he
   simp only [Option.bind_some]
   rw [txtP_fuel r.length ((c :: r).drop x.2).length ((c :: r).drop x.2) (by simp; omega) (Nat.le_refl _)]
 rw [if_neg h2, if_neg h2]
 split
 ·rfl
 ·rw [txtP_fuel r.length ((c :: r).drop (decodeL (c :: r)).2).length ((c :: r).drop (decodeL (c :: r)).2) (by simp; omega) (Nat.le_refl _)]
theorem txt_ind {p : By → Prop} (h : ∀ s, (∀ k, 1 ≤ k → s ≠ [] → p (s.drop k)) → p s) (s : By) : p s := by
 have : ∀ n (s : By), s.length ≤ n → p s := by
  intro n
  induction n with
  | zero => intro s hs; exact h s fun k _ hne => absurd (List.length_eq_zero_iff.1 (by omega)) hne
  | succ n ih => intro s hs; exact h s fun k hk hne => ih _ (by have := List.length_pos_iff.2 hne; simp; omega)
 exact this s.length s (Nat.le_refl _)
theorem quoL_app (a b : By) : quoL (a ++ b) = quoL a ++ quoL b := by unfold quoL; simp
theorem txt_ok (s : By) : ∀ {t r : By}, txt s = some (t, r) → OkT t ∧ r <:+ s ∧ (quoL t).length + 1 + r.length ≤ s.length := by
 refine txt_ind (p := fun s => ∀ {t r : By}, txt s = some (t, r) → OkT t ∧ r <:+ s ∧ (quoL t).length + 1 + r.length ≤ s.length) ?_ s
 intro s ih t r h
 cases s with
 | nil => rw [txt_nil] at h; cases h
 | cons c s =>
  rw [txt_cons] at h
  by_cases h1 : c = 34
  ·rw [if_pos h1] at h
   cases h
   exact ⟨.nil, List.suffix_cons _ _, by simp [quoL]; omega⟩
  rw [if_neg h1] at h
  by_cases h2 : c = 92
  ·rw [if_pos h2] at h
   obtain ⟨x, he, h⟩ := Option.bind_eq_some_iff.1 h
   obtain ⟨y, hy, h⟩ := Option.map_eq_some_iff.1 h
   obtain ⟨y1, y2⟩ := y
   cases h
   obtain ⟨q1, q2, q3, q4⟩ := escP_ok (c := x.1) (k := x.2) he
   obtain ⟨i1, i2, i3⟩ := ih x.2 (by omega) (by simp) hy
   refine ⟨.cons _ _ q1 i1, i2.trans (List.drop_suffix _ _), ?_⟩
   rw [quoL_app]
   simp at i3 ⊢
   omega
  rw [if_neg h2] at h
  split at h
  ·cases h
  ·rename_i hb
   obtain ⟨y, hy, h⟩ := Option.map_eq_some_iff.1 h
   obtain ⟨y1, y2⟩ := y
   cases h
   have hp := decodeL_pos (c :: s)
   have hl := decodeL_le (c :: s) (by simp)
   obtain ⟨i1, i2, i3⟩ := ih (decodeL (c :: s)).2 hp (by simp) hy
   have hk := rune_ok (c :: s)
   rw [take_encN (c :: s) (by simp) (fun hh => hb (.inr hh))]
   refine ⟨.cons _ _ hk i1, i2.trans (List.drop_suffix _ _), ?_⟩
   have e : (quoL (encN (decodeL (c :: s)).1)).length ≤ (decodeL (c :: s)).2 := by
    have e2 := congrArg List.length (take_encN (c :: s) (by simp) (fun hh => hb (.inr hh)))
    rw [List.length_take, Nat.min_eq_left hl] at e2
    by_cases hc : (decodeL (c :: s)).1 < 128
    ·rw [quoL_one _ hc]
     have e3 : encN (decodeL (c :: s)).1 = [UInt8.ofNat (decodeL (c :: s)).1] := by unfold encN; rw [if_pos hc]
     have e4 : (decodeL (c :: s)).2 = 1 := by rw [e2, e3]; rfl
     have e5 := take_encN (c :: s) (by simp) (fun hh => hb (.inr hh))
     rw [e4, e3] at e5
     simp at e5
     have h32 : ¬ c.toNat < 32 := by
      intro hh
      apply hb
      left
      have := congrArg UInt8.toNat e5
      simp at this
      omega
     rw [← e5, e4]
     unfold quoB
     have n8 : c ≠ 8 := by rintro rfl; exact h32 (by decide)
     have n9 : c ≠ 9 := by rintro rfl; exact h32 (by decide)
     have n10 : c ≠ 10 := by rintro rfl; exact h32 (by decide)
     have n12 : c ≠ 12 := by rintro rfl; exact h32 (by decide)
     have n13 : c ≠ 13 := by rintro rfl; exact h32 (by decide)
     rw [if_neg (fun hh => hh.elim h1 h2), if_neg n8, if_neg n9, if_neg n10, if_neg n12, if_neg n13, if_neg h32]
     exact Nat.le_refl _
    ·rw [quoL_big _ hc hk.1]; omega
   rw [quoL_app]
   simp at i3 ⊢
   omega
end Go.Vm
/- JSON, plainly: numbers. What is printed is read; what is read is of 15 digits, and is printed in no more bytes. No condition. -/
namespace Go.Vm
open Go.Lib (decodeL decDigits itoa nDigits)
set_option linter.unusedVariables false
set_option linter.unusedSimpArgs false
theorem digs_prefix (s : By) : digs s = s.take (digs s).length := by
 unfold digs
 cases s with
 | nil => rfl
 | cons c r =>
  simp only
  split
  ·rename_i h; subst h; rfl
  ·have := List.takeWhile_prefix isDig (l := c :: r)
   rw [List.length_take]
   have e : List.takeWhile isDig (c :: r) = (c :: r).take (List.takeWhile isDig (c :: r)).length := (List.prefix_iff_eq_take.1 this)
   conv => lhs; rw [e]
   rw [List.take_take]
theorem digs_len (s : By) : (digs s).length ≤ 15 ∧ (digs s).length ≤ s.length := by
 refine ⟨?_, ?_⟩
 ·unfold digs
  cases s with
  | nil => simp
  | cons c r =>
   simp only
   split
   ·simp
   ·simp; omega
 ·have := congrArg List.length (digs_prefix s)
  simp only [List.length_take] at this
  omega
theorem digs_dig (s : By) : ∀ c ∈ digs s, isDig c = true := by
 unfold digs
 cases s with
 | nil => simp
 | cons c r =>
  simp only
  split
  ·intro x hx; simp at hx; subst hx; rfl
  ·intro x hx
   have := List.all_takeWhile (p := isDig) (l := c :: r)
   rw [List.all_eq_true] at this
   exact this x (List.mem_of_mem_take hx)
theorem valD_snoc (l : By) (c : UInt8) : valD (l ++ [c]) = valD l * 10 + (c.toNat - 48) := by unfold valD; rw [List.foldl_append]; rfl
theorem valD_lt (l : By) (h : ∀ c ∈ l, isDig c = true) : valD l < 10 ^ l.length := by
 have main : ∀ (l : By) (n k : Nat), (∀ c ∈ l, isDig c = true) → n < 10 ^ k → l.foldl (fun n c => n * 10 + (c.toNat - 48)) n < 10 ^ (k + l.length) := by
  intro l
  induction l with
  | nil => intro n k _ h; simpa using h
  | cons c l ih =>
   intro n k hd h
   have hc := hd c (List.mem_cons_self ..)
   simp [isDig] at hc
   have := ih (n * 10 + (c.toNat - 48)) (k + 1) (fun x hx => hd x (List.mem_cons_of_mem _ hx)) (by rw [Nat.pow_succ]; omega)
   rw [List.length_cons, List.foldl_cons, show k + (l.length + 1) = k + 1 + l.length by omega]
   exact this
 have := main l 0 0 h (by decide)
 rw [Nat.zero_add] at this
 exact this
theorem nDigits_le : ∀ (k u : Nat), 1 ≤ k → u < 10 ^ k → nDigits u ≤ k
 | 0, u, h, _ => by omega
 | 1, u, _, h => by rw [Go.Lib.nDigits_small (by simpa using h)]; exact Nat.le_refl _
 | k + 2, u, _, h => by
  by_cases hu : u < 10
  ·rw [Go.Lib.nDigits_small hu]; omega
  ·rw [Go.Lib.nDigits_big hu]
   have := nDigits_le (k + 1) (u / 10) (by omega) (by rw [Nat.pow_succ] at h; omega)
   omega
theorem itoa_len (u k : Nat) (h : 1 ≤ k) (hu : u < 10 ^ k) : (itoa (u : Int)).length ≤ k ∧ (itoa (-(u : Int))).length ≤ k + 1 := by
 have h1 := nDigits_le k u h hu
 unfold itoa
 constructor
 ·rw [if_neg (by omega), Int.toNat_natCast, Go.Lib.decDigits_length]
  exact h1
 ·split
  ·rw [List.length_cons, Go.Lib.decDigits_length]
   have : (-(u : Int)).natAbs = u := by omega
   rw [this]; omega
  ·rename_i hn
   have : (-(u : Int)).toNat = 0 := by omega
   rw [this, Go.Lib.decDigits_length]
   rw [Go.Lib.nDigits_small (by decide)]
   omega
def okN (n : Int) : Prop := -1000000000000000 < n ∧ n < 1000000000000000
theorem p15 : 10 ^ 15 = 1000000000000000 := by decide
theorem digs_val (s : By) : valD (digs s) < 1000000000000000 := by
 have h1 := valD_lt (digs s) (digs_dig s)
 have h2 : 10 ^ (digs s).length ≤ 10 ^ 15 := Nat.pow_le_pow_right (by decide) (digs_len s).1
 rw [p15] at h2
 omega
theorem digs_itoa (s : By) (h : digs s ≠ []) : (itoa (valD (digs s) : Int)).length ≤ (digs s).length ∧ (itoa (-(valD (digs s) : Int))).length ≤ (digs s).length + 1 :=
 itoa_len _ _ (by have := List.length_pos_iff.2 h; omega) (valD_lt _ (digs_dig s))
theorem num_ok {s r : By} {n : Int} (h : numP s = some (n, r)) : okN n ∧ r <:+ s ∧ (itoa n).length + r.length ≤ s.length ∧ r.length < s.length := by
 unfold numP at h
 split at h
 ·cases h
 ·rename_i c t
  split at h
  ·split at h
   ·cases h
   ·rename_i hne
    cases h
    have h1 := digs_val t
    have h2 := digs_itoa t hne
    have h3 := digs_len t
    exact ⟨⟨by omega, by omega⟩, (List.drop_suffix _ _).trans (List.suffix_cons _ _), by simp; omega, by simp; omega⟩
  ·split at h
   ·cases h
   ·rename_i hne
    cases h
    have h1 := digs_val (c :: t)
    have h2 := digs_itoa (c :: t) hne
    have h3 := digs_len (c :: t)
    have h4 := List.length_pos_iff.2 hne
    simp only [List.length_cons] at h3
    exact ⟨⟨by omega, by omega⟩, List.drop_suffix _ _, by simp; omega, by simp; omega⟩
theorem dec_facts (u : Nat) : (∀ c ∈ decDigits u, isDig c = true) ∧ valD (decDigits u) = u ∧ (u ≠ 0 → ∀ c q, decDigits u = c :: q → c ≠ 48) := by
 induction u using Nat.strongRecOn with
 | _ u ih =>
  rw [decDigits]
  split
  ·rename_i h
   have e : (UInt8.ofNat (48 + u)).toNat = 48 + u := by simp; omega
   refine ⟨?_, ?_, ?_⟩
   ·intro c hc; simp at hc; subst hc; simp [isDig]; omega
   ·simp [valD]; omega
   ·intro hu c q hq
    injection hq with hq _
    rw [← hq]
    intro hh
    have := congrArg UInt8.toNat hh
    rw [e] at this
    have : (48 : UInt8).toNat = 48 := rfl
    omega
  ·rename_i h
   obtain ⟨i1, i2, i3⟩ := ih (u / 10) (by omega)
   have e : (UInt8.ofNat (48 + u % 10)).toNat = 48 + u % 10 := by simp; omega
   refine ⟨?_, ?_, ?_⟩
   ·intro c hc
    rcases List.mem_append.1 hc with hc | hc
    ·exact i1 c hc
    ·simp at hc; subst hc; simp [isDig]; omega
   ·rw [valD_snoc, i2, e]; omega
   ·intro hu c q hq
    have hl := Go.Lib.decDigits_length (u / 10)
    have := Go.Lib.nDigits_pos (u / 10)
    cases hd : decDigits (u / 10) with
    | nil => rw [hd] at hl; simp at hl; omega
    | cons x l =>
     rw [hd] at hq
     injection hq with hq _
     rw [← hq]
     exact i3 (by omega) x l hd
theorem dec_head (u : Nat) : ∃ c q, decDigits u = c :: q ∧ isDig c = true := by
 obtain ⟨f1, _⟩ := dec_facts u
 have hp : 1 ≤ (decDigits u).length := by rw [Go.Lib.decDigits_length]; exact Go.Lib.nDigits_pos u
 cases hd : decDigits u with
 | nil => rw [hd] at hp; simp at hp
 | cons c q => exact ⟨c, q, rfl, f1 c (by rw [hd]; exact List.mem_cons_self ..)⟩
theorem itoa_head (n : Int) : ∃ c q, itoa n = c :: q ∧ (c = 45 ∨ isDig c = true) := by
 unfold itoa
 split
 ·exact ⟨_, _, rfl, .inl rfl⟩
 ·obtain ⟨c, q, hc, hd⟩ := dec_head n.toNat
  exact ⟨c, q, hc, .inr hd⟩
end Go.Vm
/- Cutting at a byte, joining again, numbers and their texts: plainly. No condition. -/
namespace Go.Vm
open Go.Lib (decDigits itoa)
set_option linter.unusedVariables false
set_option linter.unusedSimpArgs false
/-! ### cut at each such byte -/
def splC (d : UInt8) : By → List By
 | [] => [[]]
 | c :: s => if c = d then [] :: splC d s else match splC d s with
  | p :: ps => (c :: p) :: ps
  | [] => [[c]]
theorem splC_nil (d : UInt8) : splC d [] = [[]] := rfl
theorem splC_s (d : UInt8) (s : By) : splC d (d :: s) = [] :: splC d s := by rw [splC, if_pos rfl]
theorem splC_c {d c : UInt8} {s p : By} {ps : List By} (h : c ≠ d) (hs : splC d s = p :: ps) : splC d (c :: s) = (c :: p) :: ps := by rw [splC, if_neg h, hs]
theorem splC_ne (d : UInt8) : ∀ s : By, splC d s ≠ []
 | [] => by simp [splC]
 | c :: s => by
  rw [splC]
  split
  ·simp
  ·split <;> simp
theorem indexD (d : UInt8) (l : By) : Lib.index (d :: l) [d] = ((0 : Nat) : Int) := by rw [Lib.index]; simp [List.isPrefixOf]
theorem indexD_ne {d b : UInt8} {l : By} {j : Nat} (h : b ≠ d) (hj : Lib.index l [d] = (j : Int)) : Lib.index (b :: l) [d] = ((j + 1 : Nat) : Int) := by
 have hp : ([d] : By).isPrefixOf (b :: l) = false := by simp [List.isPrefixOf, Ne.symm h]
 rw [Lib.index, hp, hj]
 have : ¬ ((j : Int) == -1) = true := fun e => by have := beq_iff_eq.1 e; omega
 simp [this]
theorem split_splC (d : UInt8) : ∀ s : By, Lib.split s [d] = splC d s
 | [] => by simp [Lib.split, Lib.count_miss, Lib.index, Lib.splitK, splC]
 | b :: l => by
  have ih := split_splC d l
  unfold Lib.split at ih ⊢
  by_cases hb : b = d
  ·subst hb
   rw [Lib.count_cons_eq, splC_s, Nat.add_comm, Lib.splitK, indexD]
   rw [if_neg (by simp)]
   simpa using ih
  ·rw [Lib.count_cons_ne b d l hb]
   by_cases hm : Lib.index l [d] = -1
   ·rw [Lib.count_miss hm] at ih ⊢
    rw [Lib.splitK] at ih ⊢
    exact (splC_c hb ih.symm).symm
   ·have hge := Lib.index_ge l [d]
    obtain ⟨j, hj⟩ : ∃ j : Nat, Lib.index l [d] = j := ⟨(Lib.index l [d]).toNat, by omega⟩
    have hc := Lib.count_hit (s := l) (sub := [d]) (by simp) hj
    generalize Lib.count (l.drop (j + [d].length)) [d] = k at hc
    rw [hc, Nat.add_comm, Lib.splitK, hj, if_neg (fun e => by have := beq_iff_eq.1 e; omega)] at ih
    rw [hc, Nat.add_comm, Lib.splitK, indexD_ne hb hj, if_neg (fun e => by have := beq_iff_eq.1 e; omega)]
    rw [splC_c hb ih.symm]
    simp
theorem splC_len (d : UInt8) : ∀ s : By, (splC d s).length ≤ s.length + 1 ∧ ∀ p ∈ splC d s, p.length ≤ s.length
 | [] => ⟨Nat.le_refl _, fun p hp => by
  rw [splC_nil, List.mem_singleton] at hp
  subst hp
  exact Nat.le_refl _⟩
 | c :: s => by
  obtain ⟨h1, h2⟩ := splC_len d s
  by_cases hc : c = d
  ·subst hc
   rw [splC_s]
   refine ⟨by rw [List.length_cons, List.length_cons]; omega, fun p hp => ?_⟩
   rcases List.mem_cons.1 hp with rfl | hp
   ·exact Nat.zero_le _
   ·have := h2 p hp
    rw [List.length_cons]; omega
  ·cases hx : splC d s with
   | nil => exact absurd hx (splC_ne d s)
   | cons q qs =>
    rw [splC_c hc hx]
    rw [hx] at h1 h2
    rw [List.length_cons] at h1
    refine ⟨by rw [List.length_cons, List.length_cons]; omega, fun p hp => ?_⟩
    rcases List.mem_cons.1 hp with rfl | hp
    ·have := h2 q (List.mem_cons_self ..)
     rw [List.length_cons, List.length_cons]; omega
    ·have := h2 p (List.mem_cons_of_mem _ hp)
     rw [List.length_cons]; omega
def joinD (d : UInt8) : List By → By
 | [] => []
 | [p] => p
 | p :: q :: r => p ++ d :: joinD d (q :: r)
theorem joinD_cons (d : UInt8) (p : By) {r : List By} (h : r ≠ []) : joinD d (p :: r) = p ++ d :: joinD d r := by
 cases r with
 | nil => exact absurd rfl h
 | cons q r => rfl
theorem join_splC (d : UInt8) : ∀ s : By, joinD d (splC d s) = s
 | [] => rfl
 | c :: s => by
  have ih := join_splC d s
  by_cases hc : c = d
  ·subst hc
   rw [splC_s, joinD_cons _ _ (splC_ne c s), ih]
   rfl
  ·cases hx : splC d s with
   | nil => exact absurd hx (splC_ne d s)
   | cons q qs =>
    rw [splC_c hc hx]
    rw [hx] at ih
    cases qs with
    | nil => show c :: q = _; rw [← ih]; rfl
    | cons r rs =>
     show c :: (q ++ d :: joinD d (r :: rs)) = _
     rw [← ih]
     rfl
theorem splC_app {d : UInt8} {p : By} (hp : ∀ b ∈ p, b ≠ d) (s : By) : splC d (p ++ d :: s) = p :: splC d s := by
 induction p with
 | nil => exact splC_s d s
 | cons c p ih => exact splC_c (hp c (List.mem_cons_self ..)) (ih fun b hb => hp b (List.mem_cons_of_mem _ hb))
theorem splC_none {d : UInt8} {p : By} (hp : ∀ b ∈ p, b ≠ d) : splC d p = [p] := by
 induction p with
 | nil => rfl
 | cons c p ih => exact splC_c (hp c (List.mem_cons_self ..)) (ih fun b hb => hp b (List.mem_cons_of_mem _ hb))
theorem splC_join {d : UInt8} : ∀ l : List By, l ≠ [] → (∀ p ∈ l, ∀ b ∈ p, b ≠ d) → splC d (joinD d l) = l
 | [], h, _ => absurd rfl h
 | [p], _, h => splC_none (h p (List.mem_cons_self ..))
 | p :: q :: r, _, h => by
  rw [joinD_cons d p (by simp), splC_app (h p (List.mem_cons_self ..)), splC_join (q :: r) (by simp) fun x hx => h x (List.mem_cons_of_mem _ hx)]
/-! ### cut once -/
theorem cut_hit {d : UInt8} {p : By} (hp : ∀ b ∈ p, b ≠ d) (s : By) : Lib.cut (p ++ d :: s) [d] = (p, s, true) := by
 have hi : Lib.index (p ++ d :: s) [d] = (p.length : Int) := by
  induction p with
  | nil => exact indexD d s
  | cons c p ih => exact indexD_ne (hp c (List.mem_cons_self ..)) (ih fun b hb => hp b (List.mem_cons_of_mem _ hb))
 unfold Lib.cut
 rw [hi, if_pos (by omega)]
 simp
theorem index_miss {d : UInt8} {p : By} (hp : ∀ b ∈ p, b ≠ d) : Lib.index p [d] = -1 := by
 refine Lib.index_none fun j hj => ?_
 cases h : Lib.occAt p [d] j with
 | false => rfl
 | true =>
  have := Lib.occAt_head (c := d) (t := []) rfl h
  exact absurd rfl (hp d (List.mem_of_getElem? this))
theorem cut_miss {d : UInt8} {p : By} (hp : ∀ b ∈ p, b ≠ d) : Lib.cut p [d] = (p, [], false) := by
 unfold Lib.cut
 rw [index_miss hp, if_neg (by decide)]
theorem cut_cases (d : UInt8) (s : By) : (∃ p q, s = p ++ d :: q ∧ (∀ b ∈ p, b ≠ d) ∧ Lib.cut s [d] = (p, q, true)) ∨ ((∀ b ∈ s, b ≠ d) ∧ Lib.cut s [d] = (s, [], false)) := by
 by_cases h : d ∈ s
 ·obtain ⟨p, q, rfl, hp⟩ := List.append_of_mem h |> fun ⟨a, b, e⟩ => first_of s d h
  exact .inl ⟨p, q, rfl, hp, cut_hit hp q⟩
 ·have hp : ∀ b ∈ s, b ≠ d := fun b hb e => h (e ▸ hb)
  exact .inr ⟨hp, cut_miss hp⟩
where
 first_of : ∀ (s : By) (d : UInt8), d ∈ s → ∃ p q, s = p ++ d :: q ∧ ∀ b ∈ p, b ≠ d
  | c :: s, d, h => by
   by_cases hc : c = d
   ·subst hc
    exact ⟨[], s, rfl, fun b hb => by cases hb⟩
   ·obtain ⟨p, q, h1, h2⟩ := first_of s d (by
     rcases List.mem_cons.1 h with rfl | h
     ·exact absurd rfl hc
     ·exact h)
    refine ⟨c :: p, q, by rw [h1]; rfl, fun b hb => ?_⟩
    rcases List.mem_cons.1 hb with rfl | hb
    ·exact hc
    ·exact h2 b hb
/-! ### numbers -/
theorem itoa_nat (n : Nat) : itoa (n : Int) = decDigits n := by unfold itoa; rw [if_neg (by omega), Int.toNat_natCast]
theorem itoa_dig (n : Nat) : ∀ c ∈ itoa (n : Int), isDig c = true := by rw [itoa_nat]; exact (dec_facts n).1
theorem itoa_ne (n : Nat) : itoa (n : Int) ≠ [] := by
 rw [itoa_nat]
 obtain ⟨c, q, hc, _⟩ := dec_head n
 rw [hc]; simp
end Go.Vm
/- Sorts of signs, plainly. No condition. -/
namespace Go.Vm
set_option linter.unusedVariables false
set_option linter.unusedSimpArgs false
theorem among_eq (F : Nat) (r a b c : Int) : M_sign_among F (r, a, b, c) = some (decide (a ≤ r ∧ r ≤ b ∧ r ≠ c)) := by
 unfold M_sign_among
 simp only [bind_ite, Option.bind_some, decide_eq_true_eq]
 repeat' split
 all_goals (rw [Option.some.injEq, Bool.eq_iff_iff]; simp only [Bool.not_eq_true', decide_eq_true_eq, decide_eq_false_iff_not, Bool.false_eq_true, true_iff, false_iff]; first | omega | (simp_all; done))
theorem valid_eq (F : Nat) (r : Int) : M_unicode_utf8_ValidRune F r = some (decide (0 ≤ r ∧ (r < 55296 ∨ 57343 < r) ∧ r ≤ 1114111)) := by
 unfold M_unicode_utf8_ValidRune
 simp only [bind_ite, Option.bind_some, decide_eq_true_eq, Bool.false_eq_true, if_false]
 repeat' split
 all_goals (rw [Option.some.injEq, Bool.eq_iff_iff]; simp only [Bool.not_eq_true', decide_eq_true_eq, decide_eq_false_iff_not, Bool.false_eq_true, true_iff, false_iff]; omega)
theorem control_eq (F : Nat) (r : Int) : M_sign_control F r = some (decide (r < 32 ∨ (127 ≤ r ∧ r ≤ 159) ∨ r = 65533 ∨ (55296 ≤ r ∧ r ≤ 57343) ∨ 1114111 < r)) := by
 unfold M_sign_control
 simp only [among_eq, valid_eq, bind_ite, Option.bind_some, decide_eq_true_eq, decide_eq_false_iff_not, Bool.true_eq_false, if_false]
 repeat' split
 all_goals (rw [Option.some.injEq, Bool.eq_iff_iff]; simp only [Bool.not_eq_true', decide_eq_true_eq, decide_eq_false_iff_not, Bool.false_eq_true, true_iff, false_iff]; omega)
theorem blank_eq (F : Nat) (r : Int) : M_sign_blank F r = some (decide (r = 32 ∨ r = 160 ∨ (8192 ≤ r ∧ r ≤ 8202) ∨ r = 12288)) := by
 unfold M_sign_blank
 simp only [among_eq, valid_eq, bind_ite, Option.bind_some, decide_eq_true_eq, decide_eq_false_iff_not, Bool.true_eq_false, if_false]
 repeat' split
 all_goals (rw [Option.some.injEq, Bool.eq_iff_iff]; simp only [Bool.not_eq_true', decide_eq_true_eq, decide_eq_false_iff_not, Bool.false_eq_true, true_iff, false_iff]; omega)
theorem letter_eq (F : Nat) (r : Int) : M_sign_letter F r = some (decide ((65 ≤ r ∧ r ≤ 90) ∨ (97 ≤ r ∧ r ≤ 122) ∨ (192 ≤ r ∧ r ≤ 591 ∧ r ≠ 215 ∧ r ≠ 247) ∨ (913 ≤ r ∧ r ≤ 969 ∧ r ≠ 930))) := by
 unfold M_sign_letter
 simp only [among_eq, some_ite, prod_ite, ite_self, Option.bind_some, Bool.if_true_right, Bool.if_true_left, Bool.if_false_left, Bool.if_false_right, Option.some.injEq]
 rw [Bool.eq_iff_iff]
 simp
 omega
def sortI (n : Int) : Int :=
 if n < 32 ∨ (127 ≤ n ∧ n ≤ 159) ∨ n = 65533 ∨ (55296 ≤ n ∧ n ≤ 57343) ∨ 1114111 < n then 0
 else if n = 32 ∨ n = 160 ∨ (8192 ≤ n ∧ n ≤ 8202) ∨ n = 12288 then 1
 else if 48 ≤ n ∧ n ≤ 57 then 2
 else if (65 ≤ n ∧ n ≤ 90) ∨ (97 ≤ n ∧ n ≤ 122) ∨ (192 ≤ n ∧ n ≤ 591 ∧ n ≠ 215 ∧ n ≠ 247) ∨ (913 ≤ n ∧ n ≤ 969 ∧ n ≠ 930) then 3 else 4
theorem sort_eq (F : Nat) (r : Int) : M_sign_Sort F r = some (sortI r) := by
 unfold M_sign_Sort sortI
 simp only [control_eq, blank_eq, among_eq, letter_eq, Option.bind_some, decide_eq_true_eq]
 repeat' split
 all_goals first | rfl | omega
theorem refSort_eq (F : Nat) (n : Int) : M_conciergeref04_Sort F n = some (sortI n) := by
 unfold M_conciergeref04_Sort sortI
 simp only [some_ite, prod_ite, ite_self, Option.bind_some, Option.some.injEq]
 simp only [Bool.if_true_right, Bool.if_true_left, Bool.if_false_left, Bool.if_false_right, Bool.and_eq_true, Bool.or_eq_true, Bool.not_eq_true', decide_eq_true_eq, decide_eq_false_iff_not]
 simp
 repeat' split
 all_goals first | rfl | omega
end Go.Vm
/- Phrases, plainly: names, gaps, pieces sign by sign and byte by byte. No condition. -/
namespace Go.Vm
open Go.Lib (decodeL decodeN decodeL_N decode_N decodeN_shape decodeL_le)
set_option linter.unusedVariables false
set_option linter.unusedSimpArgs false
def isNm (c : UInt8) : Bool := (decide (97 ≤ c.toNat) && decide (c.toNat ≤ 122)) || (decide (48 ≤ c.toNat) && decide (c.toNat ≤ 57))
def nmP (s : By) : Bool := s.all isNm && decide (1 ≤ s.length) && decide (s.length ≤ 12)
def gapN (s : By) : Nat := match s with
 | _ :: b :: r => if b = 37 ∨ b = 98 ∨ b = 107 ∨ b = 109 ∨ b = 112 then 2 else if b = 123 then
   (if (r.takeWhile (fun c => c != 125)).length < r.length ∧ nmP (r.takeWhile (fun c => c != 125)) = true then (r.takeWhile (fun c => c != 125)).length + 3 else 0) else 0
 | _ => 0
theorem gapN_le (s : By) : gapN s ≤ s.length := by
 unfold gapN
 split
 ·rename_i a b r
  split
  ·simp
  ·split
   ·split
    ·rename_i h
     simp only [List.length_cons]
     omega
    ·omega
   ·omega
 ·omega
theorem gapN_one (s : By) : gapN s ≠ 1 := by
 unfold gapN
 split
 ·split
  ·decide
  ·split
   ·split <;> omega
   ·decide
 ·decide
def plnB (b : UInt8) : Prop := 33 ≤ b.toNat ∧ b.toNat ≤ 126
theorem take_more (a : By) (x : UInt8) (t : By) : (a ++ x :: t).take (a.length + 1) = a ++ [x] := by
 rw [List.take_append, List.take_of_length_le (by omega), show a.length + 1 - a.length = 1 by omega]
 rfl
theorem gapN_bytes (r : By) : ∀ b ∈ (37 :: r : By).take (gapN (37 :: r)), plnB b := by
 unfold gapN
 split
 ·rename_i a c q heq
  injection heq with h1 h2
  subst h1; subst h2
  split
  ·rename_i hc
   intro b hb
   simp only [List.take_succ_cons, List.take_zero] at hb
   rcases List.mem_cons.1 hb with rfl | hb
   ·exact ⟨by decide, by decide⟩
   ·rw [List.mem_singleton] at hb
    subst hb
    rcases hc with rfl | rfl | rfl | rfl | rfl <;> exact ⟨by decide, by decide⟩
  ·split
   ·rename_i hb123
    subst hb123
    split
    ·rename_i hk
     obtain ⟨hk, hnm⟩ := hk
     intro b hb
     have hdec : q = q.takeWhile (fun c => c != 125) ++ q.dropWhile (fun c => c != 125) := (List.takeWhile_append_dropWhile ..).symm
     have hne : q.dropWhile (fun c => c != 125) ≠ [] := by
      intro hh
      rw [hh, List.append_nil] at hdec
      have := congrArg List.length hdec
      omega
     obtain ⟨x, t, hx⟩ := List.exists_cons_of_ne_nil hne
     have hx125 : x = 125 := by
      have := List.head_dropWhile_not (fun c => c != 125) hne
      simp only [hx, List.head_cons] at this
      simpa using this
     have htk : (37 :: 123 :: q : By).take ((q.takeWhile (fun c => c != 125)).length + 3) = 37 :: 123 :: (q.takeWhile (fun c => c != 125) ++ [x]) := by
      rw [show (q.takeWhile (fun c => c != 125)).length + 3 = ((q.takeWhile (fun c => c != 125)).length + 1) + 1 + 1 by omega, List.take_succ_cons, List.take_succ_cons]
      congr 2
      exact (congrArg (List.take _) (hdec.trans (by rw [hx]))).trans (take_more _ _ _)
     rw [htk] at hb
     unfold nmP at hnm
     simp only [Bool.and_eq_true] at hnm
     rcases List.mem_cons.1 hb with rfl | hb
     ·exact ⟨by decide, by decide⟩
     rcases List.mem_cons.1 hb with rfl | hb
     ·exact ⟨by decide, by decide⟩
     rcases List.mem_append.1 hb with hb | hb
     ·have := List.all_eq_true.1 hnm.1.1 b hb
      simp [isNm] at this
      unfold plnB
      omega
     ·rw [List.mem_singleton] at hb
      subst hb
      subst hx125
      exact ⟨by decide, by decide⟩
    ·intro b hb; rw [List.take_zero] at hb; cases hb
   ·intro b hb; rw [List.take_zero] at hb; cases hb
 ·intro b hb; rw [List.take_zero] at hb; cases hb
end Go.Vm
