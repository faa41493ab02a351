/- JSON, plainly: which value a text is, and what a value's form is. No condition. -/
import Derived.Test.YtocgjbdimjlfhaaGreatDoorPu1
import Derived.Lib.ItoaNum
namespace Go.Vm
open Go.Lib (decodeL decodeN decodeL_N decode_N decodeN_shape decodeL_le)
set_option linter.unusedVariables false
set_option linter.unusedSimpArgs false
def isBl (c : UInt8) : Bool := c == 32 || c == 9 || c == 10 || c == 13
def skp (s : By) : By := s.dropWhile isBl
def hexD (c : UInt8) : Option Nat := if 48 ≤ c.toNat ∧ c.toNat ≤ 57 then some (c.toNat - 48) else if 97 ≤ c.toNat ∧ c.toNat ≤ 102 then some (c.toNat - 87) else if 65 ≤ c.toNat ∧ c.toNat ≤ 70 then some (c.toNat - 55) else none
def hexN (s : By) : Option Nat := match s with
  | a :: b :: c :: d :: _ => (hexD a).bind fun a => (hexD b).bind fun b => (hexD c).bind fun c => (hexD d).bind fun d => some (((a * 16 + b) * 16 + c) * 16 + d)
  | _ => none
def pairN (n m : Nat) : Nat := 65536 + (n - 55296) * 1024 + (m - 56320)
def lowP (n : Nat) (r : By) : Option (Nat × Nat) := match r with
  | 92 :: 117 :: q => (hexN q).bind fun m => if 56320 ≤ m ∧ m ≤ 57343 then some (pairN n m, 12) else none
  | _ => none
def uniP (r : By) : Option (Nat × Nat) :=
  (hexN r).bind fun n => if n < 55296 ∨ 57343 < n then some (n, 6) else if 56320 ≤ n then none else lowP n (r.drop 4)
def escP (s : By) : Option (Nat × Nat) := match s with
  | [] => none
  | c :: r => if c = 34 ∨ c = 92 ∨ c = 47 then some (c.toNat, 2) else if c = 98 then some (8, 2) else if c = 102 then some (12, 2) else if c = 110 then some (10, 2) else if c = 114 then some (13, 2) else if c = 116 then some (9, 2) else if c = 117 then uniP r else none
def txtP : Nat → By → Option (By × By)
  | 0, _ => none
  | n + 1, s => match s with
    | [] => none
    | c :: r => if c = 34 then some ([], r) else if c = 92 then (escP r).bind fun x => (txtP n (s.drop x.2)).map fun y => (encN x.1 ++ y.1, y.2)
      else if (decodeL s).1 < 32 ∨ ((decodeL s).1 = 65533 ∧ (decodeL s).2 = 1) then none else (txtP n (s.drop (decodeL s).2)).map fun y => (s.take (decodeL s).2 ++ y.1, y.2)
def txt (s : By) : Option (By × By) := txtP s.length s
def isDig (c : UInt8) : Bool := decide (48 ≤ c.toNat) && decide (c.toNat ≤ 57)
def digs (s : By) : By := match s with
  | [] => []
  | c :: _ => if c = 48 then [48] else (s.takeWhile isDig).take 15
def valD (ds : By) : Nat := ds.foldl (fun n c => n * 10 + (c.toNat - 48)) 0
def numP (s : By) : Option (Int × By) := match s with
  | [] => none
  | c :: r => if c = 45 then (if digs r = [] then none else some (-(valD (digs r) : Int), r.drop (digs r).length))
    else if digs s = [] then none else some ((valD (digs s) : Int), s.drop (digs s).length)
def lstP (V : By → Except Nat (JV × By)) : Nat → By → Except Nat (List JV × By)
  | 0, _ => .error 3
  | n + 1, s => match V s with
    | .error e => .error e
    | .ok (v, r) => match skp r with
      | 44 :: r' => match lstP V n r' with
        | .error e => .error e
        | .ok (l, r'') => .ok (v :: l, r'')
      | 93 :: r' => .ok ([v], r')
      | _ => .error 3
def objP (V : By → Except Nat (JV × By)) : Nat → List Me → By → Except Nat (List Me × By)
  | 0, _, _ => .error 3
  | n + 1, acc, s => match skp s with
    | 34 :: r => match txt r with
      | none => .error 3
      | some (name, r) => if acc.any (fun m => m.1 == name) then .error 7 else match skp r with
        | 58 :: r => match V r with
          | .error e => .error e
          | .ok (v, r) => match skp r with
            | 44 :: r => objP V n (acc ++ [(name, v, ())]) r
            | 125 :: r => .ok (acc ++ [(name, v, ())], r)
            | _ => .error 3
        | _ => .error 3
    | _ => .error 3
def valB (V : Option (By → Except Nat (JV × By))) (s : By) : Except Nat (JV × By) :=
  match skp s with
  | [] => .error 3
  | c :: r =>
    if c = 123 then match V with
      | none => .error 10
      | some V => match skp r with
        | 125 :: r => .ok (.obj [], r)
        | r => match objP V (r.length + 1) [] r with
          | .error e => .error e
          | .ok (l, r) => .ok (.obj (sortM l), r)
    else if c = 91 then match V with
      | none => .error 10
      | some V => match skp r with
        | 93 :: r => .ok (.list [], r)
        | r => match lstP V (r.length + 1) r with
          | .error e => .error e
          | .ok (l, r) => .ok (.list l, r)
    else if c = 34 then match txt r with
      | none => .error 3
      | some (t, r) => .ok (.str t, r)
    else if (c :: r).take 4 = [110, 117, 108, 108] then .ok (.null, r.drop 3)
    else if (c :: r).take 4 = [116, 114, 117, 101] then .ok (.bool true, r.drop 3)
    else if (c :: r).take 5 = [102, 97, 108, 115, 101] then .ok (.bool false, r.drop 4)
    else match numP (c :: r) with
      | none => .error 3
      | some (n, r) => .ok (.int n, r)
def valP : Nat → By → Except Nat (JV × By)
  | 0, s => valB none s
  | d + 1, s => valB (some (valP d)) s
def allP (s : By) : Except Nat JV := if 400 < s.length then .error 5 else match valP 8 s with
  | .error e => .error e
  | .ok (v, r) => if skp r = [] then .ok v else .error 3
/-! ### forms -/
def hexC (n : Nat) : UInt8 := if n < 10 then UInt8.ofNat (48 + n) else UInt8.ofNat (87 + n)
def quoB (c : UInt8) : By := if c = 34 ∨ c = 92 then [92, c] else if c = 8 then [92, 98] else if c = 9 then [92, 116] else if c = 10 then [92, 110] else if c = 12 then [92, 102] else if c = 13 then [92, 114] else if c.toNat < 32 then [92, 117, 48, 48, hexC (c.toNat / 16), hexC (c.toNat % 16)] else [c]
def quoL (t : By) : By := t.flatMap quoB
def quo (t : By) : By := 34 :: (quoL t ++ [34])
def joinB : List By → By
  | [] => []
  | [x] => x
  | x :: y :: l => x ++ 44 :: joinB (y :: l)
def layB (L : Option (JV → By)) : JV → By
  | .nil => [110, 117, 108, 108]
  | .null => [110, 117, 108, 108]
  | .bool true => [116, 114, 117, 101]
  | .bool false => [102, 97, 108, 115, 101]
  | .int n => Go.Lib.itoa n
  | .str t => quo t
  | .list l => match L with
    | none => []
    | some L => 91 :: (joinB (l.map L) ++ [93])
  | .obj l => match L with
    | none => []
    | some L => 123 :: (joinB (l.map fun m => quo m.1 ++ 58 :: L m.2.1) ++ [125])
def layP : Nat → JV → By
  | 0, v => layB none v
  | d + 1, v => layB (some (layP d)) v
/-! ### what is behind is shorter -/
theorem skp_len (s : By) : (skp s).length ≤ s.length := by unfold skp; exact (List.dropWhile_suffix isBl).length_le
theorem skp_suffix (s : By) : skp s <:+ s := List.dropWhile_suffix isBl
theorem skp_idem (s : By) : skp (skp s) = skp s := by
  unfold skp
  induction s with
  | nil => rfl
  | cons c s ih =>
    by_cases h : isBl c = true
    · rw [List.dropWhile_cons_of_pos h]; exact ih
    · rw [List.dropWhile_cons_of_neg h, List.dropWhile_cons_of_neg h]
theorem lowP_2 {n : Nat} {r : By} {x : Nat × Nat} (h : lowP n r = some x) : 2 ≤ x.2 := by
  unfold lowP at h
  split at h
  · obtain ⟨m, hm, h⟩ := Option.bind_eq_some_iff.1 h
    clear hm
    by_cases hc : 56320 ≤ m ∧ m ≤ 57343
    · rw [if_pos hc] at h
      injection h with h
      subst h
      exact Nat.le_of_ble_eq_true rfl
    · rw [if_neg hc] at h
      cases h
  · cases h
theorem uniP_2 {r : By} {x : Nat × Nat} (h : uniP r = some x) : 2 ≤ x.2 := by
  unfold uniP at h
  obtain ⟨k, hk, h⟩ := Option.bind_eq_some_iff.1 h
  clear hk
  by_cases c1 : k < 55296 ∨ 57343 < k
  · rw [if_pos c1] at h; cases h; exact Nat.le_of_ble_eq_true rfl
  rw [if_neg c1] at h
  by_cases c2 : 56320 ≤ k
  · rw [if_pos c2] at h; cases h
  rw [if_neg c2] at h
  exact lowP_2 h
theorem escP_2 {s : By} {x : Nat × Nat} (h : escP s = some x) : 2 ≤ x.2 := by
  unfold escP at h
  split at h
  · cases h
  · repeat' split at h
    all_goals first | (cases h; done) | (cases h; exact Nat.le_of_ble_eq_true rfl) | exact uniP_2 h
theorem txtP_fuel : ∀ (n m : Nat) (s : By), s.length ≤ n → s.length ≤ m → txtP n s = txtP m s
  | 0, 0, s, h, h' => rfl
  | 0, m + 1, s, h, h' => by
    obtain rfl : s = [] := List.length_eq_zero_iff.1 (by omega)
    rfl
  | n + 1, 0, s, h, h' => by
    obtain rfl : s = [] := List.length_eq_zero_iff.1 (by omega)
    rfl
  | n + 1, m + 1, s, h, h' => by
    cases s with
    | nil => rfl
    | cons c r =>
      have hp := decodeL_pos (c :: r)
      simp only [List.length_cons] at h h'
      unfold txtP
      simp only
      split
      · rfl
      split
      · cases he : escP r with
        | none => rfl
        | some x =>
          simp only [Option.bind_some]
          have hx := escP_2 he
          rw [txtP_fuel n m ((c :: r).drop x.2) (by simp; omega) (by simp; omega)]
      split
      · rfl
      · rw [txtP_fuel n m ((c :: r).drop (decodeL (c :: r)).2) (by simp; omega) (by simp; omega)]
end Go.Vm
