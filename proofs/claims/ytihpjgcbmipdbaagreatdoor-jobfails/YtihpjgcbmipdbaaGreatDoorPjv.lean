import Derived.Test.YtihpjgcbmipdbaaGreatDoorFlaw22
import Derived.Test.YtihpjgcbmipdbaaGreatDoorPk1
import Derived.Test.YtihpjgcbmipdbaaGreatDoorPu5
import Derived.Test.YtihpjgcbmipdbaaGreatDoorPj11
/- JSON: the document's reader at its leaves is the plain one. No condition but on lengths. -/
namespace Go.Vm
open Go.Lib (decodeL decodeN decodeL_N decode_N decodeN_shape decodeL_le decDigits itoa)
set_option linter.unusedVariables false
set_option linter.unusedSimpArgs false
theorem nvB (c k : UInt8) : ((c.toNat : Int) = (k.toNat : Int)) = (c = k) := by
 apply propext
 constructor
 ·intro hh; exact UInt8.toNat_inj.1 (by omega)
 ·intro hh; rw [hh]
end Go.Vm
/- JSON: the document's strings, numbers, quotes, places are the plain ones. No condition but on lengths. -/
namespace Go.Vm
open Go.Lib (decodeL decodeN decodeL_N decode_N decodeN_shape decodeL_le decDigits itoa)
set_option linter.unusedVariables false
set_option linter.unusedSimpArgs false
/-! ### escapes -/
end Go.Vm
/- JSON: the document's numbers, quotes, places, ends are the plain ones. No condition but on lengths. -/
namespace Go.Vm
open Go.Lib (decodeL decodeN decodeL_N decode_N decodeN_shape decodeL_le decDigits itoa)
set_option linter.unusedVariables false
set_option linter.unusedSimpArgs false
/-! ### decimals -/
abbrev V9 := Int × By × By × Int × List By × List By × Unit
def z9 : V9 := (0, [], [], 0, [], [], ())
end Go.Vm
/- JSON: the document's quotes, places, ends are the plain ones. No condition but on lengths. -/
namespace Go.Vm
open Go.Lib (decodeL decodeN decodeL_N decode_N decodeN_shape decodeL_le decDigits itoa)
set_option linter.unusedVariables false
set_option linter.unusedSimpArgs false
/-! ### quotes -/
end Go.Vm
/- JSON: the document's lists and objects are the plain ones. No condition but on lengths. -/
namespace Go.Vm
open Go.Lib (decodeL decDigits itoa)
set_option linter.unusedVariables false
set_option linter.unusedSimpArgs false
/-! ### what is told -/
def kindP : JV → Int
 | .nil => 0
 | .null => 1
 | .bool _ => 2
 | .int _ => 3
 | .str _ => 4
 | .list _ => 5
 | .obj _ => 6
def textP : JV → By
 | .str t => t
 | _ => []
def numV : JV → Int
 | .int n => n
 | _ => 0
def namesP : JV → List By
 | .obj l => l.map (·.1)
 | _ => []
def itmP (d : Nat) (v : JV) : By := match d with
 | 0 => []
 | d + 1 => layP d v
def itemsP (d : Nat) : JV → List By
 | .list l => l.map (itmP d)
 | .obj l => l.map fun m => itmP d m.2.1
 | _ => []
def refV (d : Nat) (v : JV) : V9 := (kindP v, layP d v, textP v, numV v, namesP v, itemsP d v, ())
end Go.Vm
/- JSON: the document's objects are the plain ones. No condition but on lengths. -/
namespace Go.Vm
open Go.Lib (decodeL decDigits itoa)
set_option linter.unusedVariables false
set_option linter.unusedSimpArgs false
theorem quoB_pos (c : UInt8) : 1 ≤ (quoB c).length := by
 unfold quoB
 repeat' split
 all_goals exact Nat.le_of_ble_eq_true rfl
theorem quoL_ge (t : By) : t.length ≤ (quoL t).length := by
 induction t with
 | nil => exact Nat.le_refl _
 | cons c t ih =>
  have := quoB_pos c
  show _ ≤ (quoB c ++ quoL t).length
  rw [List.length_append, List.length_cons]
  omega
end Go.Vm
/- JSON: the document's objects and values are the plain ones. No condition but on lengths. -/
namespace Go.Vm
open Go.Lib (decodeL decDigits itoa)
set_option linter.unusedVariables false
set_option linter.unusedSimpArgs false
end Go.Vm
/- JSON: the document's values are the plain ones. No condition but on lengths. -/
namespace Go.Vm
open Go.Lib (decodeL decDigits itoa)
set_option linter.unusedVariables false
set_option linter.unusedSimpArgs false
def ofP (s : By) : V9 × Int := match allP s with
 | .ok v => (refV 8 v, 0)
 | .error e => (z9, (e : Int))
end Go.Vm
/- JSON: what the program tells of a text's parts, for those that ask it. No condition but on lengths. -/
namespace Go.Vm
open Go.Proofs
open Go.Lib (decodeL decDigits itoa)
set_option linter.unusedVariables false
set_option linter.unusedSimpArgs false
def vP (s : By) : JV := match allP s with
 | .ok v => v
 | .error _ => .nil
theorem parse_v (s : By) (hs : s.length ≤ 1000) : Tends (fun F => M_json_parse F s) (vP s, (ofP s).2) := by
 refine Tends.eq (parse_t s hs) ?_
 unfold vP ofP
 cases allP s <;> rfl
theorem text_v (s : By) (hs : s.length ≤ 1000) : Tends (fun F => M_json_Text F s) (textP (vP s), decide (kindP (vP s) = 4)) := by
 unfold M_json_Text
 refine Tends.bind (parse_v s hs) ?_
 cases vP s <;> exact .ret _
theorem number_v (s : By) (hs : s.length ≤ 1000) : Tends (fun F => M_json_Number F s) (numV (vP s), decide (kindP (vP s) = 3)) := by
 unfold M_json_Number
 refine Tends.bind (parse_v s hs) ?_
 cases vP s <;> exact .ret _
def objL : JV → List Me
 | .obj l => l
 | _ => []
theorem vP_ok (s : By) : vP s = .nil ∨ (okV 8 (vP s) ∧ (layP 8 (vP s)).length ≤ 400) := by
 unfold vP
 cases h : allP s with
 | error e => exact .inl rfl
 | ok v =>
  obtain ⟨o1, o2, o3⟩ := all_ok h
  exact .inr ⟨o1, Nat.le_trans o2 o3⟩
theorem obj_facts {v : JV} {l : List Me} (h : v = .nil ∨ (okV 8 v ∧ (layP 8 v).length ≤ 400)) (hv : v = .obj l) : Uni l ∧ l.length ≤ 400 ∧ ∀ m ∈ l, okV 7 m.2.1 ∧ (layP 7 m.2.1).length ≤ 400 := by
 subst hv
 rcases h with h | ⟨h1, h2⟩
 ·cases h
 obtain ⟨h3, h4⟩ : Ris l ∧ ∀ m ∈ l, OkT m.1 ∧ okV 7 m.2.1 := h1
 have e : layP 8 (.obj l) = 123 :: (joinB (l.map fun m => quo m.1 ++ 58 :: layP 7 m.2.1) ++ [125]) := rfl
 rw [e] at h2
 simp only [List.length_cons, List.length_append, List.length_nil] at h2
 have hj := join_len (fun m : Me => quo m.1 ++ 58 :: layP 7 m.2.1) l (fun m _ => by unfold quo; simp)
 refine ⟨ris_uni h3, by omega, fun m hm => ⟨(h4 m hm).2, ?_⟩⟩
 have := piece (fun m : Me => quo m.1 ++ 58 :: layP 7 m.2.1) l m hm
 simp only [List.length_append, List.length_cons] at this
 omega
where
 piece {α : Type} (f : α → By) : ∀ (l : List α) (x : α), x ∈ l → (f x).length ≤ (joinB (l.map f)).length
  | [], x, h => by cases h
  | [y], x, h => by
   rw [List.mem_singleton] at h
   subst h
   exact Nat.le_refl _
  | y :: z :: l, x, h => by
   have ih := piece f (z :: l)
   rw [List.map_cons] at ih
   simp only [List.map_cons, joinB, List.length_append, List.length_cons] at ih ⊢
   rcases List.mem_cons.1 h with rfl | h
   ·omega
   ·have := ih x h
    omega
def firstM (name : By) : List Me → By × Bool
 | [] => ([], false)
 | m :: l => if m.1 = name then (layP 7 m.2.1, true) else firstM name l
theorem first_find (name : By) : ∀ l : List Me, match l.findIdx? (fun m => m.1 == name) with
  | some i => ∃ m, l[i]? = some m ∧ firstM name l = (layP 7 m.2.1, true)
  | none => firstM name l = ([], false)
 | [] => rfl
 | m :: l => by
  have ih := first_find name l
  rw [List.findIdx?_cons]
  by_cases hc : m.1 = name
  ·rw [if_pos (beq_iff_eq.2 hc)]
   exact ⟨m, rfl, by unfold firstM; rw [if_pos hc]⟩
  ·rw [if_neg (by simpa using hc)]
   cases hf : l.findIdx? (fun m => m.1 == name) with
   | none =>
    rw [hf] at ih
    simp only [Option.map_none]
    unfold firstM
    rw [if_neg hc]
    exact ih
   | some i =>
    rw [hf] at ih
    obtain ⟨m', h1, h2⟩ := ih
    simp only [Option.map_some]
    refine ⟨m', by simpa using h1, ?_⟩
    unfold firstM
    rw [if_neg hc]
    exact h2
theorem field_v (s name : By) (hs : s.length ≤ 1000) : Tends (fun F => M_json_Field F (s, name)) (firstM name (objL (vP s))) := by
 have hv := vP_ok s
 unfold M_json_Field
 refine Tends.bind (parse_v s hs) ?_
 have none : Tends (fun F => (M_json_object_find F ([], name)).bind fun v5 => if decide (v5 < 0) = true then some ([], false) else (idx ([] : List Me) v5).bind fun v6 => (M_json_lay F ([], v6.2.1)).bind fun v7 => some (v7, true)) (([], false) : By × Bool) := by
  refine Tends.bind (find_t [] name (by simp)) ?_
  exact Tends.pos rfl (.ret _)
 cases hc : vP s with
 | obj l =>
  obtain ⟨h1, h2, h3⟩ := obj_facts hv hc
  refine Tends.pos rfl ?_
  refine Tends.bind (.of fun F => (rfl : (JV.obj l).obj? = some l)) ?_
  refine Tends.bind (find_t l name (by omega)) ?_
  have hff := first_find name l
  unfold findI
  cases hf : l.findIdx? (fun m => m.1 == name) with
  | none =>
   rw [hf] at hff
   refine Tends.pos (by decide) ?_
   show Tends _ (firstM name l)
   rw [hff]
   exact .ret _
  | some i =>
   rw [hf] at hff
   obtain ⟨m, q1, q2⟩ := hff
   refine Tends.neg (by show ¬ decide ((i : Int) < 0) = true; rw [decide_eq_true_eq]; omega) ?_
   refine Tends.bind (.of fun F => idx_at l i m q1) ?_
   obtain ⟨o1, o2⟩ := h3 m (List.mem_of_getElem? q1)
   show Tends _ (firstM name l)
   rw [q2]
   exact Tends.bind (lay_t 7 m.2.1 [] o1 (by simp; omega)) (.ret _)
 | _ => exact Tends.neg Bool.false_ne_true none
end Go.Vm
