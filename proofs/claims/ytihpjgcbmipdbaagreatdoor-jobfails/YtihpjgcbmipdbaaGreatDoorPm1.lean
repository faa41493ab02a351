import Derived.Test.YtihpjgcbmipdbaaGreatDoorPk3
import Derived.Test.YtihpjgcbmipdbaaGreatDoorFcanon
import Derived.Test.YtihpjgcbmipdbaaGreatDoorFlaw22
import Derived.Test.YtihpjgcbmipdbaaGreatDoorFnums
/- Keys: plain. No condition. -/
namespace Go.Vm
open Go Go.Proofs
set_option linter.unusedVariables false
/-! ### keys -/
def keyR (r : Int) : Bool := decide (sortI r = 2 ∨ sortI r = 3 ∨ r = 45 ∨ r = 95 ∨ r = 46)
def keyB (l : List Int) : Unit ⊕ (Bool × Unit) := if l.all keyR = true then .inl () else .inr (false, ())
def keyF (s : List UInt8) : Bool := if s = [] ∨ 24 < s.length then false else ((signs s).map (·.1)).all keyR
theorem keyB_t {n : Int} {l : List Int} (h : keyR n = true) : keyB (n :: l) = keyB l := by
 unfold keyB
 rw [List.all_cons, h, Bool.true_and]
theorem keyB_f {n : Int} {l : List Int} (h : ¬ keyR n = true) : keyB (n :: l) = .inr (false, ()) := by
 unfold keyB
 rw [List.all_cons, Bool.eq_false_iff.2 h, Bool.false_and]
 rfl
theorem key_step (F : Nat) (s : List UInt8) (p : Nat) (hp : p < s.length) : M_canon_Key_l0 F ((), (s, p), ()) = if keyR (runeAt s p) = true then some (.inl ((), (s, p + runeLen s p), ())) else some (.inr (.inr (false, ()))) := by
 unfold M_canon_Key_l0
 refine (if_pos (by simpa using hp)).trans ?_
 simp only [sort_eq, Option.bind_some]
 generalize runeAt s p = r
 unfold keyR
 by_cases h2 : sortI r = 2
 ·simp [h2]
 by_cases h3 : sortI r = 3
 ·simp [h3]
 by_cases h45 : r = 45
 ·subst h45; simp [h2, h3]
 by_cases h95 : r = 95
 ·subst h95; simp [h2, h3]
 by_cases h46 : r = 46
 ·subst h46; simp [h2, h3]
 simp [h2, h3, h45, h95, h46]
theorem key_loop (s : List UInt8) (p : Nat) (hp : p ≤ s.length) : TendsL M_canon_Key_l0 ((), (s, p), ()) (keyB ((signs (s.drop p)).map (·.1))) := by
 suffices hh : ∀ n p, p ≤ s.length → s.length - p ≤ n → TendsL M_canon_Key_l0 ((), (s, p), ()) (keyB ((signs (s.drop p)).map (·.1))) from hh _ p hp (Nat.le_refl _)
 intro n
 induction n with
 | zero =>
  intro p hp hn
  refine TendsL.fin (.of fun F => ?_)
  unfold M_canon_Key_l0
  refine (if_neg (by simp; omega)).trans ?_
  rw [List.drop_eq_nil_of_le (by omega), signs_nil]
  rfl
 | succ n ih =>
  intro p hp hn
  by_cases hlt : p < s.length
  ·have hr := runeAt_eq s p
   have hl := runeLen_eq s p
   have hpos := Go.Lib.decodeL_le (s.drop p)
   have h1 := decodeL_pos (s.drop p)
   rw [signs_cons (drop_ne hlt), List.map_cons]
   by_cases hk : keyR ((Go.Lib.decodeL (s.drop p)).1 : Int) = true
   ·have hb : keyB (((Go.Lib.decodeL (s.drop p)).1 : Int) :: (signs ((s.drop p).drop (Go.Lib.decodeL (s.drop p)).2)).map (·.1)) = keyB ((signs (s.drop (p + (Go.Lib.decodeL (s.drop p)).2))).map (·.1)) := by
     rw [keyB_t hk, drop_next]
    rw [hb]
    refine TendsL.step (.of fun F => ?_) (ih (p + (Go.Lib.decodeL (s.drop p)).2) (next_le hlt) (by omega))
    rw [key_step F s p hlt, hr, hl, if_pos hk]
   ·refine TendsL.fin (.of fun F => ?_)
    rw [key_step F s p hlt, hr, if_neg hk, keyB_f hk]
  ·have : p = s.length := by omega
   subst this
   refine TendsL.fin (.of fun F => ?_)
   unfold M_canon_Key_l0
   refine (if_neg (by simp)).trans ?_
   rw [List.drop_eq_nil_of_le (by omega), signs_nil]
   rfl
theorem keyF_out {s : List UInt8} (h : s = [] ∨ 24 < s.length) : keyF s = false := by unfold keyF; rw [if_pos h]
theorem keyF_in {s : List UInt8} (h : ¬ (s = [] ∨ 24 < s.length)) : keyF s = ((signs s).map (·.1)).all keyR := by unfold keyF; rw [if_neg h]
theorem key_tends (s : List UInt8) : Tends (fun F => M_canon_Key F s) (keyF s) := by
 unfold M_canon_Key
 by_cases h0 : s = []
 ·rw [keyF_out (.inl h0)]
  refine Tends.bind (r := (s, true, ())) (.of fun F => if_neg (by simpa using h0)) (Tends.pos rfl (.ret _))
 by_cases h8 : 24 < s.length
 ·rw [keyF_out (.inr h8)]
  refine Tends.bind (r := (s, true, ())) (.of fun F => (if_pos (by simpa using h0)).trans ?_) (Tends.pos rfl (.ret _))
  rw [decide_eq_true (by omega)]
 rw [keyF_in (by rintro (h | h) <;> contradiction)]
 refine Tends.bind (r := (s, false, ())) (.of fun F => (if_pos (by simpa using h0)).trans ?_) (Tends.neg (by simp) ?_)
 ·rw [decide_eq_false (by omega)]
 have hl := key_loop s 0 (by omega)
 rw [List.drop_zero] at hl
 refine Tends.bind hl.run ?_
 unfold keyB
 cases hb : ((signs s).map (·.1)).all keyR
 ·exact .ret _
 ·exact .ret _
end Go.Vm
/- Entries: whether one may be: the program's answer and the document's are the plain one. (Cut out of the texts of entries.) No condition. -/
namespace Go.Vm
open Go Go.Proofs
set_option linter.unusedVariables false
set_option linter.unusedSimpArgs false
structure Ent where
 te : Int
 key : List UInt8
 st : Int
 ep : Int
 tk : Int
 pt : Int
 pr : List UInt8
 le : Int
 ex : Int
 su : Int
 tx : List UInt8
 me : List UInt8
 pa : List UInt8
 bo : List UInt8
 deriving DecidableEq
abbrev En : Type := Int × List UInt8 × Int × Int × Int × Int × List UInt8 × Int × Int × Int × List UInt8 × List UInt8 × List UInt8 × List UInt8 × Unit
def Ent.t (e : Ent) : En := (e.te, e.key, e.st, e.ep, e.tk, e.pt, e.pr, e.le, e.ex, e.su, e.tx, e.me, e.pa, e.bo, ())
def Ent.zero : Ent := ⟨0, [], 0, 0, 0, 0, [], 0, 0, 0, [], [], [], []⟩
def namedB (te : Int) (key : List UInt8) : Bool := decide (0 ≤ te ∧ te ≤ 3) && keyF key
def numsB (e : Ent) : Bool := decide (1 ≤ e.ep ∧ e.ep ≤ 1073741824 ∧ 1 ≤ e.tk ∧ e.tk ≤ 1073741824 ∧ 0 ≤ e.pt ∧ e.pt ≤ 5 ∧ e.pr.length = 32 ∧ 0 ≤ e.le ∧ e.le ≤ 1099511627776 ∧ 0 ≤ e.ex ∧ e.ex ≤ 1099511627776)
def askedB (e : Ent) : Bool := (methF e.me).2 && (pathF e.pa).2 && decide ((methF e.me).1 = e.me ∧ (pathF e.pa).1 = e.pa ∧ e.bo.length ≤ 80)
def restB (e : Ent) : Bool := if e.st = 1 then askedB e && decide (e.su = 0 ∧ e.tx = []) else decide (e.le = 0 ∧ e.me = [] ∧ e.pa = [] ∧ e.bo = []) &&
 (if e.st = 2 then decide ((e.su = 200 ∨ e.su = 201 ∨ e.su = 402) ∧ e.tx.length ≤ 40) else decide (e.st = 3 ∧ e.su = 0 ∧ e.tx = []))
def mayB (e : Ent) : Bool := namedB e.te e.key && numsB e && restB e
theorem methF_two (m : List UInt8) : (methF m).2 = !decide ((methF m).1 = []) := by
 by_cases h : m = [] ∨ 8 < m.length
 ·rw [methF_out h]; rfl
 ·rw [methF_in h]
  split
  ·have : m.map upC ≠ [] := by
    intro e
    exact h (.inl (List.map_eq_nil_iff.1 e))
   simp [this]
  ·rfl
theorem finP_two (l : List (List UInt8)) : (finP l).2 = !decide ((finP l).1 = []) := by
 unfold finP
 by_cases h : joinP l = []
 ·simp [h]
 ·simp only [h, if_false]
  split <;> simp [h]
theorem pathF_two (p : List UInt8) : (pathF p).2 = !decide ((pathF p).1 = []) := by
 cases p with
 | nil => rfl
 | cons c t =>
  by_cases h : 59 < t.length ∨ c ≠ 47
  ·rw [pathF_out h]; rfl
  ·have h1 : ¬ 59 < t.length := fun x => h (.inl x)
   have h2 : c = 47 := by
    by_cases hc : c = 47
    ·exact hc
    ·exact absurd (.inr hc) h
   subst h2
   rw [pathF_in h1]
   split
   ·rfl
   ·exact finP_two _
theorem named_tends (e : Ent) : Tends (fun F => M_entry_named F e.t) (namedB e.te e.key) := by
 obtain ⟨N, h⟩ := key_tends e.key
 refine ⟨N, fun F hF => ?_⟩
 have hk : M_canon_Key F e.t.2.1 = some (keyF e.key) := h F hF
 show M_entry_named F e.t = _
 unfold M_entry_named namedB
 by_cases h1 : 0 ≤ e.te
 ·have h1' : (0 : Int) ≤ e.t.1 := h1
  by_cases h2 : e.te < 4
  ·have h2' : e.t.1 < (4 : Int) := h2
   have h3 : e.te ≤ 3 := by omega
   simp [h1', h2', hk, h1, h3]
  ·have h2' : ¬ (e.t.1 < (4 : Int)) := h2
   have h3 : ¬ (e.te ≤ 3) := by omega
   simp [h1', h2', h1, h3]
 ·have h1' : ¬ ((0 : Int) ≤ e.t.1) := h1
  simp [h1', h1]
theorem number_eq (F : Nat) (n : Int) : M_entry_number F n = some (decide (1 ≤ n ∧ n ≤ 1073741824)) := by
 unfold M_entry_number
 by_cases h : 1 ≤ n <;> simp [h]
theorem time_eq (F : Nat) (n : Int) : M_entry_time F n = some (decide (0 ≤ n ∧ n ≤ 1099511627776)) := by
 unfold M_entry_time
 by_cases h : 0 ≤ n <;> simp [h]
theorem asked_tends (e : Ent) : Tends (fun F => M_entry_asked F e.t) (askedB e) := by
 obtain ⟨N1, h1⟩ := meth_tends e.me
 obtain ⟨N2, h2⟩ := path_tends e.pa
 refine ⟨max N1 N2, fun F hF => ?_⟩
 have k1 : M_canon_Method F e.t.2.2.2.2.2.2.2.2.2.2.2.1 = some (methF e.me) := h1 F (by omega)
 have k2 : M_canon_Path F e.t.2.2.2.2.2.2.2.2.2.2.2.2.1 = some (pathF e.pa) := h2 F (by omega)
 show M_entry_asked F e.t = _
 unfold M_entry_asked askedB
 rw [methF_two, pathF_two]
 rw [k1, Option.bind_some, k2, Option.bind_some]
 have em : e.t.2.2.2.2.2.2.2.2.2.2.2.1 = e.me := rfl
 have ep : e.t.2.2.2.2.2.2.2.2.2.2.2.2.1 = e.pa := rfl
 have eb : e.t.2.2.2.2.2.2.2.2.2.2.2.2.2.1 = e.bo := rfl
 have hd : decide ((methF e.me).1 = e.me ∧ (pathF e.pa).1 = e.pa ∧ e.bo.length ≤ 80) = (decide ((methF e.me).1 = e.me) && (decide ((pathF e.pa).1 = e.pa) && decide ((e.bo.length : Int) ≤ 80))) := by
  rw [Bool.eq_iff_iff]
  simp only [Bool.and_eq_true, decide_eq_true_eq]
  exact ⟨fun ⟨a, b, c⟩ => ⟨a, b, by omega⟩, fun ⟨a, b, c⟩ => ⟨a, b, by omega⟩⟩
 rw [hd, em]
 generalize decide ((methF e.me).1 = []) = b1
 generalize decide ((methF e.me).1 = e.me) = b2
 cases b1 <;> cases b2
 ·cases decide ((pathF e.pa).1 = []) <;> rfl
 ·simp only [Bool.not_false, if_true, Option.bind_some, ep]
  generalize decide ((pathF e.pa).1 = []) = b3
  generalize decide ((pathF e.pa).1 = e.pa) = b4
  cases b3 <;> cases b4 <;> simp only [Bool.not_false, Bool.not_true, if_true, Option.bind_some, eb, Bool.false_eq_true, if_false, Bool.true_and, Bool.and_true, Bool.false_and, Bool.and_false]
 ·cases decide ((pathF e.pa).1 = []) <;> rfl
 ·cases decide ((pathF e.pa).1 = []) <;> rfl
def ansB (e : Ent) : Bool := decide ((e.su = 200 ∨ e.su = 201 ∨ e.su = 402) ∧ e.tx.length ≤ 40)
theorem answered_eq (F : Nat) (e : Ent) : M_entry_answered F e.t = some (ansB e) := by
 unfold M_entry_answered ansB
 have es : e.t.2.2.2.2.2.2.2.2.2.1 = e.su := rfl
 have et : e.t.2.2.2.2.2.2.2.2.2.2.1 = e.tx := rfl
 have hl : decide ((e.tx.length : Int) ≤ 40) = decide (e.tx.length ≤ 40) := by rw [decide_eq_decide]; omega
 by_cases h1 : e.su = 200
 ·simp [es, et, h1, hl]
 ·by_cases h2 : e.su = 201
  ·simp [es, et, h2, hl]
  ·by_cases h3 : e.su = 402
   ·simp [es, et, h3, hl]
   ·simp [es, h1, h2, h3]
theorem mayB_eq (e : Ent) : mayB e = (namedB e.te e.key && (decide (1 ≤ e.ep ∧ e.ep ≤ 1073741824) && (decide (1 ≤ e.tk ∧ e.tk ≤ 1073741824) && (!decide (e.pt < 0) && (!decide (5 < e.pt) && (decide ((e.pr.length : Int) = 32) && (decide (0 ≤ e.le ∧ e.le ≤ 1099511627776) && (decide (0 ≤ e.ex ∧ e.ex ≤ 1099511627776) &&
  (if decide (e.st = 1) = true then askedB e && decide (e.su = 0 ∧ e.tx = []) else decide (e.le = 0 ∧ e.me = [] ∧ e.pa = [] ∧ e.bo = []) && (if decide (e.st = 2) = true then ansB e else decide (e.st = 3) && decide (e.su = 0 ∧ e.tx = [])))))))))) ) := by
 have hr : restB e = (if decide (e.st = 1) = true then askedB e && decide (e.su = 0 ∧ e.tx = []) else decide (e.le = 0 ∧ e.me = [] ∧ e.pa = [] ∧ e.bo = []) && (if decide (e.st = 2) = true then ansB e else decide (e.st = 3) && decide (e.su = 0 ∧ e.tx = []))) := by
  unfold restB ansB
  by_cases h1 : e.st = 1
  ·simp [h1]
  ·by_cases h2 : e.st = 2
   ·simp [h2]
   ·simp [h1, h2]
 unfold mayB
 rw [hr, Bool.and_assoc]
 congr 1
 generalize (if decide (e.st = 1) = true then _ else _) = Z
 unfold numsB
 rw [Bool.eq_iff_iff]
 simp only [Bool.and_eq_true, decide_eq_true_eq, Bool.not_eq_true', decide_eq_false_iff_not]
 constructor
 ·rintro ⟨h, hz⟩; refine ⟨?_, ?_, ?_, ?_, ?_, ?_, ?_, hz⟩ <;> omega
 ·rintro ⟨h1, h2, h3, h4, h5, h6, h7, hz⟩; refine ⟨?_, hz⟩; omega
theorem may_tends (e : Ent) (hm : e.me.length ≤ 1000000) (hp : e.pa.length ≤ 1000000) (hb : e.bo.length ≤ 1000000) : Tends (fun F => M_entry_May F e.t) (mayB e) := by
 obtain ⟨N1, h1⟩ := named_tends e
 obtain ⟨N2, h2⟩ := asked_tends e
 refine ⟨max N1 N2, fun F hF => ?_⟩
 have k1 : M_entry_named F e.t = some (namedB e.te e.key) := h1 F (by omega)
 have k2 : M_entry_asked F e.t = some (askedB e) := h2 F (by omega)
 show M_entry_May F e.t = _
 unfold M_entry_May
 rw [k1, Option.bind_some]
 have e1 : e.t.2.2.1 = e.st := rfl
 have e2 : e.t.2.2.2.1 = e.ep := rfl
 have e3 : e.t.2.2.2.2.1 = e.tk := rfl
 have e4 : e.t.2.2.2.2.2.1 = e.pt := rfl
 have e5 : e.t.2.2.2.2.2.2.1 = e.pr := rfl
 have e6 : e.t.2.2.2.2.2.2.2.1 = e.le := rfl
 have e7 : e.t.2.2.2.2.2.2.2.2.1 = e.ex := rfl
 have e8 : e.t.2.2.2.2.2.2.2.2.2.1 = e.su := rfl
 have e9 : e.t.2.2.2.2.2.2.2.2.2.2.1 = e.tx := rfl
 have em : e.t.2.2.2.2.2.2.2.2.2.2.2.1 = e.me := rfl
 have ep : e.t.2.2.2.2.2.2.2.2.2.2.2.2.1 = e.pa := rfl
 have eb : e.t.2.2.2.2.2.2.2.2.2.2.2.2.2.1 = e.bo := rfl
 have l1 : e.me.length + e.pa.length ≤ 9223372036854775807 := by omega
 have l2 : e.me.length + e.pa.length + e.bo.length ≤ 9223372036854775807 := by omega
 have hA : (if decide (e.su = 0) = true then some ((), decide (e.tx = []), e.t, ()) else some ((), false, e.t, ())) = some ((), decide (e.su = 0 ∧ e.tx = []), e.t, ()) := by
  by_cases h : e.su = 0 <;> simp [h]
 have hR : ∀ z : Bool, (if decide (e.le = 0) = true then if decide (e.me.length + e.pa.length ≤ 9223372036854775807) = true then if decide ((e.me ++ e.pa).length + e.bo.length ≤ 9223372036854775807) = true then some ((), z, decide (e.me ++ e.pa ++ e.bo = []), e.t, ()) else none else none else some ((), z, false, e.t, ()))
   = some ((), z, decide (e.le = 0 ∧ e.me = [] ∧ e.pa = [] ∧ e.bo = []), e.t, ()) := by
  intro z
  by_cases h : e.le = 0
  ·simp [h, l1, l2]
  ·simp [h]
 rw [mayB_eq]
 simp only [number_eq, time_eq, e1, e2, e3, e4, e5, e6, e7, e8, e9, em, ep, eb, Option.bind_some]
 cases namedB e.te e.key
 ·rfl
 cases decide (1 ≤ e.ep ∧ e.ep ≤ 1073741824)
 ·rfl
 simp only [Bool.not_true, if_true, Option.bind_some, number_eq, e3]
 cases decide (1 ≤ e.tk ∧ e.tk ≤ 1073741824)
 ·rfl
 simp only [Bool.not_true, if_true, Option.bind_some, e4]
 cases decide (e.pt < 0)
 case true => rfl
 simp only [Bool.not_true, Bool.not_false, if_true, Option.bind_some, number_eq, time_eq, e1, e2, e3, e4, e5, e6, e7, e8, e9, em, ep, eb]
 cases decide (5 < e.pt)
 case true => rfl
 simp only [Bool.not_true, Bool.not_false, if_true, Option.bind_some, number_eq, time_eq, e1, e2, e3, e4, e5, e6, e7, e8, e9, em, ep, eb]
 cases decide ((e.pr.length : Int) = 32)
 case false => rfl
 simp only [Bool.not_true, Bool.not_false, if_true, Option.bind_some, number_eq, time_eq, e1, e2, e3, e4, e5, e6, e7, e8, e9, em, ep, eb]
 cases decide (0 ≤ e.le ∧ e.le ≤ 1099511627776)
 case false => rfl
 simp only [Bool.not_true, Bool.not_false, if_true, Option.bind_some, number_eq, time_eq, e1, e2, e3, e4, e5, e6, e7, e8, e9, em, ep, eb]
 cases decide (0 ≤ e.ex ∧ e.ex ≤ 1099511627776)
 case false => rfl
 simp only [Bool.not_true, Bool.not_false, if_true, Option.bind_some, e8, e9, hA, e6, em, ep, eb, hR, e1, Bool.true_and, Bool.false_eq_true, if_false]
 rw [show M_entry_asked F e.t = some (askedB e) from k2, answered_eq]
 cases decide (e.st = 1)
 ·cases decide (e.st = 2)
  ·cases decide (e.st = 3)
   ·cases decide (e.le = 0 ∧ e.me = [] ∧ e.pa = [] ∧ e.bo = []) <;> rfl
   ·cases decide (e.le = 0 ∧ e.me = [] ∧ e.pa = [] ∧ e.bo = []) <;> rfl
  ·cases decide (e.le = 0 ∧ e.me = [] ∧ e.pa = [] ∧ e.bo = []) <;> rfl
 ·cases decide (e.su = 0 ∧ e.tx = []) <;> cases askedB e <;> rfl
end Go.Vm
