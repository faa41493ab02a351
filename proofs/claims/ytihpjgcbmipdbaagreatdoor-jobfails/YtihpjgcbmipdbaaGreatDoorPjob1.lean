import Derived.Test.YtihpjgcbmipdbaaGreatDoorFlaw22
import Derived.Test.YtihpjgcbmipdbaaGreatDoorPh4
import Derived.Test.YtihpjgcbmipdbaaGreatDoorPk1
import Derived.Test.YtihpjgcbmipdbaaGreatDoorPj6
import Derived.Test.YtihpjgcbmipdbaaGreatDoorPj2
/- Phrases: the document's names, gaps and checks are the plain ones; the wake; the law of checks. No condition but on lengths. -/
namespace Go.Vm
open Go.Proofs
open Go.Lib (decodeL decodeN decodeL_N decode_N decodeN_shape decodeL_le)
set_option linter.unusedVariables false
set_option linter.unusedSimpArgs false
/-! ### names and gaps -/
def checkT (s : By) : Bool := decide (s.length ≤ 60) && (cutP s).isSome
theorem check_v (s : By) (hs : s.length ≤ 1000) : Tends (fun F => M_phrase_Check F s) (checkT s) := by
 unfold M_phrase_Check
 refine Tends.bind (cut_t s hs) (.of fun F => ?_)
 unfold cutT checkT
 by_cases h6 : 60 < s.length
 ·rw [if_pos h6, decide_eq_false (by omega)]; rfl
 ·rw [if_neg h6, decide_eq_true (by omega)]
  cases cutP s <;> rfl
end Go.Vm
/- Programs: numbers, phases, their texts, what reads them: plainly. No condition. -/
namespace Go.Vm
open Go.Lib (decDigits itoa decNat decFrom digitVal)
set_option linter.unusedVariables false
set_option linter.unusedSimpArgs false
/-! ### numbers -/
abbrev PhT := Int × By × Int × By × Unit
def textG (s : By) : Bool := s.all (fun c => c != 59) && checkT s
def rightG (p : PhT) : Bool :=
 if p.1 = 1 then decide (1 ≤ p.2.2.1) && decide (p.2.2.1 ≤ 80) && decide (p.2.1 = []) && decide (p.2.2.2.1 = [])
 else if p.1 = 2 then decide (1 ≤ p.2.2.1) && decide (p.2.2.1 ≤ 1073741824) && nmP p.2.1 && decide (p.2.2.2.1 = [])
 else if p.1 = 3 then decide (p.2.2.1 = 0) && nmP p.2.1 && textG p.2.2.2.1
 else if p.1 = 4 then (decide (p.2.2.1 = 200) || decide (p.2.2.1 = 201)) && decide (p.2.1 = []) && textG p.2.2.2.1
 else false
def mayL : List PhT → Bool
 | [] => true
 | p :: r => rightG p && (decide (p.1 = 4) == decide (r = [])) && mayL r
def mayG (l : List PhT) : Bool := decide (1 ≤ l.length) && decide (l.length ≤ 5) && mayL l
abbrev wOnly : By := [111, 110, 108, 121]
abbrev wNeed : By := [110, 101, 101, 100]
theorem right_cases {p : PhT} (h : rightG p = true) :
  (∃ n : Nat, p = (1, [], (n : Int), [], ()) ∧ 1 ≤ n ∧ n ≤ 80) ∨ (∃ (nm : By) (n : Nat), p = (2, nm, (n : Int), [], ()) ∧ nmP nm = true ∧ 1 ≤ n ∧ n ≤ 1073741824) ∨
  (∃ nm t, p = (3, nm, 0, t, ()) ∧ nmP nm = true ∧ textG t = true) ∨ ∃ (n : Nat) (t : By), p = (4, [], (n : Int), t, ()) ∧ (n = 200 ∨ n = 201) ∧ textG t = true := by
 obtain ⟨k, nm, n, t, u⟩ := p
 unfold rightG at h
 simp only at h
 split at h
 ·rename_i hk
  subst hk
  simp only [Bool.and_eq_true, decide_eq_true_eq] at h
  obtain ⟨⟨⟨h1, h2⟩, rfl⟩, rfl⟩ := h
  exact .inl ⟨n.toNat, by rw [show ((n.toNat : Nat) : Int) = n by omega], by omega, by omega⟩
 split at h
 ·rename_i hk
  subst hk
  simp only [Bool.and_eq_true, decide_eq_true_eq] at h
  obtain ⟨⟨⟨h1, h2⟩, h3⟩, rfl⟩ := h
  exact .inr (.inl ⟨nm, n.toNat, by rw [show ((n.toNat : Nat) : Int) = n by omega], h3, by omega, by omega⟩)
 split at h
 ·rename_i hk
  subst hk
  simp only [Bool.and_eq_true, decide_eq_true_eq] at h
  obtain ⟨⟨rfl, h2⟩, h3⟩ := h
  exact .inr (.inr (.inl ⟨nm, t, rfl, h2, h3⟩))
 split at h
 ·rename_i hk
  subst hk
  simp only [Bool.and_eq_true, Bool.or_eq_true, decide_eq_true_eq] at h
  obtain ⟨⟨h1, rfl⟩, h3⟩ := h
  exact .inr (.inr (.inr ⟨n.toNat, t, by rw [show ((n.toNat : Nat) : Int) = n by omega], by omega, h3⟩))
 ·cases h
end Go.Vm
/- Programs: printed and parsed, plainly; the document's parser on a printed one. No condition. -/
namespace Go.Vm
open Go.Lib (decDigits itoa)
set_option linter.unusedVariables false
set_option linter.unusedSimpArgs false
theorem mayL_right : ∀ l : List PhT, mayL l = true → ∀ p ∈ l, rightG p = true
 | [], h, p, hp => by cases hp
 | q :: l, h, p, hp => by
  unfold mayL at h
  rw [Bool.and_eq_true, Bool.and_eq_true] at h
  rcases List.mem_cons.1 hp with rfl | hp
  ·exact h.1.1
  ·exact mayL_right l h.2 p hp
theorem may_right {l : List PhT} (h : mayG l = true) : (∀ p ∈ l, rightG p = true) ∧ 1 ≤ l.length ∧ l.length ≤ 5 := by
 unfold mayG at h
 simp only [Bool.and_eq_true, decide_eq_true_eq] at h
 exact ⟨mayL_right l h.2, h.1.1, h.1.2⟩
end Go.Vm
/- Phrases: gaps; the wake; the law of checks. No condition but on lengths. -/
namespace Go.Vm
open Go.Proofs
open Go.Lib (decodeL decodeN decodeL_N decode_N decodeN_shape decodeL_le)
set_option linter.unusedVariables false
set_option linter.unusedSimpArgs false
theorem signs_ascii : ∀ s : By, (∀ b ∈ s, b.toNat < 128) → (signs s).map (·.1) = s.map fun b => (b.toNat : Int)
 | [], h => by rw [signs_nil]; rfl
 | c :: s, h => by
  rw [signs_one c (h c (List.mem_cons_self ..)), List.map_cons, List.map_cons, signs_ascii s fun b hb => h b (List.mem_cons_of_mem _ hb)]
end Go.Vm
/- Phrases: what the document fills is the plain text. No condition but on lengths. -/
namespace Go.Vm
open Go.Proofs
open Go.Lib (decodeL decodeN decodeL_N decode_N decodeN_shape decodeL_le)
set_option linter.unusedVariables false
set_option linter.unusedSimpArgs false
/-! ### members -/
end Go.Vm
/- Programs: what is to be done next, how many calls are ahead: plainly. No condition. -/
namespace Go.Vm
open Go.Proofs
set_option linter.unusedVariables false
set_option linter.unusedSimpArgs false
abbrev DoT := Int × Int × By × Int × By × Int × Int × Int × By × By × Unit
abbrev zDo : DoT := (0, 0, [], 0, [], 0, 0, 0, [], [], ())
abbrev tRef : By := [114, 101, 102, 117, 115, 101, 100, 32]
abbrev EnT.pt (e : EnT) : Int := e.2.2.2.2.2.1
abbrev EnT.tk (e : EnT) : Int := e.2.2.2.2.1
abbrev EnT.ep (e : EnT) : Int := e.2.2.2.1
def onlyT (s : By) (n : Int) : Bool := decide (((signs s).length : Int) ≤ n) && ((signs s).map (·.1)).all fun x => decide (1 ≤ sortI x ∧ sortI x ≤ 3)
def needT (body name : By) (n : Int) : Bool := (firstM name (objL (vP body))).2 && (decide (kindP (vP (firstM name (objL (vP body))).1) = 3) && (decide (1 ≤ numV (vP (firstM name (objL (vP body))).1)) && decide (numV (vP (firstM name (objL (vP body))).1) ≤ n)))
def passD (ok : Bool) (why : By) : DoT := if ok = true then (1, 0, [], 0, [], 0, 0, 0, [], [], ()) else (2, 402, tRef ++ why, 0, [], 0, 0, 0, [], [], ())
def doT (x : PhT) (e : EnT) : DoT :=
 if x.1 = 1 then passD (onlyT e.body x.2.2.1) wOnly
 else if x.1 = 2 then passD (needT e.body x.2.1 x.2.2.1) (wNeed ++ 32 :: x.2.1)
 else if x.1 = 3 then (3, 0, [], e.1, e.key, e.ep, e.pt, e.tk, x.2.1, fillT x.2.2.2.1 e, ())
 else (2, x.2.2.1, fillT x.2.2.2.1 e, 0, [], 0, 0, 0, [], [], ())
def nextT (p : List PhT) (e : EnT) : DoT × Int :=
 if mayG p = false then (zDo, 1) else if e.pt < 0 ∨ (p.length : Int) ≤ e.pt then (zDo, 6) else
 match p[e.pt.toNat]? with
 | none => (zDo, 6)
 | some x => (doT x e, 0)
/-! ### calls -/
def callsN (p : List PhT) (n : Nat) : Nat := ((p.take n).filter fun x => decide (x.1 = 3)).length
def callsT (p : List PhT) (point : Int) : Int := (callsN p point.toNat : Nat)
theorem callsN_succ {p : List PhT} {n : Nat} {x : PhT} (h : p[n]? = some x) : callsN p (n + 1) = callsN p n + if x.1 = 3 then 1 else 0 := by
 unfold callsN
 rw [List.take_add_one, h, List.filter_append, List.length_append]
 congr 1
 by_cases c : x.1 = 3 <;> simp [c]
theorem callsN_le (p : List PhT) (n : Nat) : callsN p n ≤ p.length := by
 unfold callsN
 have h1 := List.length_filter_le (fun x : PhT => decide (x.1 = 3)) (p.take n)
 rw [List.length_take] at h1
 omega
theorem callsN_all {p : List PhT} {n : Nat} (h : p.length ≤ n) : callsN p n = callsN p p.length := by
 unfold callsN
 rw [List.take_of_length_le h, List.take_of_length_le (Nat.le_refl _)]
end Go.Vm
/- Jobs: plainly: what is planned. No condition. -/
namespace Go.Vm
open Go.Proofs
set_option linter.unusedVariables false
set_option linter.unusedSimpArgs false
abbrev JbT := Int × Int × Int × By × Int × Int × Bool × Int × Unit
abbrev RpT := Int × By × Int × Int × Int × Int × Unit
abbrev AnT := Int × Int × Int × By × Int × Int × Unit
abbrev CaT := Int × By × Int × Int × Int × By × By × Unit
abbrev PlT := Int × Int × By × Int × Int × Int × Int × By × Int × Int × Int × By × By × By × By × Int × By × Int × Int × Int × By × By × Int × Int × Int × By × Int × Int × Unit
abbrev zCa : CaT := (0, [], 0, 0, 0, [], [], ())
abbrev zAn : AnT := (0, 0, 0, [], 0, 0, ())
def mkPl (k : Int) (e : Ent) (c : CaT) (a : AnT) : PlT :=
 (k, e.te, e.key, e.st, e.ep, e.tk, e.pt, e.pr, e.le, e.ex, e.su, e.tx, e.me, e.pa, e.bo, c.1, c.2.1, c.2.2.1, c.2.2.2.1, c.2.2.2.2.1, c.2.2.2.2.2.1, c.2.2.2.2.2.2.1, a.1, a.2.1, a.2.2.1, a.2.2.2.1, a.2.2.2.2.1, a.2.2.2.2.2.1, ())
abbrev zPl : PlT := mkPl 0 Ent.zero zCa zAn
abbrev JbT.cl (j : JbT) : Int := j.1
abbrev JbT.se (j : JbT) : Int := j.2.1
abbrev JbT.te (j : JbT) : Int := j.2.2.1
abbrev JbT.ky (j : JbT) : By := j.2.2.2.1
abbrev JbT.eo (j : JbT) : Int := j.2.2.2.2.1
abbrev JbT.to (j : JbT) : Int := j.2.2.2.2.2.1
abbrev JbT.wa (j : JbT) : Bool := j.2.2.2.2.2.2.1
abbrev JbT.ph (j : JbT) : Int := j.2.2.2.2.2.2.2.1
abbrev RpT.code (r : RpT) : Int := r.2.2.2.2.2.1
def mineE (j : JbT) (e : Ent) : Bool := decide (j.te = e.te) && (decide (j.ky = e.key) && (decide (j.eo = e.ep) && decide (j.to = e.tk)))
def ownsB (j : JbT) (e : Ent) (now : Int) : Bool := mineE j e && heldB e now
def mineB (j : JbT) (r : RpT) : Bool := j.wa && (decide (j.te = r.1) && (decide (j.ky = r.2.1) && (decide (j.eo = r.2.2.1) && (decide (j.ph = r.2.2.2.1) && decide (j.to = r.2.2.2.2.1)))))
def laterA (j : JbT) : AnT := (j.cl, j.se, 503, [], 1, 0, ())
def dropP (j : JbT) : PlT := mkPl 1 Ent.zero zCa (laterA j)
def putP (j : JbT) (k : Int) (x : Ent × Int) (a : AnT) : PlT := if x.2 = 0 then mkPl k x.1 zCa a else dropP j
abbrev DoT.ca (d : DoT) : CaT := d.2.2.2
def stepP (j : JbT) (e : Ent) (p : List PhT) (now : Int) (c : CfT) : PlT :=
 if ownsB j e now = false then dropP j else if j.wa = true then zPl
 else if (nextT p e.t).2 ≠ 0 then dropP j
 else if (nextT p e.t).1.1 = 3 then mkPl 2 Ent.zero (nextT p e.t).1.ca zAn
 else if (nextT p e.t).1.1 = 1 then putP j 3 (passE e j.to now c) zAn
 else putP j 4 (finE e j.to (nextT p e.t).1.2.1 (nextT p e.t).1.2.2.1 now c) (j.cl, j.se, (nextT p e.t).1.2.1, (nextT p e.t).1.2.2.1, 0, e.ep, ())
def hearP (j : JbT) (e : Ent) (p : List PhT) (r : RpT) (now : Int) (c : CfT) : PlT :=
 if mineB j r = false ∨ r.code < 1 ∨ 3 < r.code then zPl else if ownsB j e now = false then dropP j
 else if r.code = 1 then putP j 3 (passE e j.to now c) zAn
 else if r.code = 2 ∧ callsT p e.pt = 0 then putP j 4 (failE e j.to) (laterA j)
 else putP j 4 (relE e j.to now) (laterA j)
end Go.Vm
