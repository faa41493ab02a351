/- Entries read: what is read, plainly. No condition. -/
import Derived.Test.YtmbnnjpdpginlaaGreatDoorPe3
namespace Go.Vm
open Go Go.Proofs
set_option linter.unusedVariables false

def oTail (te : Int) (key : List UInt8) (st ep tk pt : Int) (pr : List UInt8) (le ex : Int) : OS → Ent × OS :=
  if st = 1 then obind (oText 8) fun me => obind (oText 60) fun pa => obind (oText 80) fun bo => oret ⟨te, key, st, ep, tk, pt, pr, le, ex, 0, [], me, pa, bo⟩
  else if st = 2 then obind (oNum 503) fun su => obind (oText 40) fun tx => oret ⟨te, key, st, ep, tk, pt, pr, le, ex, su, tx, [], [], []⟩
  else oret ⟨te, key, st, ep, tk, pt, pr, le, ex, 0, [], [], [], []⟩
def oEnt : OS → Ent × OS :=
  obind (oNum 4) fun te => obind (oText 24) fun key => obind (oNum 3) fun st => obind (oNum 1073741824) fun ep => obind (oNum 1073741824) fun tk => obind (oNum 5) fun pt =>
  obind (oRaw 32) fun pr => obind (oNum 1099511627776) fun le => obind (oNum 1099511627776) fun ex => oTail te key st ep tk pt pr le ex
def rTail (te : Int) (key : List UInt8) (st ep tk pt : Int) (pr : List UInt8) (le ex : Int) : OS → Ent × OS :=
  if st = 1 then obind rText fun me => obind rText fun pa => obind rText fun bo => oret ⟨te, key, st, ep, tk, pt, pr, le, ex, 0, [], me, pa, bo⟩
  else if st = 2 then obind rNum fun su => obind rText fun tx => oret ⟨te, key, st, ep, tk, pt, pr, le, ex, su, tx, [], [], []⟩
  else oret ⟨te, key, st, ep, tk, pt, pr, le, ex, 0, [], [], [], []⟩
def rEnt : OS → Ent × OS :=
  obind rNum fun te => obind rText fun key => obind rNum fun st => obind rNum fun ep => obind rNum fun tk => obind rNum fun pt =>
  obind (rRaw 32) fun pr => obind rNum fun le => obind rNum fun ex => rTail te key st ep tk pt pr le ex
theorem snd_oTail (te : Int) (key : List UInt8) (st ep tk pt : Int) (pr : List UInt8) (le ex : Int) : Snd (pTail true te key st ep tk pt pr le ex) (oTail te key st ep tk pt pr le ex) := by
  unfold pTail oTail
  refine Snd.ite ?_ (Snd.ite ?_ ?_)
  · exact Snd.bind (Snd.text 8) fun me => Snd.bind (Snd.text 60) fun pa => Snd.bind (Snd.text 80) fun bo => Snd.ret _
  · exact Snd.bind (Snd.num 503) fun su => Snd.bind (Snd.text 40) fun tx => Snd.ret _
  · exact Snd.ret _
theorem snd_oEnt : Snd (pEnt true) oEnt := by
  unfold pEnt oEnt
  exact Snd.bind (Snd.num 4) fun te => Snd.bind (Snd.text 24) fun key => Snd.bind (Snd.num 3) fun st => Snd.bind (Snd.num 1073741824) fun ep => Snd.bind (Snd.num 1073741824) fun tk => Snd.bind (Snd.num 5) fun pt =>
    Snd.bind (Snd.raw 32) fun pr => Snd.bind (Snd.num 1099511627776) fun le => Snd.bind (Snd.num 1099511627776) fun ex => snd_oTail te key st ep tk pt pr le ex
theorem snd_rTail (te : Int) (key : List UInt8) (st ep tk pt : Int) (pr : List UInt8) (le ex : Int) : Snd (pTail false te key st ep tk pt pr le ex) (rTail te key st ep tk pt pr le ex) := by
  unfold pTail rTail
  refine Snd.ite ?_ (Snd.ite ?_ ?_)
  · exact Snd.bind Snd.rtext fun me => Snd.bind Snd.rtext fun pa => Snd.bind Snd.rtext fun bo => Snd.ret _
  · exact Snd.bind Snd.rnum fun su => Snd.bind Snd.rtext fun tx => Snd.ret _
  · exact Snd.ret _
theorem snd_rEnt : Snd (pEnt false) rEnt := by
  unfold pEnt rEnt
  exact Snd.bind Snd.rnum fun te => Snd.bind Snd.rtext fun key => Snd.bind Snd.rnum fun st => Snd.bind Snd.rnum fun ep => Snd.bind Snd.rnum fun tk => Snd.bind Snd.rnum fun pt =>
    Snd.bind (Snd.rraw 32) fun pr => Snd.bind Snd.rnum fun le => Snd.bind Snd.rnum fun ex => snd_rTail te key st ep tk pt pr le ex
def rRec2 (k : Int) : OS → Ent × OS := if k = 1 then rEnt else obind rNum fun te => obind rText fun key => oret (Ent.nm te key)
def rRec : OS → (Int × Int × Ent) × OS := obind rNum fun one => obind rNum fun k => obind (rRec2 k) fun e => oret (one, k, e)
theorem snd_rRec : Snd (pRec false) rRec := by
  unfold pRec rRec
  refine Snd.bind Snd.rnum fun one => Snd.bind Snd.rnum fun k => Snd.bind ?_ fun e => Snd.ret _
  unfold pRec2 rRec2
  exact Snd.ite snd_rEnt (Snd.bind Snd.rnum fun te => Snd.bind Snd.rtext fun key => Snd.ret _)
def oRec2 (k : Int) : OS → Ent × OS := if k = 1 then oEnt else obind (oNum 4) fun te => obind (oText 24) fun key => oret (Ent.nm te key)
theorem snd_oRec2 (k : Int) : Snd (pRec2 true k) (oRec2 k) := by
  unfold pRec2 oRec2
  exact Snd.ite snd_oEnt (Snd.bind (Snd.num 4) fun te => Snd.bind (Snd.text 24) fun key => Snd.ret _)

/-- What the program tells of bytes that are an entry's, or none. -/
theorem open_cases (s : List UInt8) : (∃ e, oEnt (s, false) = (e, ([], false)) ∧ openE s = (if mayB e = true then some e else none)) ∨ ((oEnt (s, false)).2.2 = true ∧ openE s = none) ∨ (∃ e r, oEnt (s, false) = (e, (r, false)) ∧ r ≠ [] ∧ openE s = none) := by
  have hs := snd_oEnt.1 s
  unfold openE
  cases hp : pEnt true s with
  | none => exact .inr (.inl ⟨hs.2 hp, rfl⟩)
  | some x =>
    obtain ⟨e, r⟩ := x
    have := hs.1 e r hp
    cases r with
    | nil => exact .inl ⟨e, this, rfl⟩
    | cons c r => exact .inr (.inr ⟨e, c :: r, this, by simp, rfl⟩)
theorem ropen_cases (s : List UInt8) : (∃ e r, rEnt (s, false) = (e, (r, false)) ∧ openE s = (if mayB e = true ∧ bytesE e = s then some e else none)) ∨ ((rEnt (s, false)).2.2 = true ∧ openE s = none) := by
  have hs := snd_rEnt.1 s
  rw [← ropenE_eq]
  unfold ropenE
  cases hp : pEnt false s with
  | none => exact .inr ⟨hs.2 hp, rfl⟩
  | some x => exact .inl ⟨x.1, x.2, hs.1 x.1 x.2 hp, rfl⟩
theorem rparse_cases (s : List UInt8) : (∃ one k e r, rRec (s, false) = ((one, k, e), (r, false)) ∧ parseR s = (if one = 1 ∧ mayR k e = true ∧ bytesR k e = s then some (k, e) else none)) ∨ ((rRec (s, false)).2.2 = true ∧ parseR s = none) := by
  have hs := snd_rRec.1 s
  rw [← rparseR_eq]
  unfold rparseR
  cases hp : pRec false s with
  | none => exact .inr ⟨hs.2 hp, rfl⟩
  | some x => exact .inl ⟨x.1.1, x.1.2.1, x.1.2.2, x.2, hs.1 x.1 x.2 hp, rfl⟩
/-- Records: by steps. -/
theorem parse_cases (s : List UInt8) : ∃ one k s1 s2 b1 b2, oNum 1 (s, false) = (one, (s1, b1)) ∧ oNum 2 (s1, b1) = (k, (s2, b2)) ∧
    ((∃ e, oRec2 k (s2, b2) = (e, ([], false)) ∧ parseR s = (if one = 1 ∧ mayR k e = true then some (k, e) else none)) ∨ ((oRec2 k (s2, b2)).2.2 = true ∧ parseR s = none) ∨ (∃ e r, oRec2 k (s2, b2) = (e, (r, false)) ∧ r ≠ [] ∧ parseR s = none) ∨ (b2 = true ∧ parseR s = none)) := by
  obtain ⟨⟨one, s1, b1⟩, q1⟩ : ∃ x, x = oNum 1 (s, false) := ⟨_, rfl⟩
  obtain ⟨⟨k, s2, b2⟩, q2⟩ : ∃ x, x = oNum 2 (s1, b1) := ⟨_, rfl⟩
  refine ⟨one, k, s1, s2, b1, b2, q1.symm, q2.symm, ?_⟩
  have h1 := (Snd.num 1).1 s
  unfold parseR pRec pBind
  cases p1 : pNum (lm true 1) s with
  | none =>
    have f1 := h1.2 p1
    rw [← q1] at f1
    simp only at f1
    subst f1
    have f2 := (Snd.num 2).2 s1
    rw [← q2] at f2
    exact .inr (.inr (.inr ⟨f2, rfl⟩))
  | some x =>
    obtain ⟨o1, t1⟩ := x
    have e1 := h1.1 o1 t1 p1
    rw [← q1] at e1
    cases e1
    simp only [Option.bind_some]
    have h2 := (Snd.num 2).1 s1
    cases p2 : pNum (lm true 2) s1 with
    | none =>
      have f2 := h2.2 p2
      rw [← q2] at f2
      exact .inr (.inr (.inr ⟨f2, rfl⟩))
    | some y =>
      obtain ⟨k1, t2⟩ := y
      have e2 := h2.1 k1 t2 p2
      rw [← q2] at e2
      cases e2
      simp only [Option.bind_some]
      have h3 := (snd_oRec2 k).1 s2
      cases p3 : pRec2 true k s2 with
      | none => exact .inr (.inl ⟨h3.2 p3, rfl⟩)
      | some z =>
        obtain ⟨e, r⟩ := z
        have e3 := h3.1 e r p3
        cases r with
        | nil => exact .inl ⟨e, e3, rfl⟩
        | cons c r => exact .inr (.inr (.inl ⟨e, c :: r, e3, by simp, rfl⟩))

end Go.Vm
