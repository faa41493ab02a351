/- Entries, records, and their bytes: plain. No condition. -/
import Derived.Test.YtmbnnjpdpginlaaGreatDoorPe1
import Derived.Test.YtmbnnjpdpginlaaGreatDoorPc3
namespace Go.Vm
open Go Go.Proofs
set_option linter.unusedVariables false

/-! ### readers -/
abbrev OS : Type := List UInt8 × Bool
def pNum (lim : Nat) (s : List UInt8) : Option (Int × List UInt8) := match decN s with
  | some (n, r) => if n ≤ lim then some ((n : Int), r) else none
  | none => none
def pRaw (n : Nat) (s : List UInt8) : Option (List UInt8 × List UInt8) := if n ≤ s.length then some (s.take n, s.drop n) else none
def pBind {α β : Type} (p : List UInt8 → Option (α × List UInt8)) (q : α → List UInt8 → Option (β × List UInt8)) (s : List UInt8) : Option (β × List UInt8) := (p s).bind fun x => q x.1 x.2
def pText (lim : Nat) : List UInt8 → Option (List UInt8 × List UInt8) := pBind (pNum lim) fun n => pRaw n.toNat
def nI (n : Int) : List UInt8 := numL n.toNat
def txt (s : List UInt8) : List UInt8 := numL s.length ++ s

theorem pNum_num {lim : Nat} {n : Int} (r : List UInt8) (h0 : 0 ≤ n) (h : n ≤ (lim : Int)) (hl : lim ≤ 4611686018427387904) : pNum lim (nI n ++ r) = some (n, r) := by
  unfold pNum nI
  rw [decN_num _ r (by omega)]
  simp only
  rw [if_pos (by omega)]
  congr 2
  omega
theorem pNum_inv {lim : Nat} {n : Int} {s r : List UInt8} (h : pNum lim s = some (n, r)) : s = nI n ++ r ∧ 0 ≤ n ∧ n ≤ (lim : Int) := by
  unfold pNum at h
  cases hd : decN s with
  | none => rw [hd] at h; cases h
  | some x =>
    obtain ⟨m, q⟩ := x
    rw [hd] at h
    simp only at h
    split at h
    · simp only [Option.some.injEq, Prod.mk.injEq] at h
      obtain ⟨rfl, rfl⟩ := h
      refine ⟨?_, by omega, by omega⟩
      unfold nI
      rw [Int.toNat_natCast]
      exact (decN_inv hd).1
    · cases h
theorem pRaw_raw {n : Nat} {t : List UInt8} (r : List UInt8) (h : t.length = n) : pRaw n (t ++ r) = some (t, r) := by
  unfold pRaw
  subst h
  rw [if_pos (by simp)]
  simp
theorem pRaw_inv {n : Nat} {t s r : List UInt8} (h : pRaw n s = some (t, r)) : s = t ++ r ∧ t.length = n := by
  unfold pRaw at h
  split at h
  · simp only [Option.some.injEq, Prod.mk.injEq] at h
    obtain ⟨rfl, rfl⟩ := h
    exact ⟨by simp, by simp; omega⟩
  · cases h
theorem pBind_some {α β : Type} {p : List UInt8 → Option (α × List UInt8)} {q : α → List UInt8 → Option (β × List UInt8)} {s t : List UInt8} {a : α} (h : p s = some (a, t)) : pBind p q s = q a t := by unfold pBind; rw [h]; rfl
theorem pBind_inv {α β : Type} {p : List UInt8 → Option (α × List UInt8)} {q : α → List UInt8 → Option (β × List UInt8)} {s r : List UInt8} {b : β} (h : pBind p q s = some (b, r)) : ∃ a t, p s = some (a, t) ∧ q a t = some (b, r) := by
  unfold pBind at h
  obtain ⟨⟨a, t⟩, h1, h2⟩ := Option.bind_eq_some_iff.1 h
  exact ⟨a, t, h1, h2⟩
theorem pText_txt {lim : Nat} {t : List UInt8} (r : List UInt8) (h : t.length ≤ lim) (hl : lim ≤ 4611686018427387904) : pText lim (txt t ++ r) = some (t, r) := by
  unfold pText txt
  have h1 : pNum lim (numL t.length ++ (t ++ r)) = some ((t.length : Int), t ++ r) := by
    have := pNum_num (lim := lim) (n := (t.length : Int)) (t ++ r) (by omega) (by omega) hl
    unfold nI at this
    rwa [Int.toNat_natCast] at this
  rw [List.append_assoc, pBind_some h1, Int.toNat_natCast]
  exact pRaw_raw r rfl
theorem pText_inv {lim : Nat} {t s r : List UInt8} (h : pText lim s = some (t, r)) : s = txt t ++ r ∧ t.length ≤ lim := by
  obtain ⟨n, q, h1, h2⟩ := pBind_inv h
  obtain ⟨rfl, h0, hl⟩ := pNum_inv h1
  obtain ⟨rfl, h3⟩ := pRaw_inv h2
  refine ⟨?_, by omega⟩
  unfold txt nI
  rw [h3, List.append_assoc]

/-! ### readers that go on behind a fault -/
def obind {α β : Type} (op : OS → α × OS) (k : α → OS → β × OS) (st : OS) : β × OS := k (op st).1 (op st).2
def oret {α : Type} (a : α) (st : OS) : α × OS := (a, st)
def Snd {α : Type} (p : List UInt8 → Option (α × List UInt8)) (op : OS → α × OS) : Prop :=
  (∀ s, (∀ a r, p s = some (a, r) → op (s, false) = (a, (r, false))) ∧ (p s = none → (op (s, false)).2.2 = true)) ∧ ∀ s, (op (s, true)).2.2 = true
theorem Snd.bind {α β : Type} {p : List UInt8 → Option (α × List UInt8)} {op : OS → α × OS} {q : α → List UInt8 → Option (β × List UInt8)} {k : α → OS → β × OS} (h : Snd p op) (h' : ∀ a, Snd (q a) (k a)) : Snd (pBind p q) (obind op k) := by
  refine ⟨fun s => ⟨fun b r hb => ?_, fun hn => ?_⟩, fun s => ?_⟩
  · obtain ⟨a, t, h1, h2⟩ := pBind_inv hb
    have e := (h.1 s).1 a t h1
    unfold obind
    rw [e]
    exact ((h' a).1 t).1 b r h2
  · unfold obind
    cases hp : p s with
    | none =>
      have e := (h.1 s).2 hp
      generalize op (s, false) = x at e
      obtain ⟨a, t, b⟩ := x
      simp only at e
      subst e
      exact (h' a).2 t
    | some x =>
      obtain ⟨a, t⟩ := x
      rw [(h.1 s).1 a t hp]
      rw [pBind_some hp] at hn
      exact ((h' a).1 t).2 hn
  · unfold obind
    have e := h.2 s
    generalize op (s, true) = x at e
    obtain ⟨a, t, b⟩ := x
    simp only at e
    subst e
    exact (h' a).2 t
theorem Snd.ret {α : Type} (a : α) : Snd (fun s => some (a, s)) (oret a) := ⟨fun s => ⟨fun b r h => by simp only [Option.some.injEq, Prod.mk.injEq] at h; obtain ⟨rfl, rfl⟩ := h; rfl, fun h => by cases h⟩, fun s => rfl⟩
theorem Snd.ite {α : Type} {c : Prop} [Decidable c] {p q : List UInt8 → Option (α × List UInt8)} {o u : OS → α × OS} (h : Snd p o) (h' : Snd q u) : Snd (if c then p else q) (if c then o else u) := by split <;> assumption

/-- The program's. -/
def oRaw (n : Nat) (st : OS) : List UInt8 × OS := if st.2 = true ∨ st.1.length < n then ([], ([], true)) else (st.1.take n, (st.1.drop n, false))
def oNum (lim : Nat) (st : OS) : Int × OS := if st.2 = true then (0, ([], true)) else match decN st.1 with
  | some (n, r) => if n ≤ lim then ((n : Int), (r, false)) else (0, ([], true))
  | none => (0, ([], true))
def oText (lim : Nat) : OS → List UInt8 × OS := obind (oNum lim) fun n => oRaw n.toNat
theorem Snd.raw (n : Nat) : Snd (pRaw n) (oRaw n) := by
  refine ⟨fun s => ⟨fun a r h => ?_, fun h => ?_⟩, fun s => by unfold oRaw; rw [if_pos (.inl rfl)]⟩
  · unfold pRaw at h
    split at h
    · simp only [Option.some.injEq, Prod.mk.injEq] at h
      obtain ⟨rfl, rfl⟩ := h
      unfold oRaw
      rw [if_neg (by simp; omega)]
    · cases h
  · unfold pRaw at h
    split at h
    · cases h
    · unfold oRaw
      rw [if_pos (.inr (by simp only; omega))]
theorem Snd.num (lim : Nat) : Snd (pNum lim) (oNum lim) := by
  refine ⟨fun s => ⟨fun a r h => ?_, fun h => ?_⟩, fun s => by unfold oNum; rw [if_pos rfl]⟩
  · unfold pNum at h
    unfold oNum
    rw [if_neg (by simp)]
    simp only
    cases hd : decN s with
    | none => rw [hd] at h; cases h
    | some x =>
      obtain ⟨n, q⟩ := x
      rw [hd] at h
      simp only at h ⊢
      split at h
      · rename_i hl
        simp only [Option.some.injEq, Prod.mk.injEq] at h
        obtain ⟨rfl, rfl⟩ := h
        rw [if_pos hl]
      · cases h
  · unfold pNum at h
    unfold oNum
    rw [if_neg (by simp)]
    simp only
    cases hd : decN s with
    | none => rfl
    | some x =>
      obtain ⟨n, q⟩ := x
      rw [hd] at h
      simp only at h ⊢
      split at h
      · cases h
      · rename_i hl
        rw [if_neg hl]
theorem Snd.text (lim : Nat) : Snd (pText lim) (oText lim) := Snd.bind (Snd.num lim) fun n => Snd.raw n.toNat

/-- The document's. -/
def rRaw (n : Nat) (st : OS) : List UInt8 × OS := if st.2 = true ∨ st.1.length < n then ([], (st.1, true)) else (st.1.take n, (st.1.drop n, false))
def rNum (st : OS) : Int × OS := if (frst st.1).2 = 0 ∨ st.2 = true then (((frst st.1).1 : Int), (st.1, true)) else (((frst st.1).1 : Int), (st.1.drop (frst st.1).2, false))
def rText : OS → List UInt8 × OS := obind rNum fun n => rRaw n.toNat
theorem Snd.rraw (n : Nat) : Snd (pRaw n) (rRaw n) := by
  refine ⟨fun s => ⟨fun a r h => ?_, fun h => ?_⟩, fun s => by unfold rRaw; rw [if_pos (.inl rfl)]⟩
  · unfold pRaw at h
    split at h
    · simp only [Option.some.injEq, Prod.mk.injEq] at h
      obtain ⟨rfl, rfl⟩ := h
      unfold rRaw
      rw [if_neg (by simp; omega)]
    · cases h
  · unfold pRaw at h
    split at h
    · cases h
    · unfold rRaw
      rw [if_pos (.inr (by simp only; omega))]
theorem numL_pos (n : Nat) : 0 < (numL n).length := by unfold numL; simp
theorem Snd.rnum : Snd (pNum 4611686018427387904) rNum := by
  refine ⟨fun s => ⟨fun a r h => ?_, fun h => ?_⟩, fun s => by unfold rNum; rw [if_pos (.inr rfl)]⟩
  · unfold pNum at h
    cases hd : decN s with
    | none => rw [hd] at h; cases h
    | some x =>
      obtain ⟨n, q⟩ := x
      rw [hd] at h
      simp only at h
      split at h
      · rename_i hl
        simp only [Option.some.injEq, Prod.mk.injEq] at h
        obtain ⟨rfl, rfl⟩ := h
        have hf : frst s = (n, (numL n).length) := by unfold frst; rw [hd]; exact if_pos hl
        have hp := numL_pos n
        obtain ⟨rfl, _⟩ := decN_inv hd
        unfold rNum
        simp only [hf]
        rw [if_neg (fun h => h.elim (by omega) (by simp))]
        simp
      · cases h
  · have hf : frst s = (0, 0) := by
      unfold pNum at h
      unfold frst
      cases hd : decN s with
      | none => rfl
      | some x =>
        obtain ⟨n, q⟩ := x
        rw [hd] at h
        simp only at h ⊢
        split at h
        · cases h
        · rename_i hl
          exact if_neg hl
    unfold rNum
    simp only [hf]
    rw [if_pos (by simp)]
theorem Snd.rtext : Snd (pText 4611686018427387904) rText := Snd.bind Snd.rnum fun n => Snd.rraw n.toNat

/-! ### entries -/
structure Ent where
  te : Int
  key : List UInt8
  st : Int
  ep : Int
  tk : Int
  pt : Int
  pr : List UInt8
  le : Int
  ex : Int
  su : Int
  tx : List UInt8
  me : List UInt8
  pa : List UInt8
  bo : List UInt8
  deriving DecidableEq
abbrev En : Type := Int × List UInt8 × Int × Int × Int × Int × List UInt8 × Int × Int × Int × List UInt8 × List UInt8 × List UInt8 × List UInt8 × Unit
def Ent.t (e : Ent) : En := (e.te, e.key, e.st, e.ep, e.tk, e.pt, e.pr, e.le, e.ex, e.su, e.tx, e.me, e.pa, e.bo, ())
def Ent.zero : Ent := ⟨0, [], 0, 0, 0, 0, [], 0, 0, 0, [], [], [], []⟩
theorem Ent.t_inj {a b : Ent} (h : a.t = b.t) : a = b := by
  cases a; cases b
  simp only [Ent.t, Prod.mk.injEq] at h
  simp only [Ent.mk.injEq]
  exact ⟨h.1, h.2.1, h.2.2.1, h.2.2.2.1, h.2.2.2.2.1, h.2.2.2.2.2.1, h.2.2.2.2.2.2.1, h.2.2.2.2.2.2.2.1, h.2.2.2.2.2.2.2.2.1, h.2.2.2.2.2.2.2.2.2.1, h.2.2.2.2.2.2.2.2.2.2.1, h.2.2.2.2.2.2.2.2.2.2.2.1, h.2.2.2.2.2.2.2.2.2.2.2.2.1, h.2.2.2.2.2.2.2.2.2.2.2.2.2.1⟩
theorem Ent.t_surj (x : En) : ∃ e : Ent, e.t = x := by
  obtain ⟨a, b, c, d, e, f, g, h, i, j, k, l, m, n, ⟨⟩⟩ := x
  exact ⟨⟨a, b, c, d, e, f, g, h, i, j, k, l, m, n⟩, rfl⟩
def namedB (te : Int) (key : List UInt8) : Bool := decide (0 ≤ te ∧ te ≤ 3) && keyF key
def numsB (e : Ent) : Bool := decide (1 ≤ e.ep ∧ e.ep ≤ 1073741824 ∧ 1 ≤ e.tk ∧ e.tk ≤ 1073741824 ∧ 0 ≤ e.pt ∧ e.pt ≤ 5 ∧ e.pr.length = 32 ∧ 0 ≤ e.le ∧ e.le ≤ 1099511627776 ∧ 0 ≤ e.ex ∧ e.ex ≤ 1099511627776)
def askedB (e : Ent) : Bool := (methF e.me).2 && (pathF e.pa).2 && decide ((methF e.me).1 = e.me ∧ (pathF e.pa).1 = e.pa ∧ e.bo.length ≤ 80)
def restB (e : Ent) : Bool := if e.st = 1 then askedB e && decide (e.su = 0 ∧ e.tx = []) else decide (e.le = 0 ∧ e.me = [] ∧ e.pa = [] ∧ e.bo = []) &&
  (if e.st = 2 then decide ((e.su = 200 ∨ e.su = 201 ∨ e.su = 402) ∧ e.tx.length ≤ 40) else decide (e.st = 3 ∧ e.su = 0 ∧ e.tx = []))
def mayB (e : Ent) : Bool := namedB e.te e.key && numsB e && restB e

def bytesE (e : Ent) : List UInt8 := nI e.te ++ (txt e.key ++ (nI e.st ++ (nI e.ep ++ (nI e.tk ++ (nI e.pt ++ (e.pr ++ (nI e.le ++ (nI e.ex ++ (if e.st = 1 then txt e.me ++ (txt e.pa ++ txt e.bo) else if e.st = 2 then nI e.su ++ txt e.tx else [])))))))))
def lm (b : Bool) (n : Nat) : Nat := if b = true then n else 4611686018427387904
def pTail (b : Bool) (te : Int) (key : List UInt8) (st ep tk pt : Int) (pr : List UInt8) (le ex : Int) : List UInt8 → Option (Ent × List UInt8) :=
  if st = 1 then pBind (pText (lm b 8)) fun me => pBind (pText (lm b 60)) fun pa => pBind (pText (lm b 80)) fun bo s => some (⟨te, key, st, ep, tk, pt, pr, le, ex, 0, [], me, pa, bo⟩, s)
  else if st = 2 then pBind (pNum (lm b 503)) fun su => pBind (pText (lm b 40)) fun tx s => some (⟨te, key, st, ep, tk, pt, pr, le, ex, su, tx, [], [], []⟩, s)
  else fun s => some (⟨te, key, st, ep, tk, pt, pr, le, ex, 0, [], [], [], []⟩, s)
def pEnt (b : Bool) : List UInt8 → Option (Ent × List UInt8) :=
  pBind (pNum (lm b 4)) fun te => pBind (pText (lm b 24)) fun key => pBind (pNum (lm b 3)) fun st => pBind (pNum (lm b 1073741824)) fun ep => pBind (pNum (lm b 1073741824)) fun tk => pBind (pNum (lm b 5)) fun pt =>
  pBind (pRaw 32) fun pr => pBind (pNum (lm b 1099511627776)) fun le => pBind (pNum (lm b 1099511627776)) fun ex => pTail b te key st ep tk pt pr le ex

theorem keyF_len {k : List UInt8} (h : keyF k = true) : k.length ≤ 24 := by
  by_cases hk : k = [] ∨ 24 < k.length
  · rw [keyF_out hk] at h; cases h
  · by_cases h2 : 24 < k.length
    · exact absurd (.inr h2) hk
    · omega
theorem methF_len {m : List UInt8} (h : (methF m).2 = true) : m.length ≤ 8 := by
  by_cases hk : m = [] ∨ 8 < m.length
  · rw [methF_out hk] at h; cases h
  · by_cases h2 : 8 < m.length
    · exact absurd (.inr h2) hk
    · omega
theorem pathF_len {p : List UInt8} (h : (pathF p).2 = true) : p.length ≤ 60 := by
  cases p with
  | nil => simp
  | cons c t =>
    by_cases hk : 59 < t.length ∨ c ≠ 47
    · rw [pathF_out hk] at h; cases h
    · by_cases h2 : 59 < t.length
      · exact absurd (.inl h2) hk
      · simp; omega
theorem mayB_parts {e : Ent} (h : mayB e = true) : (0 ≤ e.te ∧ e.te ≤ 3) ∧ keyF e.key = true ∧ (1 ≤ e.ep ∧ e.ep ≤ 1073741824 ∧ 1 ≤ e.tk ∧ e.tk ≤ 1073741824 ∧ 0 ≤ e.pt ∧ e.pt ≤ 5 ∧ e.pr.length = 32 ∧ 0 ≤ e.le ∧ e.le ≤ 1099511627776 ∧ 0 ≤ e.ex ∧ e.ex ≤ 1099511627776) ∧
    ((e.st = 1 ∧ askedB e = true ∧ e.su = 0 ∧ e.tx = []) ∨ (e.st = 2 ∧ e.le = 0 ∧ e.me = [] ∧ e.pa = [] ∧ e.bo = [] ∧ (e.su = 200 ∨ e.su = 201 ∨ e.su = 402) ∧ e.tx.length ≤ 40) ∨ (e.st = 3 ∧ e.le = 0 ∧ e.me = [] ∧ e.pa = [] ∧ e.bo = [] ∧ e.su = 0 ∧ e.tx = [])) := by
  unfold mayB namedB numsB restB at h
  simp only [Bool.and_eq_true, decide_eq_true_eq] at h
  obtain ⟨⟨⟨h1, h2⟩, h3⟩, h4⟩ := h
  refine ⟨h1, h2, h3, ?_⟩
  split at h4
  · rename_i hs
    simp only [Bool.and_eq_true, decide_eq_true_eq] at h4
    exact .inl ⟨hs, h4.1, h4.2.1, h4.2.2⟩
  · simp only [Bool.and_eq_true, decide_eq_true_eq] at h4
    obtain ⟨⟨k1, k2, k3, k4⟩, h5⟩ := h4
    split at h5
    · rename_i hs
      simp only [decide_eq_true_eq] at h5
      exact .inr (.inl ⟨hs, k1, k2, k3, k4, h5.1, h5.2⟩)
    · simp only [decide_eq_true_eq] at h5
      exact .inr (.inr ⟨h5.1, k1, k2, k3, k4, h5.2.1, h5.2.2⟩)
theorem lm_le (b : Bool) (n : Nat) (h : n ≤ 4611686018427387904) : n ≤ lm b n ∧ lm b n ≤ 4611686018427387904 := by unfold lm; split <;> omega
theorem askedB_parts {e : Ent} (h : askedB e = true) : e.me.length ≤ 8 ∧ e.pa.length ≤ 60 ∧ e.bo.length ≤ 80 := by
  unfold askedB at h
  simp only [Bool.and_eq_true, decide_eq_true_eq] at h
  exact ⟨methF_len h.1.1, pathF_len h.1.2, h.2.2.2⟩

/-- What was packed is read again. -/
theorem pEnt_bytes (b : Bool) {e : Ent} (h : mayB e = true) (r : List UInt8) : pEnt b (bytesE e ++ r) = some (e, r) := by
  obtain ⟨h1, h2, h3, h4⟩ := mayB_parts h
  have hk := keyF_len h2
  have l4 := lm_le b 4 (by omega)
  have l24 := lm_le b 24 (by omega)
  have l3 := lm_le b 3 (by omega)
  have l30 := lm_le b 1073741824 (by omega)
  have l5 := lm_le b 5 (by omega)
  have l40 := lm_le b 1099511627776 (by omega)
  have l8 := lm_le b 8 (by omega)
  have l60 := lm_le b 60 (by omega)
  have l80 := lm_le b 80 (by omega)
  have l503 := lm_le b 503 (by omega)
  have lt := lm_le b 40 (by omega)
  have hst : 0 ≤ e.st ∧ e.st ≤ 3 := by rcases h4 with h | h | h <;> omega
  unfold pEnt bytesE
  simp only [List.append_assoc]
  rw [pBind_some (pNum_num _ h1.1 (by omega) l4.2), pBind_some (pText_txt _ (by omega) l24.2), pBind_some (pNum_num _ hst.1 (by omega) l3.2), pBind_some (pNum_num _ (by omega) (by omega) l30.2), pBind_some (pNum_num _ (by omega) (by omega) l30.2), pBind_some (pNum_num _ (by omega) (by omega) l5.2),
    pBind_some (pRaw_raw _ h3.2.2.2.2.2.2.1), pBind_some (pNum_num _ (by omega) (by omega) l40.2), pBind_some (pNum_num _ (by omega) (by omega) l40.2)]
  unfold pTail
  rcases h4 with ⟨hs, ha, hu, hx⟩ | ⟨hs, hle, hm, hp, hb, hu, hx⟩ | ⟨hs, hle, hm, hp, hb, hu, hx⟩
  · obtain ⟨a1, a2, a3⟩ := askedB_parts ha
    rw [if_pos hs, if_pos hs]
    simp only [List.append_assoc]
    rw [pBind_some (pText_txt _ (by omega) l8.2), pBind_some (pText_txt _ (by omega) l60.2), pBind_some (pText_txt _ (by omega) l80.2)]
    cases e
    simp only at hu hx ⊢
    rw [hu, hx]
  · rw [if_neg (by omega), if_pos hs, if_neg (by omega), if_pos hs]
    simp only [List.append_assoc]
    rw [pBind_some (pNum_num _ (by omega) (by omega) l503.2), pBind_some (pText_txt _ (by omega) lt.2)]
    cases e
    simp only at hm hp hb ⊢
    rw [hm, hp, hb]
  · rw [if_neg (by omega), if_neg (by omega), if_neg (by omega), if_neg (by omega), List.nil_append]
    cases e
    simp only at hm hp hb hu hx ⊢
    rw [hm, hp, hb, hu, hx]
theorem pEnt_inv {b : Bool} {s r : List UInt8} {e : Ent} (h : pEnt b s = some (e, r)) : s = bytesE e ++ r := by
  unfold pEnt at h
  obtain ⟨te, s1, h1, h⟩ := pBind_inv h
  obtain ⟨key, s2, h2, h⟩ := pBind_inv h
  obtain ⟨st, s3, h3, h⟩ := pBind_inv h
  obtain ⟨ep, s4, h4, h⟩ := pBind_inv h
  obtain ⟨tk, s5, h5, h⟩ := pBind_inv h
  obtain ⟨pt, s6, h6, h⟩ := pBind_inv h
  obtain ⟨pr, s7, h7, h⟩ := pBind_inv h
  obtain ⟨le, s8, h8, h⟩ := pBind_inv h
  obtain ⟨ex, s9, h9, h⟩ := pBind_inv h
  rw [(pNum_inv h1).1, (pText_inv h2).1, (pNum_inv h3).1, (pNum_inv h4).1, (pNum_inv h5).1, (pNum_inv h6).1, (pRaw_inv h7).1, (pNum_inv h8).1, (pNum_inv h9).1]
  unfold pTail at h
  split at h
  · rename_i hs
    obtain ⟨me, t1, g1, h⟩ := pBind_inv h
    obtain ⟨pa, t2, g2, h⟩ := pBind_inv h
    obtain ⟨bo, t3, g3, h⟩ := pBind_inv h
    simp only [Option.some.injEq, Prod.mk.injEq] at h
    obtain ⟨rfl, rfl⟩ := h
    rw [(pText_inv g1).1, (pText_inv g2).1, (pText_inv g3).1]
    unfold bytesE
    simp only [List.append_assoc]
    rw [if_pos hs]
    simp only [List.append_assoc]
  · rename_i hs1
    split at h
    · rename_i hs
      obtain ⟨su, t1, g1, h⟩ := pBind_inv h
      obtain ⟨tx, t2, g2, h⟩ := pBind_inv h
      simp only [Option.some.injEq, Prod.mk.injEq] at h
      obtain ⟨rfl, rfl⟩ := h
      rw [(pNum_inv g1).1, (pText_inv g2).1]
      unfold bytesE
      simp only [List.append_assoc]
      rw [if_neg hs1, if_pos hs]
      simp only [List.append_assoc]
    · rename_i hs
      simp only [Option.some.injEq, Prod.mk.injEq] at h
      obtain ⟨rfl, rfl⟩ := h
      unfold bytesE
      simp only [List.append_assoc]
      rw [if_neg hs1, if_neg hs, List.nil_append]

/-- The entry that has these bytes. -/
def openE (s : List UInt8) : Option Ent := match pEnt true s with
  | some (e, []) => if mayB e = true then some e else none
  | _ => none
theorem openE_iff (s : List UInt8) (e : Ent) : openE s = some e ↔ mayB e = true ∧ bytesE e = s := by
  constructor
  · intro h
    unfold openE at h
    cases hp : pEnt true s with
    | none => rw [hp] at h; cases h
    | some x =>
      obtain ⟨e', r⟩ := x
      rw [hp] at h
      cases r with
      | cons c r => cases h
      | nil =>
        simp only at h
        split at h
        · rename_i hm
          cases h
          exact ⟨hm, by rw [pEnt_inv hp, List.append_nil]⟩
        · cases h
  · rintro ⟨hm, rfl⟩
    have := pEnt_bytes true hm []
    rw [List.append_nil] at this
    unfold openE
    rw [this]
    exact if_pos hm
def ropenE (s : List UInt8) : Option Ent := match pEnt false s with
  | some (e, _) => if mayB e = true ∧ bytesE e = s then some e else none
  | none => none
theorem ropenE_eq (s : List UInt8) : ropenE s = openE s := by
  cases ho : openE s with
  | some e =>
    obtain ⟨h1, h2⟩ := (openE_iff s e).1 ho
    have := pEnt_bytes false h1 []
    rw [List.append_nil, h2] at this
    unfold ropenE
    rw [this]
    exact if_pos ⟨h1, h2⟩
  | none =>
    cases hr : ropenE s with
    | none => rfl
    | some e =>
      unfold ropenE at hr
      cases hp : pEnt false s with
      | none => rw [hp] at hr; cases hr
      | some x =>
        obtain ⟨e', r⟩ := x
        rw [hp] at hr
        simp only at hr
        split at hr
        · rename_i hm
          have := (openE_iff s e').2 hm
          rw [ho] at this
          cases this
        · cases hr
theorem bytes_free {a b : Ent} {r : List UInt8} (ha : mayB a = true) (hb : mayB b = true) (h : bytesE b = bytesE a ++ r) : a = b ∧ r = [] := by
  have h1 := pEnt_bytes false ha r
  have h2 := pEnt_bytes false hb []
  rw [List.append_nil, h, h1] at h2
  simp only [Option.some.injEq, Prod.mk.injEq] at h2
  exact h2

theorem numL_le (k n : Nat) (hk : 1 ≤ k) (h : n < 128 ^ k) : (numL n).length ≤ k := by
  obtain ⟨j, rfl⟩ : ∃ j, k = j + 1 := ⟨k - 1, by omega⟩
  have := hiL_len j (n / 128) (by rw [Nat.div_lt_iff_lt_mul (by omega), ← Nat.pow_succ]; exact h)
  unfold numL
  simp
  omega
theorem nI_le (k : Nat) (n : Int) (m : Nat) (hk : 1 ≤ k) (h : n ≤ (m : Int)) (hm : m < 128 ^ k) : (nI n).length ≤ k := numL_le k _ hk (by omega)
theorem txt_le (k : Nat) (t : List UInt8) (h : t.length ≤ k) (hk : k < 128) : (txt t).length ≤ k + 1 := by
  have := numL_le 1 t.length (Nat.le_refl _) (by omega)
  unfold txt
  simp
  omega
theorem bytesE_len {e : Ent} (h : mayB e = true) : (bytesE e).length ≤ 233 := by
  obtain ⟨h1, h2, h3, h4⟩ := mayB_parts h
  have hk := keyF_len h2
  have n1 := nI_le 1 e.te 3 (by omega) (by omega) (by decide)
  have n2 := txt_le 24 e.key hk (by omega)
  have n3 := nI_le 1 e.st 3 (by omega) (by rcases h4 with h | h | h <;> omega) (by decide)
  have n4 := nI_le 5 e.ep 1073741824 (by omega) (by omega) (by decide)
  have n5 := nI_le 5 e.tk 1073741824 (by omega) (by omega) (by decide)
  have n6 := nI_le 1 e.pt 5 (by omega) (by omega) (by decide)
  have n7 := nI_le 6 e.le 1099511627776 (by omega) (by omega) (by decide)
  have n8 := nI_le 6 e.ex 1099511627776 (by omega) (by omega) (by decide)
  have hp := h3.2.2.2.2.2.2.1
  unfold bytesE
  simp only [List.length_append]
  have tl : (if e.st = 1 then txt e.me ++ (txt e.pa ++ txt e.bo) else if e.st = 2 then nI e.su ++ txt e.tx else []).length ≤ 151 := by
    rcases h4 with ⟨hs, ha, hu, hx⟩ | ⟨hs, hle, hm, hp, hb, hu, hx⟩ | ⟨hs, hle, hm, hp, hb, hu, hx⟩
    · obtain ⟨a1, a2, a3⟩ := askedB_parts ha
      have t1 := txt_le 8 e.me a1 (by omega)
      have t2 := txt_le 60 e.pa a2 (by omega)
      have t3 := txt_le 80 e.bo a3 (by omega)
      rw [if_pos hs]
      simp only [List.length_append]
      omega
    · have t1 := nI_le 2 e.su 402 (by omega) (by omega) (by decide)
      have t2 := txt_le 40 e.tx hx (by omega)
      rw [if_neg (by omega), if_pos hs]
      simp only [List.length_append]
      omega
    · rw [if_neg (by omega), if_neg (by omega)]
      simp
  omega

/-! ### records -/
def Ent.nm (te : Int) (key : List UInt8) : Ent := ⟨te, key, 0, 0, 0, 0, [], 0, 0, 0, [], [], [], []⟩
def mayR (k : Int) (e : Ent) : Bool := if k = 1 then mayB e else decide (k = 2) && namedB e.te e.key && decide (e = Ent.nm e.te e.key)
def bytesR (k : Int) (e : Ent) : List UInt8 := nI 1 ++ (nI k ++ (if k = 1 then bytesE e else nI e.te ++ txt e.key))
def pRec2 (b : Bool) (k : Int) : List UInt8 → Option (Ent × List UInt8) := if k = 1 then pEnt b else pBind (pNum (lm b 4)) fun te => pBind (pText (lm b 24)) fun key s => some (Ent.nm te key, s)
def pRec (b : Bool) : List UInt8 → Option ((Int × Int × Ent) × List UInt8) :=
  pBind (pNum (lm b 1)) fun one => pBind (pNum (lm b 2)) fun k => pBind (pRec2 b k) fun e s => some ((one, k, e), s)
theorem mayR_two {k : Int} {e : Ent} (h : mayR k e = true) (hk : k ≠ 1) : k = 2 ∧ namedB e.te e.key = true ∧ e = Ent.nm e.te e.key := by
  unfold mayR at h
  rw [if_neg hk] at h
  simp only [Bool.and_eq_true, decide_eq_true_eq] at h
  exact ⟨h.1.1, h.1.2, h.2⟩
theorem namedB_parts {te : Int} {key : List UInt8} (h : namedB te key = true) : 0 ≤ te ∧ te ≤ 3 ∧ key.length ≤ 24 := by
  unfold namedB at h
  simp only [Bool.and_eq_true, decide_eq_true_eq] at h
  exact ⟨h.1.1, h.1.2, keyF_len h.2⟩
theorem pRec_bytes (b : Bool) {k : Int} {e : Ent} (h : mayR k e = true) (r : List UInt8) : pRec b (bytesR k e ++ r) = some ((1, k, e), r) := by
  have l1 := lm_le b 1 (by omega)
  have l2 := lm_le b 2 (by omega)
  have l4 := lm_le b 4 (by omega)
  have l24 := lm_le b 24 (by omega)
  have hk : 0 ≤ k ∧ k ≤ 2 := by
    by_cases h1 : k = 1
    · omega
    · have := (mayR_two h h1).1; omega
  unfold pRec bytesR
  simp only [List.append_assoc]
  rw [pBind_some (pNum_num _ (by omega) (by omega) l1.2), pBind_some (pNum_num _ hk.1 (by omega) l2.2)]
  have h2 : pRec2 b k ((if k = 1 then bytesE e else nI e.te ++ txt e.key) ++ r) = some (e, r) := by
    unfold pRec2
    by_cases h1 : k = 1
    · have hm : mayB e = true := by unfold mayR at h; rwa [if_pos h1] at h
      rw [if_pos h1, if_pos h1]
      exact pEnt_bytes b hm r
    · obtain ⟨_, hn, he⟩ := mayR_two h h1
      obtain ⟨n1, n2, n3⟩ := namedB_parts hn
      rw [if_neg h1, if_neg h1, List.append_assoc, pBind_some (pNum_num _ n1 (by omega) l4.2), pBind_some (pText_txt _ (by omega) l24.2), ← he]
  rw [pBind_some h2]
theorem pRec_inv {b : Bool} {s r : List UInt8} {one k : Int} {e : Ent} (h : pRec b s = some ((one, k, e), r)) (h1 : one = 1) : s = bytesR k e ++ r := by
  unfold pRec at h
  obtain ⟨a1, s1, g1, h⟩ := pBind_inv h
  obtain ⟨a2, s2, g2, h⟩ := pBind_inv h
  obtain ⟨e', s3, g3, h⟩ := pBind_inv h
  simp only [Option.some.injEq, Prod.mk.injEq] at h
  obtain ⟨⟨rfl, rfl, rfl⟩, rfl⟩ := h
  subst h1
  rw [(pNum_inv g1).1, (pNum_inv g2).1]
  unfold bytesR
  simp only [List.append_assoc]
  unfold pRec2 at g3
  split at g3
  · rename_i hk
    rw [if_pos hk, pEnt_inv g3]
  · rename_i hk
    obtain ⟨te, t1, q1, g3⟩ := pBind_inv g3
    obtain ⟨key, t2, q2, g3⟩ := pBind_inv g3
    simp only [Option.some.injEq, Prod.mk.injEq] at g3
    obtain ⟨rfl, rfl⟩ := g3
    rw [if_neg hk, (pNum_inv q1).1, (pText_inv q2).1, List.append_assoc]
    rfl
def parseR (s : List UInt8) : Option (Int × Ent) := match pRec true s with
  | some ((one, k, e), []) => if one = 1 ∧ mayR k e = true then some (k, e) else none
  | _ => none
theorem parseR_iff (s : List UInt8) (k : Int) (e : Ent) : parseR s = some (k, e) ↔ mayR k e = true ∧ bytesR k e = s := by
  constructor
  · intro h
    unfold parseR at h
    cases hp : pRec true s with
    | none => rw [hp] at h; cases h
    | some x =>
      obtain ⟨⟨one, k', e'⟩, r⟩ := x
      rw [hp] at h
      cases r with
      | cons c r => cases h
      | nil =>
        simp only at h
        split at h
        · rename_i hm
          cases h
          exact ⟨hm.2, by rw [pRec_inv hp hm.1, List.append_nil]⟩
        · cases h
  · rintro ⟨hm, rfl⟩
    have := pRec_bytes true hm []
    rw [List.append_nil] at this
    unfold parseR
    rw [this]
    exact if_pos ⟨rfl, hm⟩
def rparseR (s : List UInt8) : Option (Int × Ent) := match pRec false s with
  | some ((one, k, e), _) => if one = 1 ∧ mayR k e = true ∧ bytesR k e = s then some (k, e) else none
  | none => none
theorem rparseR_eq (s : List UInt8) : rparseR s = parseR s := by
  cases ho : parseR s with
  | some x =>
    obtain ⟨k, e⟩ := x
    obtain ⟨h1, h2⟩ := (parseR_iff s k e).1 ho
    have := pRec_bytes false h1 []
    rw [List.append_nil, h2] at this
    unfold rparseR
    rw [this]
    exact if_pos ⟨rfl, h1, h2⟩
  | none =>
    cases hr : rparseR s with
    | none => rfl
    | some x =>
      unfold rparseR at hr
      cases hp : pRec false s with
      | none => rw [hp] at hr; cases hr
      | some y =>
        obtain ⟨⟨one, k', e'⟩, r⟩ := y
        rw [hp] at hr
        simp only at hr
        split at hr
        · rename_i hm
          have := (parseR_iff s k' e').2 hm.2
          rw [ho] at this
          cases this
        · cases hr
theorem bytesR_len {k : Int} {e : Ent} (h : mayR k e = true) : (bytesR k e).length ≤ 235 := by
  have n1 := nI_le 1 1 1 (by omega) (by omega) (by decide)
  unfold bytesR
  simp only [List.length_append]
  by_cases h1 : k = 1
  · have hm : mayB e = true := by unfold mayR at h; rwa [if_pos h1] at h
    have n2 := nI_le 1 k 1 (by omega) (by omega) (by decide)
    have := bytesE_len hm
    rw [if_pos h1]
    omega
  · obtain ⟨h2, hn, he⟩ := mayR_two h h1
    obtain ⟨m1, m2, m3⟩ := namedB_parts hn
    have n2 := nI_le 1 k 2 (by omega) (by omega) (by decide)
    have n3 := nI_le 1 e.te 3 (by omega) (by omega) (by decide)
    have n4 := txt_le 24 e.key m3 (by omega)
    rw [if_neg h1, List.length_append]
    omega

end Go.Vm
