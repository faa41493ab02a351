/- Entries, records, and their bytes: plain. No condition. -/
import Derived.Test.YtgeafoacmnlioaaDoorPe1
import Derived.Test.YtgeafoacmnlioaaDoorPc3
namespace Go.Vm
open Go Go.Proofs
set_option linter.unusedVariables false
/-! ### readers -/
abbrev OS : Type := List UInt8 × Bool
def pNum (lim : Nat) (s : List UInt8) : Option (Int × List UInt8) := match decN s with
  | some (n, r) => if n ≤ lim then some ((n : Int), r) else none
  | none => none
def pRaw (n : Nat) (s : List UInt8) : Option (List UInt8 × List UInt8) := if n ≤ s.length then some (s.take n, s.drop n) else none
def pBind {α β : Type} (p : List UInt8 → Option (α × List UInt8)) (q : α → List UInt8 → Option (β × List UInt8)) (s : List UInt8) : Option (β × List UInt8) := (p s).bind fun x => q x.1 x.2
def pText (lim : Nat) : List UInt8 → Option (List UInt8 × List UInt8) := pBind (pNum lim) fun n => pRaw n.toNat
def txt (s : List UInt8) : List UInt8 := numL s.length ++ s
theorem pBind_some {α β : Type} {p : List UInt8 → Option (α × List UInt8)} {q : α → List UInt8 → Option (β × List UInt8)} {s t : List UInt8} {a : α} (h : p s = some (a, t)) : pBind p q s = q a t := by unfold pBind; rw [h]; rfl
theorem pBind_inv {α β : Type} {p : List UInt8 → Option (α × List UInt8)} {q : α → List UInt8 → Option (β × List UInt8)} {s r : List UInt8} {b : β} (h : pBind p q s = some (b, r)) : ∃ a t, p s = some (a, t) ∧ q a t = some (b, r) := by
  unfold pBind at h
  obtain ⟨⟨a, t⟩, h1, h2⟩ := Option.bind_eq_some_iff.1 h
  exact ⟨a, t, h1, h2⟩
def obind {α β : Type} (op : OS → α × OS) (k : α → OS → β × OS) (st : OS) : β × OS := k (op st).1 (op st).2
def oret {α : Type} (a : α) (st : OS) : α × OS := (a, st)
def Snd {α : Type} (p : List UInt8 → Option (α × List UInt8)) (op : OS → α × OS) : Prop :=
  (∀ s, (∀ a r, p s = some (a, r) → op (s, false) = (a, (r, false))) ∧ (p s = none → (op (s, false)).2.2 = true)) ∧ ∀ s, (op (s, true)).2.2 = true
theorem Snd.bind {α β : Type} {p : List UInt8 → Option (α × List UInt8)} {op : OS → α × OS} {q : α → List UInt8 → Option (β × List UInt8)} {k : α → OS → β × OS} (h : Snd p op) (h' : ∀ a, Snd (q a) (k a)) : Snd (pBind p q) (obind op k) := by
  refine ⟨fun s => ⟨fun b r hb => ?_, fun hn => ?_⟩, fun s => ?_⟩
  · obtain ⟨a, t, h1, h2⟩ := pBind_inv hb
    have e := (h.1 s).1 a t h1
    unfold obind
    rw [e]
    exact ((h' a).1 t).1 b r h2
  · unfold obind
    cases hp : p s with
    | none =>
      have e := (h.1 s).2 hp
      generalize op (s, false) = x at e
      obtain ⟨a, t, b⟩ := x
      simp only at e
      subst e
      exact (h' a).2 t
    | some x =>
      obtain ⟨a, t⟩ := x
      rw [(h.1 s).1 a t hp]
      rw [pBind_some hp] at hn
      exact ((h' a).1 t).2 hn
  · unfold obind
    have e := h.2 s
    generalize op (s, true) = x at e
    obtain ⟨a, t, b⟩ := x
    simp only at e
    subst e
    exact (h' a).2 t
theorem Snd.ret {α : Type} (a : α) : Snd (fun s => some (a, s)) (oret a) := ⟨fun s => ⟨fun b r h => by simp only [Option.some.injEq, Prod.mk.injEq] at h; obtain ⟨rfl, rfl⟩ := h; rfl, fun h => by cases h⟩, fun s => rfl⟩
theorem Snd.ite {α : Type} {c : Prop} [Decidable c] {p q : List UInt8 → Option (α × List UInt8)} {o u : OS → α × OS} (h : Snd p o) (h' : Snd q u) : Snd (if c then p else q) (if c then o else u) := by split <;> assumption
def oRaw (n : Nat) (st : OS) : List UInt8 × OS := if st.2 = true ∨ st.1.length < n then ([], ([], true)) else (st.1.take n, (st.1.drop n, false))
def oNum (lim : Nat) (st : OS) : Int × OS := if st.2 = true then (0, ([], true)) else match decN st.1 with
  | some (n, r) => if n ≤ lim then ((n : Int), (r, false)) else (0, ([], true))
  | none => (0, ([], true))
def oText (lim : Nat) : OS → List UInt8 × OS := obind (oNum lim) fun n => oRaw n.toNat
theorem Snd.raw (n : Nat) : Snd (pRaw n) (oRaw n) := by
  refine ⟨fun s => ⟨fun a r h => ?_, fun h => ?_⟩, fun s => by unfold oRaw; rw [if_pos (.inl rfl)]⟩
  · unfold pRaw at h
    split at h
    · simp only [Option.some.injEq, Prod.mk.injEq] at h
      obtain ⟨rfl, rfl⟩ := h
      unfold oRaw
      rw [if_neg (by simp; omega)]
    · cases h
  · unfold pRaw at h
    split at h
    · cases h
    · unfold oRaw
      rw [if_pos (.inr (by simp only; omega))]
theorem Snd.num (lim : Nat) : Snd (pNum lim) (oNum lim) := by
  refine ⟨fun s => ⟨fun a r h => ?_, fun h => ?_⟩, fun s => by unfold oNum; rw [if_pos rfl]⟩
  · unfold pNum at h
    unfold oNum
    rw [if_neg (by simp)]
    simp only
    cases hd : decN s with
    | none => rw [hd] at h; cases h
    | some x =>
      obtain ⟨n, q⟩ := x
      rw [hd] at h
      simp only at h ⊢
      split at h
      · rename_i hl
        simp only [Option.some.injEq, Prod.mk.injEq] at h
        obtain ⟨rfl, rfl⟩ := h
        rw [if_pos hl]
      · cases h
  · unfold pNum at h
    unfold oNum
    rw [if_neg (by simp)]
    simp only
    cases hd : decN s with
    | none => rfl
    | some x =>
      obtain ⟨n, q⟩ := x
      rw [hd] at h
      simp only at h ⊢
      split at h
      · cases h
      · rename_i hl
        rw [if_neg hl]
theorem Snd.text (lim : Nat) : Snd (pText lim) (oText lim) := Snd.bind (Snd.num lim) fun n => Snd.raw n.toNat
structure Ent where
  te : Int
  key : List UInt8
  st : Int
  ep : Int
  tk : Int
  pt : Int
  pr : List UInt8
  le : Int
  ex : Int
  su : Int
  tx : List UInt8
  me : List UInt8
  pa : List UInt8
  bo : List UInt8
  deriving DecidableEq
abbrev En : Type := Int × List UInt8 × Int × Int × Int × Int × List UInt8 × Int × Int × Int × List UInt8 × List UInt8 × List UInt8 × List UInt8 × Unit
def Ent.t (e : Ent) : En := (e.te, e.key, e.st, e.ep, e.tk, e.pt, e.pr, e.le, e.ex, e.su, e.tx, e.me, e.pa, e.bo, ())
def Ent.zero : Ent := ⟨0, [], 0, 0, 0, 0, [], 0, 0, 0, [], [], [], []⟩
theorem keyF_len {k : List UInt8} (h : keyF k = true) : k.length ≤ 24 := by
  by_cases hk : k = [] ∨ 24 < k.length
  · rw [keyF_out hk] at h; cases h
  · by_cases h2 : 24 < k.length
    · exact absurd (.inr h2) hk
    · omega
def Ent.nm (te : Int) (key : List UInt8) : Ent := ⟨te, key, 0, 0, 0, 0, [], 0, 0, 0, [], [], [], []⟩
end Go.Vm
