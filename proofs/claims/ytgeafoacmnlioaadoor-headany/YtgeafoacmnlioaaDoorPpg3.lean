/- Stable sorting, plainly: what is sorted and keeps the order of equals is one list; swaps, turns and merges keep it. No condition. -/
import Derived.Test.YtgeafoacmnlioaaDoorPpg2
namespace Go.Vm
set_option linter.unusedVariables false
set_option linter.unusedSimpArgs false
set_option linter.unusedSectionVars false
section
variable {E K : Type} [DecidableEq K] {key : E → K} {lt : K → K → Bool}
def filS (key : E → K) (k : K) (l : List E) : List E := l.filter (fun e => decide (key e = k))
def SamS (key : E → K) (l r : List E) : Prop := ∀ k, filS key k l = filS key k r
theorem SamS.symm {l r : List E} (h : SamS key l r) : SamS key r l := fun k => (h k).symm
theorem SamS.trans {l r s : List E} (h : SamS key l r) (h' : SamS key r s) : SamS key l s := fun k => (h k).trans (h' k)
theorem filS_app (k : K) (a b : List E) : filS key k (a ++ b) = filS key k a ++ filS key k b := List.filter_append ..
theorem filS_cons (k : K) (x : E) (l : List E) : filS key k (x :: l) = if key x = k then x :: filS key k l else filS key k l := by
  unfold filS
  rw [List.filter_cons]
  by_cases h : key x = k
  · simp [h]
  · simp [h]
theorem filS_none {k : K} {l : List E} (h : ∀ y ∈ l, key y ≠ k) : filS key k l = [] := by
  unfold filS
  rw [List.filter_eq_nil_iff]
  intro y hy
  simpa using h y hy
theorem filS_mem {k : K} {l : List E} {x : E} : x ∈ filS key k l ↔ x ∈ l ∧ key x = k := by
  unfold filS
  rw [List.mem_filter]; simp
theorem SamS.app {a b c d : List E} (h : SamS key a c) (h' : SamS key b d) : SamS key (a ++ b) (c ++ d) := fun k => by
  rw [filS_app, filS_app, h k, h' k]
theorem SamS.mem {l r : List E} (h : SamS key l r) (x : E) : x ∈ l ↔ x ∈ r := by
  have := h (key x)
  constructor
  · intro hx
    have h1 : x ∈ filS key (key x) l := filS_mem.2 ⟨hx, rfl⟩
    rw [this] at h1
    exact (filS_mem.1 h1).1
  · intro hx
    have h1 : x ∈ filS key (key x) r := filS_mem.2 ⟨hx, rfl⟩
    rw [← this] at h1
    exact (filS_mem.1 h1).1
theorem SamS.turn {v w : List E} (h : ∀ y ∈ w, ∀ z ∈ v, key y ≠ key z) : SamS key (v ++ w) (w ++ v) := fun k => by
  rw [filS_app, filS_app]
  by_cases hv : ∃ z ∈ v, key z = k
  · obtain ⟨z, hz, e⟩ := hv
    rw [filS_none (l := w) (fun y hy => e ▸ h y hy z hz), List.append_nil, List.nil_append]
  · rw [filS_none (l := v) (fun z hz e => hv ⟨z, hz, e⟩), List.append_nil, List.nil_append]
theorem sorted_one (ho : OrdK lt) : ∀ (a b : List E), leS key lt a → leS key lt b → SamS key a b → a = b
  | [], [], _, _, _ => rfl
  | [], y :: b, _, _, h => by
    have := (h.mem y).2 List.mem_cons_self
    cases this
  | x :: a, [], _, _, h => by
    have := (h.mem x).1 List.mem_cons_self
    cases this
  | x :: a, y :: b, ha, hb, h => by
    have hk : key x = key y := by
      have m1 := (h.mem x).1 List.mem_cons_self
      have m2 := (h.mem y).2 List.mem_cons_self
      rcases List.mem_cons.1 m1 with e | m1
      · rw [e]
      rcases List.mem_cons.1 m2 with e | m2
      · rw [e]
      exact ho.tot _ _ (hb.1 x m1) (ha.1 y m2)
    have hf := h (key x)
    rw [filS_cons, if_pos rfl, filS_cons, if_pos hk.symm] at hf
    obtain ⟨rfl, _⟩ := List.cons.inj hf
    congr 1
    refine sorted_one ho a b ha.2 hb.2 (fun k => ?_)
    have h1 := h k
    rw [filS_cons, filS_cons] at h1
    by_cases e : key x = k
    · rw [if_pos e, if_pos e] at h1
      exact (List.cons.inj h1).2
    · rw [if_neg e, if_neg e] at h1; exact h1
end
end Go.Vm
