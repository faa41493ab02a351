/- Pages, plainly: sorted by a key, the first one of each key, some at a time; gone over page by page. No condition. -/
import Derived.Test.YtgeafoacmnlioaaDoorPbase
namespace Go.Vm
set_option linter.unusedVariables false
set_option linter.unusedSimpArgs false
set_option linter.unusedSectionVars false
structure OrdK {K : Type} (lt : K → K → Bool) : Prop where
  irr : ∀ a, lt a a = false
  trn : ∀ a b c, lt a b = true → lt b c = true → lt a c = true
  tot : ∀ a b, lt a b = false → lt b a = false → a = b
section
variable {E K : Type} [DecidableEq K] (key : E → K) (lt : K → K → Bool)
def insS (x : E) : List E → List E
  | [] => [x]
  | y :: l => if lt (key y) (key x) = true then y :: insS x l else x :: y :: l
def putS (x : E) : List E → List E
  | [] => [x]
  | y :: l => if lt (key y) (key x) = true then y :: putS x l else x :: y :: l
def leS : List E → Prop
  | [] => True
  | x :: l => (∀ y ∈ l, lt (key y) (key x) = false) ∧ leS l
variable {key lt}
theorem insS_mem (x z : E) : ∀ l : List E, z ∈ insS key lt x l ↔ z = x ∨ z ∈ l
  | [] => by simp [insS]
  | y :: l => by
    unfold insS
    split
    · rw [List.mem_cons, insS_mem x z l, List.mem_cons]; grind
    · simp
theorem insS_le (ho : OrdK lt) (x : E) : ∀ l : List E, leS key lt l → leS key lt (insS key lt x l)
  | [], _ => ⟨fun y h => (by cases h), trivial⟩
  | y :: l, h => by
    unfold insS
    split
    · rename_i hc
      refine ⟨fun z hz => ?_, insS_le ho x l h.2⟩
      rcases (insS_mem x z l).1 hz with rfl | hz
      · by_cases e : lt (key z) (key y) = true
        · have := ho.trn _ _ _ hc e
          rw [ho.irr] at this; cases this
        · simpa using e
      · exact h.1 z hz
    · rename_i hc
      refine ⟨fun z hz => ?_, h⟩
      rcases List.mem_cons.1 hz with rfl | hz
      · simpa using hc
      · by_cases e : lt (key z) (key x) = true
        · have hz1 := h.1 z hz
          -- z < x ≤ y
          by_cases e2 : lt (key x) (key y) = true
          · have := ho.trn _ _ _ e e2
            rw [hz1] at this; cases this
          · have e3 : key x = key y := ho.tot _ _ (by simpa using e2) (by simpa using hc)
            rw [e3, hz1] at e; cases e
        · simpa using e
end
end Go.Vm
