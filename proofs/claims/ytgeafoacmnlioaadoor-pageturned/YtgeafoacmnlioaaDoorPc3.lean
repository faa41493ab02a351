/- Paths: plain. No condition. -/
import Derived.Test.YtgeafoacmnlioaaDoorPc2
namespace Go.Vm
open Go Go.Proofs
set_option linter.unusedVariables false
/-! ### cut at each stroke -/
def Few (n : Nat) (l : List (List UInt8)) : Prop := l.length ≤ n ∧ ∀ q ∈ l, q.length ≤ 1000
theorem Few.take {n : Nat} {l : List (List UInt8)} (h : Few n l) (k : Nat) : Few n (l.take k) := ⟨by have := h.1; simp; omega, fun q hq => h.2 q (List.mem_of_mem_take hq)⟩
theorem Few.add {n : Nat} {l : List (List UInt8)} (h : Few n l) {q : List UInt8} (hq : q.length ≤ 1000) : Few (n + 1) (l ++ [q]) := ⟨by have := h.1; simp; omega, fun x hx => by
  rcases List.mem_append.1 hx with hx | hx
  · exact h.2 x hx
  · simp at hx; subst hx; exact hq⟩
theorem Few.mono {n m : Nat} {l : List (List UInt8)} (h : Few n l) (hm : n ≤ m) : Few m l := ⟨Nat.le_trans h.1 hm, h.2⟩
end Go.Vm
