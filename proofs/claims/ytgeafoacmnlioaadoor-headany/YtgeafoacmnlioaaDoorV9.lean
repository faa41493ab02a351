/- Part 9 of an abstract value machine: a framework of this session's own, in which functions of the program are run once and for all inputs. No condition. -/
import Derived.Test.YtgeafoacmnlioaaDoorV8
import Derived.Shelf.Unicode.ValidAny
import Derived.Lib.LaidU8T
/- The abstract value machine: unicode/utf8's ValidString, and its tables. -/
namespace Go.Vm
open Go.Proofs Go.Shelf Go.RowKit
set_option linter.unusedVariables false
variable {P : Program} {ρ : Ren}
theorem utf8_on {g3 g4 gb : Nat} (h3 : g3 < gb) (h4 : g4 < gb) (w w' : World) (h : Lib.Utf8Tabs g3 g4 w) (hw : ∀ b, b < gb → w'.heap[b]? = w.heap[b]?) : Lib.Utf8Tabs g3 g4 w' := by
  refine ⟨fun c hc => ?_, fun i hi => ?_⟩
  · rw [cell_agree (hw g3 h3)]; exact h.1 c hc
  · rw [cell_agree (hw g4 h4), cell_agree (hw g4 h4)]; exact h.2 i hi
theorem utf8_of_laid (L : U8Types P ρ) (X : U8Extra P ρ) {w : World} {l : List (String × DataW Unit)} (hm : laidMet P l w) (h3 : ("unicode/utf8.first", Lib.firstData) ∈ l) (h4 : ("unicode/utf8.acceptRanges", Lib.acceptData) ∈ l) : Lib.Utf8Tabs (ρ.g 3) (ρ.g 4) w := by
  obtain ⟨ps, hl, _⟩ := hm
  exact utf8Tabs_of_readsT L X (Lib.LaidVars_reads hl _ _ h3) (Lib.LaidVars_reads hl _ _ h4)
theorem cell_lt {w : World} {g o : Nat} {v : Value} (h : w.cell? ⟨g, o, none⟩ = some v) : g < w.heap.size := by
  unfold World.cell? at h
  by_cases hg : g < w.heap.size
  · exact hg
  · rw [Array.getElem?_eq_none (Nat.le_of_not_lt hg)] at h
    cases h
theorem utf8_sz1 {g3 g4 : Nat} {w : World} (h : Lib.Utf8Tabs g3 g4 w) : g4 < w.heap.size := cell_lt (h.2 0 (by decide)).1
section
variable {kt : KT}
end
end Go.Vm
