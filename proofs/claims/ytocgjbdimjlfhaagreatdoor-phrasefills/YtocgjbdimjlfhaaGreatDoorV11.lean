/- Part 11 of an abstract value machine: a framework of this session's own, in which functions of the program are run once and for all inputs. No condition. -/
import Derived.Test.YtocgjbdimjlfhaaGreatDoorV10
import Derived.Test.YtocgjbdimjlfhaaGreatDoorV7
import Derived.Shelf.Strconv.Itoa3
import Derived.Shelf.Strconv.AtoiAll
import Derived.Shelf.Strings.Search2
import Derived.Shelf.Strings.OnBuilder
import Derived.Handed
import Derived.SizedLaws
import Derived.Shelf.Vars
/- The abstract value machine: strconv's Itoa, Atoi of any text; strings.Join; where one text stands in another. -/
namespace Go.Vm
open Go.Proofs Go.Shelf Go.RowKit Go.Sort Go.Lib
set_option linter.unusedVariables false
def IntVars (l : List Nat) (w : World) : Prop := ∀ g ∈ l, ∃ m, w.cell? ⟨g, 0, none⟩ = some (.int .i64 m)
theorem intvars_on {l : List Nat} {gb : Nat} (hl : ∀ g ∈ l, g < gb) (w w' : World) (h : IntVars l w) (hw : ∀ b, b < gb → w'.heap[b]? = w.heap[b]?) : IntVars l w' := by
 intro g hg
 obtain ⟨m, hm⟩ := h g hg
 exact ⟨m, by rw [cell_agree (hw g (hl g hg))]; exact hm⟩
section
variable {P : Program} {ρ : Ren} {kt : KT}
end
end Go.Vm
