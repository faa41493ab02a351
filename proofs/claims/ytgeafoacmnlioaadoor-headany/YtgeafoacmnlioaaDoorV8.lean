/- Part 8 of an abstract value machine: a framework of this session's own, in which functions of the program are run once and for all inputs. No condition. -/
import Derived.Test.YtgeafoacmnlioaaDoorV7
import Derived.Shelf.SlSortCmp.NoneTotal
import Derived.Laws.Cover1
/- The abstract value machine: slices.SortFunc at json's members. -/
namespace Go.Vm
open Go.Proofs Go.Shelf Go.RowKit Go.Sort Go.Lib
set_option linter.unusedVariables false
/-! ### pairs of cells -/
abbrev Sub2 := { p : ByteArray × Value // p.2.oneCell' = true }
instance : Inhabited Sub2 := ⟨⟨(ByteArray.empty, .nilIface), rfl⟩⟩
section
variable {P : Program} {kt : KT}
end
end Go.Vm
