/- Part 12 of an abstract value machine: a framework of this session's own, in which functions of the program are run once and for all inputs. No condition. -/
import Derived.Test.YtgeafoacmnlioaaDoorV11
import Derived.Shelf.Sort.Plain
import Derived.Shelf.Slices.In.SortNone
/- The abstract value machine: slices.Sort at texts. -/
namespace Go.Vm
open Go.Proofs Go.Shelf Go.RowKit Go.Sort Go.Lib
set_option linter.unusedVariables false
section
variable {P : Program} {kt : KT}
end
end Go.Vm
