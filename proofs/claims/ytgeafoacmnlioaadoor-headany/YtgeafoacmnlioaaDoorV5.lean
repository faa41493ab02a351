/- Part 5 of an abstract value machine: a framework of this session's own, in which functions of the program are run once and for all inputs. No condition. -/
import Derived.Test.YtgeafoacmnlioaaDoorV4
import Derived.Test.YtgeafoacmnlioaaDoorV3
import Derived.Shelf.Strings.Builder1
/- The abstract value machine: strings.Builder's own pointer, and its text: two contracts by hand. -/
namespace Go.Vm
open Go.Proofs Go.Shelf Go.RowKit
set_option linter.unusedVariables false
variable {P : Program} {ρ : Ren}
section
variable {kt : KT}
end
end Go.Vm
