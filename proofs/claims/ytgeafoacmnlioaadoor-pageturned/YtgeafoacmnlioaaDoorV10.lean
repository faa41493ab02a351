/- Part 10 of an abstract value machine: a framework of this session's own, in which functions of the program are run once and for all inputs. No condition. -/
import Derived.Test.YtgeafoacmnlioaaDoorV9
import Derived.Shelf.Strings.SlTrimAscii
/- The abstract value machine: strings.Trim at a set of ascii bytes. -/
namespace Go.Vm
open Go.Proofs Go.Shelf Go.RowKit
set_option linter.unusedVariables false
variable {P : Program} {ρ : Ren} {kt : KT}
end Go.Vm
