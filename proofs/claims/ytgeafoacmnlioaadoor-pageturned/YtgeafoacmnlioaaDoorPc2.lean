/- Reading and writing the parts of a path: plain. No condition. -/
import Derived.Test.YtgeafoacmnlioaaDoorPc1
namespace Go.Vm
open Go Go.Proofs
set_option linter.unusedVariables false
end Go.Vm
