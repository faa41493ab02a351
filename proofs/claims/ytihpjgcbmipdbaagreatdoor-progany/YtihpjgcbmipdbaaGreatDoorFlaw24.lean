/- Models of functions of the program, and that each keeps its contract: for all arguments of its shape. No condition. -/
import Derived.Test.YtihpjgcbmipdbaaGreatDoorKt
import Derived.Test.YtihpjgcbmipdbaaGreatDoorFroute
import Derived.Test.YtihpjgcbmipdbaaGreatDoorFref24
import Derived.Test.YtihpjgcbmipdbaaGreatDoorFlaw23s
namespace Go.Vm
open Go.Proofs
set_option linter.unusedVariables false
end Go.Vm
