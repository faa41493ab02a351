import Derived.Test.YtihpjgcbmipdbaaGreatDoorFprog2
import Derived.Test.YtihpjgcbmipdbaaGreatDoorFref23b
import Derived.Test.YtihpjgcbmipdbaaGreatDoorFlaw22
set_option linter.unusedVariables false
namespace Go.Vm
open Go.Proofs
end Go.Vm
