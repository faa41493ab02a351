import Derived.Test.YtihpjgcbmipdbaaGreatDoorFref14
import Derived.Test.YtihpjgcbmipdbaaGreatDoorFadmit
set_option linter.unusedVariables false
namespace Go.Vm
open Go.Proofs
end Go.Vm
namespace Go.Vm
open Go.Proofs
end Go.Vm
