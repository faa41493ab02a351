import Derived.Test.YtihpjgcbmipdbaaGreatDoorFcanon
import Derived.Test.YtihpjgcbmipdbaaGreatDoorFref5
set_option linter.unusedVariables false
namespace Go.Vm
open Go.Proofs
end Go.Vm
namespace Go.Vm
open Go.Proofs
end Go.Vm
