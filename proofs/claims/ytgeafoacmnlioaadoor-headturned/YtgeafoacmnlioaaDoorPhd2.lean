/- Names rising, plainly: any sorting of them is one list. No condition. -/
import Derived.Test.YtgeafoacmnlioaaDoorPpg3
namespace Go.Vm
set_option linter.unusedVariables false
set_option linter.unusedSimpArgs false
set_option linter.unusedSectionVars false
section
variable {K : Type} [DecidableEq K] {lt : K → K → Bool}
end
end Go.Vm
