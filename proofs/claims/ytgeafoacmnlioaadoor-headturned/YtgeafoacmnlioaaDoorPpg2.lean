/- Pages, plainly: sorted by a key, the first one of each key, some at a time; gone over page by page. No condition. -/
import Derived.Test.YtgeafoacmnlioaaDoorPbase
namespace Go.Vm
set_option linter.unusedVariables false
set_option linter.unusedSimpArgs false
set_option linter.unusedSectionVars false
structure OrdK {K : Type} (lt : K → K → Bool) : Prop where
  irr : ∀ a, lt a a = false
  trn : ∀ a b c, lt a b = true → lt b c = true → lt a c = true
  tot : ∀ a b, lt a b = false → lt b a = false → a = b
section
variable {E K : Type} [DecidableEq K] (key : E → K) (lt : K → K → Bool)
variable {key lt}
end
end Go.Vm
