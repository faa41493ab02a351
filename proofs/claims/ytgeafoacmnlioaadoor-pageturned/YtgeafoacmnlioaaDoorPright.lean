/- Right texts, plainly. No condition. -/
import Derived.Test.YtgeafoacmnlioaaDoorPruns
namespace Go.Vm
open Go.Lib (decodeL decodeN decodeL_N decode_N decodeN_shape decodeL_le)
set_option linter.unusedVariables false
set_option linter.unusedSimpArgs false
end Go.Vm
