/- The kinds of the seat's types. No condition. -/
import Derived.Test.YtmbnnjpdpginlaaDoorV4
import Derived.KernelRfl
import Derived.Test.YtmbnnjpdpginlaaDoorRows
namespace Go.Vm
open Go.Proofs
set_option linter.unusedVariables false
def kt (t : TypeId) : Option Kd := if t = 3 then some .i64 else if t = 4 then some .bo else if t = 5 then some .u8 else if t = 9 then some .str else if t = 21 then some .i32 else if t = 23 then some .en else if t = 45 then some .ens else if t = 109 then some .u32 else none
noncomputable abbrev TT := tabOf kt
theorem hm : Tryd.prog.follows .mixedOrders = true := by kernel_rfl
noncomputable def bodyOf (f : Nat) : Code := ((Tryd.prog.funcs[f]?).bind (·.body)).getD .skip

end Go.Vm
