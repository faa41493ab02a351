/- The kinds of the seat's types. No condition. -/
import Derived.Test.YtmbnnjpdpginlaaGreatDoorV4
import Derived.KernelRfl
import Derived.Test.YtmbnnjpdpginlaaGreatDoorRows
namespace Go.Vm
open Go.Proofs
set_option linter.unusedVariables false
def kt : KT := ⟨fun t => if t = 3 then some .i64 else if t = 4 then some .bo else if t = 5 then some .u8 else if t = 9 then some .str else if t = 21 then some .i32 else if t = 22 then some .ens else if t = 40 then some .en else if t = 112 then some .u32 else if t = 133 then some .u64 else none, ⟨1000000, 4, 3, 9, 1000004, 1000005, by decide⟩⟩
noncomputable abbrev TT := tabOf kt
theorem hm : Tryz.prog.follows .mixedOrders = true := by kernel_rfl
noncomputable def bodyOf (f : Nat) : Code := ((Tryz.prog.funcs[f]?).bind (·.body)).getD .skip

end Go.Vm
