/- The kinds of the seat's types. No condition. -/
import Derived.Test.YtgeafoacmnlioaaDoorV12
import Derived.KernelRfl
import Derived.Test.YtgeafoacmnlioaaDoorRows
namespace Go.Vm
open Go.Proofs
set_option linter.unusedVariables false
open Go.Proofs
theorem globTabs : ∀ x ∈ ([] : List (String × IntKind × List Int)), ∃ g, Tryd.prog.globalNamed x.1 = some g ∧ g < 3 := by
  intro x hx
  cases hx
noncomputable def kt : KT := { k := fun t => if t = 3 then some .i64 else if t = 4 then some .bo else if t = 5 then some .u8 else if t = 9 then some .str else if t = 21 then some .i32 else if t = 60 then some .en else if t = 61 then some .ens else if t = 87 then some .fe else if t = 89 then some .fd else if t = 104 then some .u32 else if t = 139 then some .u64 else none, j := { nu := 1000000, bo := 4, it := 3, st := 9, li := 1000004, ob := 1000005, er := 1000006, nd := by decide }, gl := GlW Tryd.prog 3 [] [] (fun w => Go.Lib.Utf8Tabs 1 2 w ∧ IntVars [0] w), gb := 3, gl_sz := fun w h => h.sz, gl_ok := fun w w' h hw => h.on globTabs (by decide) (fun w w' h hw => ⟨utf8_on (by decide) (by decide) w w' h.1 hw, intvars_on (by decide) w w' h.2 hw⟩) hw }
noncomputable abbrev TT := tabOf kt
theorem hm : Tryd.prog.follows .mixedOrders = true := by kernel_rfl
noncomputable def bodyOf (f : Nat) : Code := ((Tryd.prog.funcs[f]?).bind (·.body)).getD .skip
end Go.Vm
