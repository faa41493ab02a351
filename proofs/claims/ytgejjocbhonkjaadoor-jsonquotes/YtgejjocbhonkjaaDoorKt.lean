/- The kinds of the seat's types. No condition. -/
import Derived.Test.YtgejjocbhonkjaaDoorV9
import Derived.KernelRfl
import Derived.Test.YtgejjocbhonkjaaDoorRows
namespace Go.Vm
open Go.Proofs
set_option linter.unusedVariables false
open Go.Proofs
theorem globTabs : ∀ x ∈ ([("internal/strconv.uint64pow10", .u64, Go.Lib.pow10Tab)] : List (String × IntKind × List Int)), ∃ g, Tryd.prog.globalNamed x.1 = some g ∧ g < 5 := by
  intro x hx
  simp only [List.mem_cons, List.not_mem_nil, or_false] at hx
  rcases hx with rfl
  · exact ⟨3, by kernel_rfl, by decide⟩
noncomputable def kt : KT := { k := fun t => if t = 3 then some .i64 else if t = 4 then some .bo else if t = 5 then some .u8 else if t = 9 then some .str else if t = 20 then some .jv else if t = 21 then some .i32 else if t = 66 then some .en else if t = 67 then some .ens else if t = 115 then some .u32 else if t = 126 then some .er else if t = 154 then some .me else if t = 170 then some .u64 else none, j := { nu := 130, bo := 4, it := 3, st := 9, li := 132, ob := 134, er := 228, nd := by decide }, gl := GlW Tryd.prog 5 [("internal/strconv.uint64pow10", .u64, Go.Lib.pow10Tab)] [4] (fun w => Go.Lib.Utf8Tabs 0 1 w), gb := 5, gl_sz := fun w h => h.sz, gl_ok := fun w w' h hw => h.on globTabs (by decide) (fun w w' h hw => utf8_on (by decide) (by decide) w w' h hw) hw }
noncomputable abbrev TT := tabOf kt
theorem hm : Tryd.prog.follows .mixedOrders = true := by kernel_rfl
noncomputable def bodyOf (f : Nat) : Code := ((Tryd.prog.funcs[f]?).bind (·.body)).getD .skip

end Go.Vm
