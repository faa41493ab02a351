/- The kinds of the seat's types. No condition. -/
import Derived.Test.YtgejjocbhonkjaaGreatDoorV4
import Derived.KernelRfl
import Derived.Test.YtgejjocbhonkjaaGreatDoorRows
namespace Go.Vm
open Go.Proofs
set_option linter.unusedVariables false
open Go.Proofs
theorem globTabs : ∀ x ∈ ([("internal/strconv.uint64pow10", .u64, Go.Lib.pow10Tab)] : List (String × IntKind × List Int)), ∃ g, Tryz.prog.globalNamed x.1 = some g ∧ g < 3 := by
  intro x hx
  simp only [List.mem_cons, List.not_mem_nil, or_false] at hx
  rcases hx with rfl
  · exact ⟨1, by kernel_rfl, by decide⟩
noncomputable def kt : KT := { k := fun t => if t = 3 then some .i64 else if t = 4 then some .bo else if t = 5 then some .u8 else if t = 9 then some .str else if t = 20 then some .jv else if t = 21 then some .i32 else if t = 22 then some .ens else if t = 35 then some .en else if t = 86 then some .me else if t = 122 then some .u32 else if t = 147 then some .er else if t = 158 then some .u64 else none, j := { nu := 88, bo := 4, it := 3, st := 9, li := 90, ob := 83, er := 192, nd := by decide }, gl := GlW Tryz.prog 3 [("internal/strconv.uint64pow10", .u64, Go.Lib.pow10Tab)] [2] (fun _ => True), gb := 3, gl_sz := fun w h => h.sz, gl_ok := fun w w' h hw => h.on globTabs (by decide) (fun _ _ _ _ => trivial) hw }
noncomputable abbrev TT := tabOf kt
theorem hm : Tryz.prog.follows .mixedOrders = true := by kernel_rfl
noncomputable def bodyOf (f : Nat) : Code := ((Tryz.prog.funcs[f]?).bind (·.body)).getD .skip

end Go.Vm
