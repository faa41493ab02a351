/- Models of functions of the program, and that each keeps its contract: for all arguments of its shape. No condition. -/
import Derived.Test.YtocgjbdimjlfhaaGreatDoorKt
import Derived.Test.YtocgjbdimjlfhaaGreatDoorFjval
import Derived.Test.YtocgjbdimjlfhaaGreatDoorFjlay
import Derived.Test.YtocgjbdimjlfhaaGreatDoorV9
namespace Go.Vm
open Go.Proofs
set_option linter.unusedVariables false
namespace Vld
open Go.Proofs Go.Shelf Go.RowKit
def r_ren : Ren := ⟨fun | 196 => 155 | 259 => 189 | n => n, fun | 0 => 0 | 3 => 3 | 4 => 4 | 5 => 5 | 9 => 9 | 12 => 12 | 46 => 179 | 53 => 204 | 119 => 184 | 138 => 186 | 139 => 187 | n => n, fun | 3 => 1 | 4 => 2 | n => n⟩
theorem r_lays : Lays.n196 Tryz.prog r_ren := { mixed := (by kernel_rfl), f196 := Tryz.func155.trans (congrArg some (by kernel_rfl)), f259 := Tryz.func189.trans (congrArg some (by kernel_rfl)), t0 := Tryz.underlying0, a0 := Tryz.isAgg0, z0 := Tryz.sizeOf0, v0 := Tryz.zeroValue0, t3 := Tryz.underlying3, a3 := Tryz.isAgg3, z3 := Tryz.sizeOf3, v3 := Tryz.zeroValue3, t4 := Tryz.underlying4, a4 := Tryz.isAgg4, z4 := Tryz.sizeOf4, v4 := Tryz.zeroValue4, t5 := Tryz.underlying5, a5 := Tryz.isAgg5, z5 := Tryz.sizeOf5, v5 := Tryz.zeroValue5, t9 := Tryz.underlying9, a9 := Tryz.isAgg9, z9 := Tryz.sizeOf9, v9 := Tryz.zeroValue9, t12 := Tryz.underlying12, a12 := Tryz.isAgg12, z12 := Tryz.sizeOf12, v12 := Tryz.zeroValue12, t46 := Tryz.underlying179, a46 := Tryz.isAgg179, z46 := Tryz.sizeOf179, v46 := Tryz.zeroValue179, t53 := Tryz.underlying204, a53 := Tryz.isAgg204, z53 := Tryz.sizeOf204, v53 := Tryz.zeroValue204, t119 := Tryz.underlying184, a119 := Tryz.isAgg184, z119 := Tryz.sizeOf184, t138 := Tryz.underlying186, a138 := Tryz.isAgg186, z138 := Tryz.sizeOf186, v138 := Tryz.zeroValue186, t139 := Tryz.underlying187, a139 := Tryz.isAgg187, z139 := Tryz.sizeOf187, v139 := Tryz.zeroValue187, g3 := (by kernel_rfl), g4 := (by kernel_rfl) }
end Vld
end Go.Vm
