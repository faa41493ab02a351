/- Models of functions of the program, and that each keeps its contract: for all arguments of its shape. No condition. -/
import Derived.Test.YtihpjgcbmipdbaaGreatDoorKt
namespace Go.Vm
open Go.Proofs
set_option linter.unusedVariables false
noncomputable def s_json_object_find_1 : Spec Kd := { params := [(.agg [.str, (.any .jv)]), (.shp [.str])], ret := (.one (.a .bool)), pins := [], pl := { nt := 8 }, rfrz := [], ts := [3] }
noncomputable def e_json_object_find_1 (F : Nat) : Env El := envN
noncomputable def M_json_object_find_1 (F : Nat) (x : ((List UInt8) × (El .jv) × Unit) × ((List UInt8) × Unit)) : Option (Bool) :=
 some (decide (x.1.1 = x.2.1))
theorem t_json_object_find_1 (x : ((List UInt8) × (El .jv) × Unit) × ((List UInt8) × Unit)) (F : Nat) : fnRun TT Tryz.prog (e_json_object_find_1 F) s_json_object_find_1 (bodyOf 237) F x = M_json_object_find_1 F x := by kernel_rfl
theorem c_json_object_find_1 (F : Nat) : Ctr TT Tryz.prog 237 (conOf TT s_json_object_find_1 (M_json_object_find_1 F)) :=
 ctr_of (code := bodyOf 237) Tryz.func237 (by kernel_rfl) (by kernel_rfl) (by kernel_rfl) (by kernel_rfl) envN_ok hm (by kernel_rfl) (fun x r h => ⟨F, (t_json_object_find_1 x F).trans h⟩)
noncomputable def s_slices_IndexFunc_json_object_json_member : Spec Kd := { params := [(.a (.slc .me)), (.fnc 237 [[.str]])], ret := (.one (.a (.int .i64))), pins := [], pl := { nt := 19, loops := [(0, ⟨[.tmp 0 (.a (.slc .me)), .tmp 1 (.fnc 237 [[.str]]), .tmp 7 (.a (.int .i64)), .tmp 8 (.a (.int .i64))], [], []⟩, (.exit 0, ⟨[], [], []⟩), [(.ret, ⟨[.tmp 4 (.a (.int .i64))], [], []⟩)])] }, rfrz := [], ts := [4] }
noncomputable def e_slices_IndexFunc_json_object_json_member (F : Nat) : Env El := (envS 237 (conOf TT s_json_object_find_1 (M_json_object_find_1 F)) envN)
noncomputable def M_slices_IndexFunc_json_object_json_member_l0 (F : Nat) (v0 : (List (List UInt8 × JV × Unit) × ((List UInt8 × Unit) × Unit) × Int × Int × Unit)) : Option ((List (List UInt8 × JV × Unit) × ((List UInt8 × Unit) × Unit) × Int × Int × Unit) ⊕ (Unit ⊕ Int × Unit)) :=
 if decide (v0.2.2.2.1 < v0.2.2.1) = true then
     (idx v0.1 v0.2.2.2.1).bind fun v1 =>
      (M_json_object_find_1 F ((v1.1, v1.2.1, ()), v0.2.1.1.1, ())).bind fun v2 =>
       if v2 = true then some (Sum.inr (Sum.inr (v0.2.2.2.1, ())))
       else some (Sum.inl (v0.1, ((v0.2.1.1.1, ()), ()), v0.2.2.1, IntKind.i64.wrap (v0.2.2.2.1 + 1), ()))
    else some (Sum.inr (Sum.inl ()))
noncomputable def M_slices_IndexFunc_json_object_json_member (F : Nat) (x : (List (El .me)) × (((List UInt8) × Unit) × Unit)) : Option (Int) :=
 (loopM (M_slices_IndexFunc_json_object_json_member_l0 F)
    F (x.1, ((x.2.1.1, ()), ()), (↑x.1.length : Int), 0, ())).bind
  fun v3 => sumC v3 (fun v4 => some (-1)) fun v5 => some v5.1
theorem t_slices_IndexFunc_json_object_json_member (x : (List (El .me)) × (((List UInt8) × Unit) × Unit)) (F : Nat) : fnRun TT Tryz.prog (e_slices_IndexFunc_json_object_json_member F) s_slices_IndexFunc_json_object_json_member (bodyOf 236) F x = M_slices_IndexFunc_json_object_json_member F x := by kernel_rfl
theorem c_slices_IndexFunc_json_object_json_member (F : Nat) : Ctr TT Tryz.prog 236 (conOf TT s_slices_IndexFunc_json_object_json_member (M_slices_IndexFunc_json_object_json_member F)) :=
 ctr_of (code := bodyOf 236) Tryz.func236 (by kernel_rfl) (by kernel_rfl) (by kernel_rfl) (by kernel_rfl) (envS_ok envN_ok (c_json_object_find_1 F)) hm (by kernel_rfl) (fun x r h => ⟨F, (t_slices_IndexFunc_json_object_json_member x F).trans h⟩)
noncomputable def s_json_object_find : Spec Kd := { params := [(.a (.slc .me)), (.a .str)], ret := (.one (.a (.int .i64))), pins := [], pl := { nt := 8, frz := [(1, [192])] }, rfrz := [], ts := [4] }
noncomputable def e_json_object_find (F : Nat) : Env El := (envS 236 (conOf TT s_slices_IndexFunc_json_object_json_member (M_slices_IndexFunc_json_object_json_member F)) envN)
noncomputable def M_json_object_find (F : Nat) (x : (List (El .me)) × (List UInt8)) : Option (Int) :=
 (M_slices_IndexFunc_json_object_json_member F (x.1, (x.2, ()), ())).bind fun v0 => some v0
theorem t_json_object_find (x : (List (El .me)) × (List UInt8)) (F : Nat) : fnRun TT Tryz.prog (e_json_object_find F) s_json_object_find (bodyOf 192) F x = M_json_object_find F x := by kernel_rfl
theorem c_json_object_find (F : Nat) : Ctr TT Tryz.prog 192 (conOf TT s_json_object_find (M_json_object_find F)) :=
 ctr_of (code := bodyOf 192) Tryz.func192 (by kernel_rfl) (by kernel_rfl) (by kernel_rfl) (by kernel_rfl) (envS_ok envN_ok (c_slices_IndexFunc_json_object_json_member F)) hm (by kernel_rfl) (fun x r h => ⟨F, (t_json_object_find x F).trans h⟩)
end Go.Vm
