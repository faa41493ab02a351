/- Models of functions of the program, and that each keeps its contract: for all arguments of its shape. No condition. -/
import Derived.Test.YtocgjbdimjlfhaaGreatDoorKt
import Derived.Test.YtocgjbdimjlfhaaGreatDoorFjval
import Derived.Test.YtocgjbdimjlfhaaGreatDoorFjlay
import Derived.Test.YtocgjbdimjlfhaaGreatDoorV9
namespace Go.Vm
open Go.Proofs
set_option linter.unusedVariables false
noncomputable def s_json_parse : Spec Kd := { params := [(.a .str)], ret := (.tup [(.a (.any .jv)), (.a (.int .i64))]), pins := [], pl := { nt := 35, joins := [(800022, (.norm, ⟨[.tmp 4 (.a (.ptr 704 0)), .tmp 5 (.a (.any .jv)), .box 704 (.cells 168 [.str, (.int .i64), (.int .i64), (.int .i64)])], [], []⟩), [])] }, rfrz := [], ts := [2, 3], rco := [.tmpAny 2 .jv] }
noncomputable def e_json_parse (F : Nat) : Env El := (envS 159 (conOf TT s_json_reader_fail (M_json_reader_fail F)) (envS 158 (conOf TT s_json_reader_peek (M_json_reader_peek F)) (envS 157 (conOf TT s_json_reader_value (M_json_reader_value F)) envN)))
noncomputable def M_json_parse (F : Nat) (x : (List UInt8)) : Option ((El .jv) × (Int)) :=
  if decide (400 < (↑x.length : Int)) = true then some (JV.nil, 5)
  else
    (M_json_reader_value F (x, 0, 0, 0, ())).bind fun (v0 : JV × List UInt8 × Int × Int × Int × Unit) =>
      (M_json_reader_peek F (v0.2.1, v0.2.2.1, v0.2.2.2.1, v0.2.2.2.2.1, ())).bind fun (v1 : Int × List UInt8 × Int × Int × Int × Unit) =>
        (if decide (v1.2.2.1 < (↑x.length : Int)) = true then
              (M_json_reader_fail F ((v1.2.1, v1.2.2.1, v1.2.2.2.1, v1.2.2.2.2.1, ()), 3)).bind fun (v2 : Unit × List UInt8 × Int × Int × Int × Unit) =>
                some ((), v0.1, (v2.2.1, v2.2.2.1, v2.2.2.2.1, v2.2.2.2.2.1, ()), ())
            else some ((), v0.1, (v1.2.1, v1.2.2.1, v1.2.2.2.1, v1.2.2.2.2.1, ()), ())).bind
          fun (v3 : Unit × JV × (List UInt8 × Int × Int × Int × Unit) × Unit) =>
          if (!decide (v3.2.2.1.2.2.2.1 = 0)) = true then some (JV.nil, v3.2.2.1.2.2.2.1) else some (v3.2.1, 0)
theorem t_json_parse (x : (List UInt8)) (F : Nat) : fnRun TT Tryz.prog (e_json_parse F) s_json_parse (bodyOf 116) F x = M_json_parse F x := by kernel_rfl
theorem c_json_parse (F : Nat) : Ctr TT Tryz.prog 116 (conOf TT s_json_parse (M_json_parse F)) :=
  ctr_of (code := bodyOf 116) Tryz.func116 (by kernel_rfl) (by kernel_rfl) (by kernel_rfl) (by kernel_rfl) (envS_ok (envS_ok (envS_ok envN_ok (c_json_reader_value F)) (c_json_reader_peek F)) (c_json_reader_fail F)) hm (by kernel_rfl) (fun x r h => ⟨F, (t_json_parse x F).trans h⟩)
noncomputable def s_json_Text : Spec Kd := { params := [(.a .str)], ret := (.tup [(.a .str), (.a .bool)]), pins := [], pl := { nt := 20 }, rfrz := [], ts := [2, 3] }
noncomputable def e_json_Text (F : Nat) : Env El := (envS 116 (conOf TT s_json_parse (M_json_parse F)) envN)
noncomputable def M_json_Text (F : Nat) (x : (List UInt8)) : Option ((List UInt8) × (Bool)) :=
  (M_json_parse F x).bind fun (v0 : JV × Int) => if isSo v0.1.str? = true then v0.1.str?.bind fun (v1 : List UInt8) => some (v1, true) else some ([], false)
theorem t_json_Text (x : (List UInt8)) (F : Nat) : fnRun TT Tryz.prog (e_json_Text F) s_json_Text (bodyOf 82) F x = M_json_Text F x := by kernel_rfl
theorem c_json_Text (F : Nat) : Ctr TT Tryz.prog 82 (conOf TT s_json_Text (M_json_Text F)) :=
  ctr_of (code := bodyOf 82) Tryz.func82 (by kernel_rfl) (by kernel_rfl) (by kernel_rfl) (by kernel_rfl) (envS_ok envN_ok (c_json_parse F)) hm (by kernel_rfl) (fun x r h => ⟨F, (t_json_Text x F).trans h⟩)
noncomputable def s_json_Field : Spec Kd := { params := [(.a .str), (.a .str)], ret := (.tup [(.a .str), (.a .bool)]), pins := [], pl := { nt := 33 }, rfrz := [], ts := [4, 5] }
noncomputable def e_json_Field (F : Nat) : Env El := (envS 204 (conOf TT s_json_lay (M_json_lay F)) (envS 203 (conOf TT s_json_object_find (M_json_object_find F)) (envS 116 (conOf TT s_json_parse (M_json_parse F)) envN)))
noncomputable def M_json_Field (F : Nat) (x : (List UInt8) × (List UInt8)) : Option ((List UInt8) × (Bool)) :=
  (M_json_parse F x.1).bind fun (v0 : JV × Int) =>
    if isSo v0.1.obj? = true then
      v0.1.obj?.bind fun (v1 : List (List UInt8 × JV × Unit)) =>
        (M_json_object_find F (v1, x.2)).bind fun (v2 : Int) =>
          if decide (v2 < 0) = true then some ([], false)
          else (idx v1 v2).bind fun (v3 : List UInt8 × JV × Unit) => (M_json_lay F ([], v3.2.1)).bind fun (v4 : List UInt8) => some (v4, true)
    else
      (M_json_object_find F ([], x.2)).bind fun (v5 : Int) =>
        if decide (v5 < 0) = true then some ([], false)
        else (idx [] v5).bind fun (v6 : List UInt8 × JV × Unit) => (M_json_lay F ([], v6.2.1)).bind fun (v7 : List UInt8) => some (v7, true)
theorem t_json_Field (x : (List UInt8) × (List UInt8)) (F : Nat) : fnRun TT Tryz.prog (e_json_Field F) s_json_Field (bodyOf 173) F x = M_json_Field F x := by kernel_rfl
theorem c_json_Field (F : Nat) : Ctr TT Tryz.prog 173 (conOf TT s_json_Field (M_json_Field F)) :=
  ctr_of (code := bodyOf 173) Tryz.func173 (by kernel_rfl) (by kernel_rfl) (by kernel_rfl) (by kernel_rfl) (envS_ok (envS_ok (envS_ok envN_ok (c_json_parse F)) (c_json_object_find F)) (c_json_lay F)) hm (by kernel_rfl) (fun x r h => ⟨F, (t_json_Field x F).trans h⟩)
namespace Vld
open Go.Proofs Go.Shelf Go.RowKit
def r_ren : Ren := ⟨fun | 196 => 155 | 259 => 189 | n => n, fun | 0 => 0 | 3 => 3 | 4 => 4 | 5 => 5 | 9 => 9 | 12 => 12 | 46 => 179 | 53 => 204 | 119 => 184 | 138 => 186 | 139 => 187 | n => n, fun | 3 => 1 | 4 => 2 | n => n⟩
theorem r_lays : Lays.n196 Tryz.prog r_ren := { mixed := (by kernel_rfl), f196 := Tryz.func155.trans (congrArg some (by kernel_rfl)), f259 := Tryz.func189.trans (congrArg some (by kernel_rfl)), t0 := Tryz.underlying0, a0 := Tryz.isAgg0, z0 := Tryz.sizeOf0, v0 := Tryz.zeroValue0, t3 := Tryz.underlying3, a3 := Tryz.isAgg3, z3 := Tryz.sizeOf3, v3 := Tryz.zeroValue3, t4 := Tryz.underlying4, a4 := Tryz.isAgg4, z4 := Tryz.sizeOf4, v4 := Tryz.zeroValue4, t5 := Tryz.underlying5, a5 := Tryz.isAgg5, z5 := Tryz.sizeOf5, v5 := Tryz.zeroValue5, t9 := Tryz.underlying9, a9 := Tryz.isAgg9, z9 := Tryz.sizeOf9, v9 := Tryz.zeroValue9, t12 := Tryz.underlying12, a12 := Tryz.isAgg12, z12 := Tryz.sizeOf12, v12 := Tryz.zeroValue12, t46 := Tryz.underlying179, a46 := Tryz.isAgg179, z46 := Tryz.sizeOf179, v46 := Tryz.zeroValue179, t53 := Tryz.underlying204, a53 := Tryz.isAgg204, z53 := Tryz.sizeOf204, v53 := Tryz.zeroValue204, t119 := Tryz.underlying184, a119 := Tryz.isAgg184, z119 := Tryz.sizeOf184, t138 := Tryz.underlying186, a138 := Tryz.isAgg186, z138 := Tryz.sizeOf186, v138 := Tryz.zeroValue186, t139 := Tryz.underlying187, a139 := Tryz.isAgg187, z139 := Tryz.sizeOf187, v139 := Tryz.zeroValue187, g3 := (by kernel_rfl), g4 := (by kernel_rfl) }
end Vld
end Go.Vm
