import Derived.Test.YtihpjgcbmipdbaaGreatDoorKt
import Derived.Test.YtihpjgcbmipdbaaGreatDoorFjval
import Derived.Test.YtihpjgcbmipdbaaGreatDoorFjlay
import Derived.Test.YtihpjgcbmipdbaaGreatDoorV11
/- Models of functions of the program, and that each keeps its contract: for all arguments of its shape. No condition. -/
namespace Go.Vm
open Go.Proofs
set_option linter.unusedVariables false
noncomputable def s_json_parse : Spec Kd := { params := [(.a .str)], ret := (.tup [(.a (.any .jv)), (.a (.int .i64))]), pins := [], pl := { nt := 35, joins := [(800022, (.norm, ⟨[.tmp 4 (.a (.ptr 704 0)), .tmp 5 (.a (.any .jv)), .box 704 (.cells 191 [.str, (.int .i64), (.int .i64), (.int .i64)])], [], []⟩), [])] }, rfrz := [], ts := [2, 3], rco := [.tmpAny 2 .jv] }
noncomputable def e_json_parse (F : Nat) : Env El := (envS 161 (conOf TT s_json_reader_fail (M_json_reader_fail F)) (envS 160 (conOf TT s_json_reader_peek (M_json_reader_peek F)) (envS 159 (conOf TT s_json_reader_value (M_json_reader_value F)) envN)))
noncomputable def M_json_parse (F : Nat) (x : (List UInt8)) : Option ((El .jv) × (Int)) :=
 if decide (400 < (↑x.length : Int)) = true then some (JV.nil, 5)
 else
  (M_json_reader_value F (x, 0, 0, 0, ())).bind fun (v0 : JV × List UInt8 × Int × Int × Int × Unit) =>
   (M_json_reader_peek F (v0.2.1, v0.2.2.1, v0.2.2.2.1, v0.2.2.2.2.1, ())).bind fun (v1 : Int × List UInt8 × Int × Int × Int × Unit) =>
    (if decide (v1.2.2.1 < (↑x.length : Int)) = true then
       (M_json_reader_fail F ((v1.2.1, v1.2.2.1, v1.2.2.2.1, v1.2.2.2.2.1, ()), 3)).bind fun (v2 : Unit × List UInt8 × Int × Int × Int × Unit) =>
        some ((), v0.1, (v2.2.1, v2.2.2.1, v2.2.2.2.1, v2.2.2.2.2.1, ()), ())
      else some ((), v0.1, (v1.2.1, v1.2.2.1, v1.2.2.2.1, v1.2.2.2.2.1, ()), ())).bind
     fun (v3 : Unit × JV × (List UInt8 × Int × Int × Int × Unit) × Unit) =>
     if (!decide (v3.2.2.1.2.2.2.1 = 0)) = true then some (JV.nil, v3.2.2.1.2.2.2.1) else some (v3.2.1, 0)
theorem t_json_parse (x : (List UInt8)) (F : Nat) : fnRun TT Tryz.prog (e_json_parse F) s_json_parse (bodyOf 101) F x = M_json_parse F x := by kernel_rfl
theorem c_json_parse (F : Nat) : Ctr TT Tryz.prog 101 (conOf TT s_json_parse (M_json_parse F)) :=
 ctr_of (code := bodyOf 101) Tryz.func101 (by kernel_rfl) (by kernel_rfl) (by kernel_rfl) (by kernel_rfl) (envS_ok (envS_ok (envS_ok envN_ok (c_json_reader_value F)) (c_json_reader_peek F)) (c_json_reader_fail F)) hm (by kernel_rfl) (fun x r h => ⟨F, (t_json_parse x F).trans h⟩)
noncomputable def s_json_Text : Spec Kd := { params := [(.a .str)], ret := (.tup [(.a .str), (.a .bool)]), pins := [], pl := { nt := 20 }, rfrz := [], ts := [2, 3] }
noncomputable def e_json_Text (F : Nat) : Env El := (envS 101 (conOf TT s_json_parse (M_json_parse F)) envN)
noncomputable def M_json_Text (F : Nat) (x : (List UInt8)) : Option ((List UInt8) × (Bool)) :=
 (M_json_parse F x).bind fun (v0 : JV × Int) => if isSo v0.1.str? = true then v0.1.str?.bind fun (v1 : List UInt8) => some (v1, true) else some ([], false)
theorem t_json_Text (x : (List UInt8)) (F : Nat) : fnRun TT Tryz.prog (e_json_Text F) s_json_Text (bodyOf 239) F x = M_json_Text F x := by kernel_rfl
theorem c_json_Text (F : Nat) : Ctr TT Tryz.prog 239 (conOf TT s_json_Text (M_json_Text F)) :=
 ctr_of (code := bodyOf 239) Tryz.func239 (by kernel_rfl) (by kernel_rfl) (by kernel_rfl) (by kernel_rfl) (envS_ok envN_ok (c_json_parse F)) hm (by kernel_rfl) (fun x r h => ⟨F, (t_json_Text x F).trans h⟩)
noncomputable def s_json_Field : Spec Kd := { params := [(.a .str), (.a .str)], ret := (.tup [(.a .str), (.a .bool)]), pins := [], pl := { nt := 33 }, rfrz := [], ts := [4, 5] }
noncomputable def e_json_Field (F : Nat) : Env El := (envS 102 (conOf TT s_json_lay (M_json_lay F)) (envS 192 (conOf TT s_json_object_find (M_json_object_find F)) (envS 101 (conOf TT s_json_parse (M_json_parse F)) envN)))
noncomputable def M_json_Field (F : Nat) (x : (List UInt8) × (List UInt8)) : Option ((List UInt8) × (Bool)) :=
 (M_json_parse F x.1).bind fun (v0 : JV × Int) =>
  if isSo v0.1.obj? = true then
   v0.1.obj?.bind fun (v1 : List (List UInt8 × JV × Unit)) =>
    (M_json_object_find F (v1, x.2)).bind fun (v2 : Int) =>
     if decide (v2 < 0) = true then some ([], false)
     else (idx v1 v2).bind fun (v3 : List UInt8 × JV × Unit) => (M_json_lay F ([], v3.2.1)).bind fun (v4 : List UInt8) => some (v4, true)
  else
   (M_json_object_find F ([], x.2)).bind fun (v5 : Int) =>
    if decide (v5 < 0) = true then some ([], false)
    else (idx [] v5).bind fun (v6 : List UInt8 × JV × Unit) => (M_json_lay F ([], v6.2.1)).bind fun (v7 : List UInt8) => some (v7, true)
theorem t_json_Field (x : (List UInt8) × (List UInt8)) (F : Nat) : fnRun TT Tryz.prog (e_json_Field F) s_json_Field (bodyOf 125) F x = M_json_Field F x := by kernel_rfl
theorem c_json_Field (F : Nat) : Ctr TT Tryz.prog 125 (conOf TT s_json_Field (M_json_Field F)) :=
 ctr_of (code := bodyOf 125) Tryz.func125 (by kernel_rfl) (by kernel_rfl) (by kernel_rfl) (by kernel_rfl) (envS_ok (envS_ok (envS_ok envN_ok (c_json_parse F)) (c_json_object_find F)) (c_json_lay F)) hm (by kernel_rfl) (fun x r h => ⟨F, (t_json_Field x F).trans h⟩)
noncomputable def s_json_Number : Spec Kd := { params := [(.a .str)], ret := (.tup [(.a (.int .i64)), (.a .bool)]), pins := [], pl := { nt := 20 }, rfrz := [], ts := [2, 3] }
noncomputable def e_json_Number (F : Nat) : Env El := (envS 101 (conOf TT s_json_parse (M_json_parse F)) envN)
noncomputable def M_json_Number (F : Nat) (x : (List UInt8)) : Option ((Int) × (Bool)) :=
 (M_json_parse F x).bind fun (v0 : JV × Int) => if isSo v0.1.int? = true then v0.1.int?.bind fun (v1 : Int) => some (v1, true) else some (0, false)
theorem t_json_Number (x : (List UInt8)) (F : Nat) : fnRun TT Tryz.prog (e_json_Number F) s_json_Number (bodyOf 126) F x = M_json_Number F x := by kernel_rfl
theorem c_json_Number (F : Nat) : Ctr TT Tryz.prog 126 (conOf TT s_json_Number (M_json_Number F)) :=
 ctr_of (code := bodyOf 126) Tryz.func126 (by kernel_rfl) (by kernel_rfl) (by kernel_rfl) (by kernel_rfl) (envS_ok envN_ok (c_json_parse F)) hm (by kernel_rfl) (fun x r h => ⟨F, (t_json_Number x F).trans h⟩)
end Go.Vm
/- Models of functions of the program, and that each keeps its contract: for all arguments of its shape. No condition. -/
namespace Go.Vm
open Go.Proofs
set_option linter.unusedVariables false
namespace Trm
open Go.Proofs Go.Shelf Go.RowKit
def r_ren : Ren := ⟨fun | 119 => 235 | 120 => 297 | 137 => 200 | 151 => 280 | 152 => 296 | 160 => 199 | 197 => 230 | 217 => 250 | 224 => 268 | 225 => 267 | 227 => 245 | 228 => 279 | 231 => 243 | 232 => 244 | 233 => 246 | 234 => 247 | 235 => 248 | 236 => 249 | 260 => 266 | 266 => 282 | 271 => 281 | n => n, fun | 0 => 0 | 3 => 3 | 4 => 4 | 5 => 5 | 9 => 9 | 21 => 21 | 46 => 228 | 105 => 231 | 116 => 242 | 117 => 243 | 119 => 270 | 124 => 246 | 138 => 272 | 139 => 273 | n => n, fun | 3 => 1 | 4 => 2 | n => n⟩
theorem r_lays : Lays.n160 Tryz.prog r_ren := { mixed := (by kernel_rfl), f119 := Tryz.func235.trans (congrArg some (by kernel_rfl)), f120 := Tryz.func297.trans (congrArg some (by kernel_rfl)), f137 := Tryz.func200.trans (congrArg some (by kernel_rfl)), f151 := Tryz.func280.trans (congrArg some (by kernel_rfl)), f152 := Tryz.func296.trans (congrArg some (by kernel_rfl)), f160 := Tryz.func199.trans (congrArg some (by kernel_rfl)), f197 := Tryz.func230.trans (congrArg some (by kernel_rfl)), f217 := Tryz.func250.trans (congrArg some (by kernel_rfl)), f224 := Tryz.func268.trans (congrArg some (by kernel_rfl)), f225 := Tryz.func267.trans (congrArg some (by kernel_rfl)), f227 := Tryz.func245.trans (congrArg some (by kernel_rfl)), f228 := Tryz.func279.trans (congrArg some (by kernel_rfl)), f231 := Tryz.func243.trans (congrArg some (by kernel_rfl)), f232 := Tryz.func244.trans (congrArg some (by kernel_rfl)), f233 := Tryz.func246.trans (congrArg some (by kernel_rfl)), f234 := Tryz.func247.trans (congrArg some (by kernel_rfl)), f235 := Tryz.func248.trans (congrArg some (by kernel_rfl)), f236 := Tryz.func249.trans (congrArg some (by kernel_rfl)), f260 := Tryz.func266.trans (congrArg some (by kernel_rfl)), f266 := Tryz.func282.trans (congrArg some (by kernel_rfl)), f271 := Tryz.func281.trans (congrArg some (by kernel_rfl)), t0 := Tryz.underlying0, a0 := Tryz.isAgg0, z0 := Tryz.sizeOf0, v0 := Tryz.zeroValue0, t3 := Tryz.underlying3, a3 := Tryz.isAgg3, z3 := Tryz.sizeOf3, v3 := Tryz.zeroValue3, t4 := Tryz.underlying4, a4 := Tryz.isAgg4, z4 := Tryz.sizeOf4, v4 := Tryz.zeroValue4, t5 := Tryz.underlying5, a5 := Tryz.isAgg5, z5 := Tryz.sizeOf5, v5 := Tryz.zeroValue5, t9 := Tryz.underlying9, a9 := Tryz.isAgg9, z9 := Tryz.sizeOf9, v9 := Tryz.zeroValue9, t21 := Tryz.underlying21, a21 := Tryz.isAgg21, z21 := Tryz.sizeOf21, v21 := Tryz.zeroValue21, t46 := Tryz.underlying228, a46 := Tryz.isAgg228, z46 := Tryz.sizeOf228, v46 := Tryz.zeroValue228, t105 := Tryz.underlying231, a105 := Tryz.isAgg231, z105 := Tryz.sizeOf231, v105 := Tryz.zeroValue231, t116 := Tryz.underlying242, a116 := Tryz.isAgg242, z116 := Tryz.sizeOf242, t117 := Tryz.underlying243, a117 := Tryz.isAgg243, z117 := Tryz.sizeOf243, v117 := Tryz.zeroValue243, t119 := Tryz.underlying270, a119 := Tryz.isAgg270, z119 := Tryz.sizeOf270, t124 := Tryz.underlying246, a124 := Tryz.isAgg246, z124 := Tryz.sizeOf246, v124 := Tryz.zeroValue246, t138 := Tryz.underlying272, a138 := Tryz.isAgg272, z138 := Tryz.sizeOf272, v138 := Tryz.zeroValue272, t139 := Tryz.underlying273, a139 := Tryz.isAgg273, z139 := Tryz.sizeOf273, v139 := Tryz.zeroValue273, g3 := (by kernel_rfl), g4 := (by kernel_rfl) }
theorem r_116 : (Tryz.prog.info? (r_ren.t 116)).map (fun i => (i.zero, i.size)) = some (some (.agg (Array.replicate 256 (.bool false))), 256) := by kernel_rfl
end Trm
noncomputable def s_strings_Trim : Spec Kd := sTrim
noncomputable def M_strings_Trim (F : Nat) (x : List UInt8 × List UInt8) : Option (List UInt8) := MTrim x
theorem c_strings_Trim (F : Nat) : Ctr TT Tryz.prog 199 (conOf TT s_strings_Trim (M_strings_Trim F)) := ctr_trim (kt := kt) (ρ := Trm.r_ren) Trm.r_lays Trm.r_116 Tryz.func199 (by kernel_rfl) (by kernel_rfl) rfl
end Go.Vm
