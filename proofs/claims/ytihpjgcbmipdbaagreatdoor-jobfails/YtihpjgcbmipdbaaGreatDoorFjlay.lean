import Derived.Test.YtihpjgcbmipdbaaGreatDoorKt
import Derived.Test.YtihpjgcbmipdbaaGreatDoorFbld
import Derived.Test.YtihpjgcbmipdbaaGreatDoorV7
/- Models of functions of the program, and that each keeps its contract: for all arguments of its shape. No condition. -/
namespace Go.Vm
open Go.Proofs
set_option linter.unusedVariables false
noncomputable def s_json_quote : Spec Kd := { params := [(.a (.row 5 .u8)), (.a .str)], ret := (.one (.a (.row 5 .u8))), pins := [], pl := { nt := 72, orc := { rv := [4, 69, 71], gv := [15] }, loops := [(0, ⟨[.tmp 0 (.a (.rowp 1)), .tmp 11 (.a (.ptr 704 0)), .box 704 .siter, .box 1 (.row 5 .u8)], [1088], [.tmpRow 0 1 5 .u8]⟩, (.exit 0, ⟨[.tmp 0 (.a (.rowp 1)), .box 1 (.row 5 .u8)], [1088], [.tmpRow 0 1 5 .u8]⟩), [])], cuts := [(6, [(6, ⟨[.tmp 0 (.a (.rowp 1)), .tmp 6 (.a (.int .i32)), .tmp 11 (.a (.ptr 704 0)), .tmp 24 (.a .bool), .box 704 .siter, .box 1 (.row 5 .u8)], [1088], [.tmpRow 0 1 5 .u8]⟩)])] }, rfrz := [], ts := [4] }
noncomputable def e_json_quote (F : Nat) : Env El := (envS 218 (conOf TT s_unicode_utf8_AppendRune (M_unicode_utf8_AppendRune F)) envN)
noncomputable def M_json_quote_l0 (F : Nat) (v0 : (Unit × Unit × (List UInt8 × Nat) × List UInt8 × Unit)) : Option ((Unit × Unit × (List UInt8 × Nat) × List UInt8 × Unit) ⊕ (Unit × List UInt8 × Unit)) :=
 if decide (v0.2.2.1.2 < v0.2.2.1.1.length) = true then
      (if decide (runeAt v0.2.2.1.1 v0.2.2.1.2 = 34) = false then
         some
          ((), runeAt v0.2.2.1.1 v0.2.2.1.2, (), decide (runeAt v0.2.2.1.1 v0.2.2.1.2 = 92), (v0.2.2.1.1, v0.2.2.1.2 + runeLen v0.2.2.1.1 v0.2.2.1.2),
            v0.2.2.2.1, ())
        else some ((), runeAt v0.2.2.1.1 v0.2.2.1.2, (), true, (v0.2.2.1.1, v0.2.2.1.2 + runeLen v0.2.2.1.1 v0.2.2.1.2), v0.2.2.2.1, ())).bind
       fun v1 =>
       if v1.2.2.2.1 = true then
        if decide ((v1.2.2.2.2.2.1.length + [UInt8.ofNat 92, UInt8.ofNat (IntKind.u8.wrap v1.2.1).toNat].length) * 1 ≤ 140737488355328) = true then
         some (Sum.inl ((), (), v1.2.2.2.2.1, v1.2.2.2.2.2.1 ++ [UInt8.ofNat 92, UInt8.ofNat (IntKind.u8.wrap v1.2.1).toNat], ()))
        else none
       else
        if decide (v1.2.1 = 8) = true then
         if decide ((v1.2.2.2.2.2.1.length + [92, 98].length) * 1 ≤ 140737488355328) = true then
          some (Sum.inl ((), (), v1.2.2.2.2.1, v1.2.2.2.2.2.1 ++ [92, 98], ()))
         else none
        else
         if decide (v1.2.1 = 12) = true then
          if decide ((v1.2.2.2.2.2.1.length + [92, 102].length) * 1 ≤ 140737488355328) = true then
           some (Sum.inl ((), (), v1.2.2.2.2.1, v1.2.2.2.2.2.1 ++ [92, 102], ()))
          else none
         else
          if decide (v1.2.1 = 10) = true then
           if decide ((v1.2.2.2.2.2.1.length + [92, 110].length) * 1 ≤ 140737488355328) = true then
            some (Sum.inl ((), (), v1.2.2.2.2.1, v1.2.2.2.2.2.1 ++ [92, 110], ()))
           else none
          else
           if decide (v1.2.1 = 13) = true then
            if decide ((v1.2.2.2.2.2.1.length + [92, 114].length) * 1 ≤ 140737488355328) = true then
             some (Sum.inl ((), (), v1.2.2.2.2.1, v1.2.2.2.2.2.1 ++ [92, 114], ()))
            else none
           else
            if decide (v1.2.1 = 9) = true then
             if decide ((v1.2.2.2.2.2.1.length + [92, 116].length) * 1 ≤ 140737488355328) = true then
              some (Sum.inl ((), (), v1.2.2.2.2.1, v1.2.2.2.2.2.1 ++ [92, 116], ()))
             else none
            else
             if decide (v1.2.1 < 32) = true then
              if decide ((v1.2.2.2.2.2.1.length + [92, 117, 48, 48].length) * 1 ≤ 140737488355328) = true then
               (idx ([48, 49, 50, 51, 52, 53, 54, 55, 56, 57, 97, 98, 99, 100, 101, 102] : List UInt8) (shr IntKind.i32 v1.2.1 4)).bind fun v2 =>
                (idx ([48, 49, 50, 51, 52, 53, 54, 55, 56, 57, 97, 98, 99, 100, 101, 102] : List UInt8) (iand IntKind.i32 v1.2.1 15)).bind fun v3 =>
                 if
                   decide
                     (((v1.2.2.2.2.2.1 ++ [92, 117, 48, 48]).length +
                        [UInt8.ofNat (↑v2.toNat : Int).toNat, UInt8.ofNat (↑v3.toNat : Int).toNat].length) *
                       1 ≤
                      140737488355328) =
                    true then
                  some
                   (Sum.inl
                    ((), (), v1.2.2.2.2.1,
                      v1.2.2.2.2.2.1 ++ [92, 117, 48, 48] ++ [UInt8.ofNat (↑v2.toNat : Int).toNat, UInt8.ofNat (↑v3.toNat : Int).toNat],
                      ()))
                 else none
              else none
             else (M_unicode_utf8_AppendRune F (v1.2.2.2.2.2.1, v1.2.1)).bind fun v4 => some (Sum.inl ((), (), v1.2.2.2.2.1, v4, ()))
     else some (Sum.inr ((), v0.2.2.2.1, ()))
noncomputable def M_json_quote (F : Nat) (x : (List (El .u8)) × (List UInt8)) : Option (List (El .u8)) :=
 if decide ((x.1.length + [UInt8.ofNat 34].length) * 1 ≤ 140737488355328) = true then
  (loopM (M_json_quote_l0 F)
     F ((), (), (x.2, 0), x.1 ++ [UInt8.ofNat 34], ())).bind
   fun v5 => if decide ((v5.2.1.length + [UInt8.ofNat 34].length) * 1 ≤ 140737488355328) = true then some (v5.2.1 ++ [UInt8.ofNat 34]) else none
 else none
theorem t_json_quote (x : (List (El .u8)) × (List UInt8)) (F : Nat) : fnRun TT Tryz.prog (e_json_quote F) s_json_quote (bodyOf 163) F x = M_json_quote F x := by kernel_rfl
theorem c_json_quote (F : Nat) : Ctr TT Tryz.prog 163 (conOf TT s_json_quote (M_json_quote F)) :=
 ctr_of (code := bodyOf 163) Tryz.func163 (by kernel_rfl) (by kernel_rfl) (by kernel_rfl) (by kernel_rfl) (envS_ok envN_ok (c_unicode_utf8_AppendRune F)) hm (by kernel_rfl) (fun x r h => ⟨F, (t_json_quote x F).trans h⟩)
end Go.Vm
/- Models of functions of the program, and that each keeps its contract: for all arguments of its shape. No condition. -/
namespace Go.Vm
open Go.Proofs
set_option linter.unusedVariables false
namespace Apt
open Go.Proofs Go.Shelf Go.RowKit
def r_ren : Ren := ⟨fun | 129 => 292 | 176 => 162 | 249 => 217 | 283 => 275 | 284 => 276 | 285 => 277 | 286 => 278 | 288 => 259 | 317 => 291 | 318 => 293 | 319 => 294 | 320 => 295 | 337 => 310 | 338 => 311 | n => n, fun | 0 => 0 | 2 => 2 | 3 => 3 | 4 => 4 | 5 => 5 | 9 => 9 | 20 => 20 | 37 => 106 | 46 => 228 | 51 => 252 | 53 => 250 | 171 => 262 | 173 => 265 | 212 => 282 | 213 => 283 | 232 => 305 | 233 => 306 | n => n, fun | 17 => 5 | 18 => 6 | 19 => 7 | n => n⟩
theorem r_lays : LaysM.n176 Tryz.prog r_ren := { mixed := (by kernel_rfl), f129 := Tryz.func292.trans (congrArg some (by kernel_rfl)), f176 := Tryz.func162.trans (congrArg some (by kernel_rfl)), f249 := Tryz.func217.trans (congrArg some (by kernel_rfl)), f283 := Tryz.func275.trans (congrArg some (by kernel_rfl)), f284 := Tryz.func276.trans (congrArg some (by kernel_rfl)), f285 := Tryz.func277.trans (congrArg some (by kernel_rfl)), f286 := Tryz.func278.trans (congrArg some (by kernel_rfl)), f288 := Tryz.func259.trans (congrArg some (by kernel_rfl)), f317 := Tryz.func291.trans (congrArg some (by kernel_rfl)), f318 := Tryz.func293.trans (congrArg some (by kernel_rfl)), f319 := Tryz.func294.trans (congrArg some (by kernel_rfl)), f320 := Tryz.func295.trans (congrArg some (by kernel_rfl)), f337 := Tryz.func310.trans (congrArg some (by kernel_rfl)), f338 := Tryz.func311.trans (congrArg some (by kernel_rfl)), t0 := Tryz.underlying0, a0 := Tryz.isAgg0, z0 := Tryz.sizeOf0, v0 := Tryz.zeroValue0, t2 := Tryz.underlying2, a2 := Tryz.isAgg2, z2 := Tryz.sizeOf2, v2 := Tryz.zeroValue2, t3 := Tryz.underlying3, a3 := Tryz.isAgg3, z3 := Tryz.sizeOf3, v3 := Tryz.zeroValue3, t4 := Tryz.underlying4, a4 := Tryz.isAgg4, z4 := Tryz.sizeOf4, v4 := Tryz.zeroValue4, t5 := Tryz.underlying5, a5 := Tryz.isAgg5, z5 := Tryz.sizeOf5, v5 := Tryz.zeroValue5, t9 := Tryz.underlying9, a9 := Tryz.isAgg9, z9 := Tryz.sizeOf9, v9 := Tryz.zeroValue9, t20 := Tryz.underlying20, a20 := Tryz.isAgg20, z20 := Tryz.sizeOf20, v20 := Tryz.zeroValue20, t37 := Tryz.underlying106, a37 := Tryz.isAgg106, z37 := Tryz.sizeOf106, v37 := Tryz.zeroValue106, t46 := Tryz.underlying228, a46 := Tryz.isAgg228, z46 := Tryz.sizeOf228, v46 := Tryz.zeroValue228, t51 := Tryz.underlying252, a51 := Tryz.isAgg252, z51 := Tryz.sizeOf252, v51 := Tryz.zeroValue252, t53 := Tryz.underlying250, a53 := Tryz.isAgg250, z53 := Tryz.sizeOf250, v53 := Tryz.zeroValue250, t171 := Tryz.underlying262, a171 := Tryz.isAgg262, z171 := Tryz.sizeOf262, v171 := Tryz.zeroValue262, t173 := Tryz.underlying265, a173 := Tryz.isAgg265, z173 := Tryz.sizeOf265, v173 := Tryz.zeroValue265, t212 := Tryz.underlying282, a212 := Tryz.isAgg282, z212 := Tryz.sizeOf282, v212 := Tryz.zeroValue282, t213 := Tryz.underlying283, a213 := Tryz.isAgg283, z213 := Tryz.sizeOf283, t232 := Tryz.underlying305, a232 := Tryz.isAgg305, z232 := Tryz.sizeOf305, v232 := Tryz.zeroValue305, t233 := Tryz.underlying306, a233 := Tryz.isAgg306, z233 := Tryz.sizeOf306, v233 := Tryz.zeroValue306, g17 := (by kernel_rfl), g18 := (by kernel_rfl), g19 := (by kernel_rfl), i0 := (by kernel_rfl), i2 := (by kernel_rfl), i3 := (by kernel_rfl), i4 := (by kernel_rfl), i5 := (by kernel_rfl), i9 := (by kernel_rfl), i20 := (by kernel_rfl), i37 := (by kernel_rfl), i46 := (by kernel_rfl), i51 := (by kernel_rfl), i53 := (by kernel_rfl), i171 := (by kernel_rfl), i173 := (by kernel_rfl), i212 := (by kernel_rfl), i232 := (by kernel_rfl), i233 := (by kernel_rfl), m17 := (by kernel_rfl), m18 := (by kernel_rfl), m19 := (by kernel_rfl) }
end Apt
noncomputable def s_strconv_AppendInt : Spec Kd := sAppInt 5
noncomputable def M_strconv_AppendInt (F : Nat) (x : List UInt8 × Int × Int) : Option (List UInt8) := MAppInt x
theorem c_strconv_AppendInt (F : Nat) : Ctr TT Tryz.prog 162 (conOf TT s_strconv_AppendInt (M_strconv_AppendInt F)) := ctr_appInt (kt := kt) (ρ := Apt.r_ren) Apt.r_lays (fun w h => h.tab _ (List.mem_cons_self ..)) Tryz.func162 (by kernel_rfl) (by kernel_rfl) rfl
noncomputable def s_internal_strconv_AppendBool : Spec Kd := { params := [(.a (.row 5 .u8)), (.a .bool)], ret := (.one (.a (.row 5 .u8))), pins := [], pl := { nt := 10, orc := { rv := [4, 6, 7, 8, 9], gv := [] } }, rfrz := [], ts := [4] }
noncomputable def e_internal_strconv_AppendBool (F : Nat) : Env El := envN
noncomputable def M_internal_strconv_AppendBool (F : Nat) (x : (List (El .u8)) × (Bool)) : Option (List (El .u8)) :=
 if x.2 = true then if decide ((x.1.length + [116, 114, 117, 101].length) * 1 ≤ 140737488355328) = true then some (x.1 ++ [116, 114, 117, 101]) else none
 else if decide ((x.1.length + [102, 97, 108, 115, 101].length) * 1 ≤ 140737488355328) = true then some (x.1 ++ [102, 97, 108, 115, 101]) else none
theorem t_internal_strconv_AppendBool (x : (List (El .u8)) × (Bool)) (F : Nat) : fnRun TT Tryz.prog (e_internal_strconv_AppendBool F) s_internal_strconv_AppendBool (bodyOf 219) F x = M_internal_strconv_AppendBool F x := by kernel_rfl
theorem c_internal_strconv_AppendBool (F : Nat) : Ctr TT Tryz.prog 219 (conOf TT s_internal_strconv_AppendBool (M_internal_strconv_AppendBool F)) :=
 ctr_of (code := bodyOf 219) Tryz.func219 (by kernel_rfl) (by kernel_rfl) (by kernel_rfl) (by kernel_rfl) envN_ok hm (by kernel_rfl) (fun x r h => ⟨F, (t_internal_strconv_AppendBool x F).trans h⟩)
noncomputable def s_strconv_AppendBool : Spec Kd := { params := [(.a (.row 5 .u8)), (.a .bool)], ret := (.one (.a (.row 5 .u8))), pins := [], pl := { nt := 8, orc := { rv := [4, 7], gv := [5] } }, rfrz := [], ts := [4] }
noncomputable def e_strconv_AppendBool (F : Nat) : Env El := (envS 219 (conOf TT s_internal_strconv_AppendBool (M_internal_strconv_AppendBool F)) envN)
noncomputable def M_strconv_AppendBool (F : Nat) (x : (List (El .u8)) × (Bool)) : Option (List (El .u8)) :=
 (M_internal_strconv_AppendBool F x).bind fun v0 => some v0
theorem t_strconv_AppendBool (x : (List (El .u8)) × (Bool)) (F : Nat) : fnRun TT Tryz.prog (e_strconv_AppendBool F) s_strconv_AppendBool (bodyOf 164) F x = M_strconv_AppendBool F x := by kernel_rfl
theorem c_strconv_AppendBool (F : Nat) : Ctr TT Tryz.prog 164 (conOf TT s_strconv_AppendBool (M_strconv_AppendBool F)) :=
 ctr_of (code := bodyOf 164) Tryz.func164 (by kernel_rfl) (by kernel_rfl) (by kernel_rfl) (by kernel_rfl) (envS_ok envN_ok (c_internal_strconv_AppendBool F)) hm (by kernel_rfl) (fun x r h => ⟨F, (t_strconv_AppendBool x F).trans h⟩)
noncomputable def s_json_lay : Spec Kd := { params := [(.a (.row 5 .u8)), (.a (.any .jv))], ret := (.one (.a (.row 5 .u8))), pins := [], pl := { nt := 110, orc := { rv := [4, 27, 36, 45, 71, 73, 105, 107, 108, 109], gv := [25, 34, 43, 67, 95, 100] }, joins := [(2900091, (.norm, ⟨[.tmp 0 (.a (.rowp 1)), .tmp 18 (.a (.ptr 1152 0)), .tmp 83 (.a (.slc .me)), .tmp 84 (.a (.int .i64)), .tmp 85 (.a (.int .i64)), .box 1 (.row 5 .u8), .box 1152 (.cells 206 [.str, (.any .jv)])], [6272], [.tmpRow 0 1 5 .u8]⟩), []), (1800063, (.norm, ⟨[.tmp 0 (.a (.rowp 1)), .tmp 14 (.a (.any .jv)), .tmp 55 (.a (.slc .jv)), .tmp 56 (.a (.int .i64)), .tmp 57 (.a (.int .i64)), .box 1 (.row 5 .u8)], [6272], [.tmpRow 0 1 5 .u8]⟩), [])], loops := [(2, ⟨[.tmp 0 (.a (.rowp 1)), .tmp 83 (.a (.slc .me)), .tmp 84 (.a (.int .i64)), .tmp 85 (.a (.int .i64)), .box 1 (.row 5 .u8)], [6272], [.tmpRow 0 1 5 .u8]⟩, (.exit 2, ⟨[.tmp 0 (.a (.rowp 1)), .box 1 (.row 5 .u8)], [6272], [.tmpRow 0 1 5 .u8]⟩), []), (0, ⟨[.tmp 0 (.a (.rowp 1)), .tmp 55 (.a (.slc .jv)), .tmp 56 (.a (.int .i64)), .tmp 57 (.a (.int .i64)), .box 1 (.row 5 .u8)], [6272], [.tmpRow 0 1 5 .u8]⟩, (.exit 0, ⟨[.tmp 0 (.a (.rowp 1)), .box 1 (.row 5 .u8)], [6272], [.tmpRow 0 1 5 .u8]⟩), [])], frz := [(29, [1152])] }, rfrz := [], ts := [4] }
noncomputable def e_json_lay (F : Nat) (R : tyS El s_json_lay.params → Option (s_json_lay.R El)) : Env El := (envS 102 (conOf TT s_json_lay R) (envS 164 (conOf TT s_strconv_AppendBool (M_strconv_AppendBool F)) (envS 163 (conOf TT s_json_quote (M_json_quote F)) (envS 162 (conOf TT s_strconv_AppendInt (M_strconv_AppendInt F)) envN))))
noncomputable def Mb_json_lay_l0 (F : Nat) (R : (List (El .u8)) × (El .jv) → Option (List (El .u8))) (v7 : (Unit × List JV × Int × Int × List UInt8 × Unit)) : Option ((Unit × List JV × Int × Int × List UInt8 × Unit) ⊕ (Unit × List UInt8 × Unit)) :=
 if decide (v7.2.2.2.1 < v7.2.2.1) = true then
           (idx v7.2.1 v7.2.2.2.1).bind fun (v8 : JV) =>
            (if decide (0 < v7.2.2.2.1) = true then
               if decide ((v7.2.2.2.2.1.length + [UInt8.ofNat 44].length) * 1 ≤ 140737488355328) = true then
                some ((), v8, v7.2.1, v7.2.2.1, v7.2.2.2.1, v7.2.2.2.2.1 ++ [UInt8.ofNat 44], ())
               else none
              else some ((), v8, v7.2.1, v7.2.2.1, v7.2.2.2.1, v7.2.2.2.2.1, ())).bind
             fun (v9 : Unit × JV × List JV × Int × Int × List UInt8 × Unit) =>
             (R (v9.2.2.2.2.2.1, v9.2.1)).bind fun (v10 : List UInt8) =>
              some (Sum.inl ((), v9.2.2.1, v9.2.2.2.1, IntKind.i64.wrap (v9.2.2.2.2.1 + 1), v10, ()))
          else some (Sum.inr ((), v7.2.2.2.2.1, ()))
noncomputable def Mb_json_lay_l1 (F : Nat) (R : (List (El .u8)) × (El .jv) → Option (List (El .u8))) (v13 : (Unit × List (List UInt8 × JV × Unit) × Int × Int × List UInt8 × Unit)) : Option ((Unit × List (List UInt8 × JV × Unit) × Int × Int × List UInt8 × Unit) ⊕ (Unit × List UInt8 × Unit)) :=
 if decide (v13.2.2.2.1 < v13.2.2.1) = true then
            (idx v13.2.1 v13.2.2.2.1).bind fun (v14 : List UInt8 × JV × Unit) =>
             (if decide (0 < v13.2.2.2.1) = true then
                if decide ((v13.2.2.2.2.1.length + [UInt8.ofNat 44].length) * 1 ≤ 140737488355328) = true then
                 some ((), (), v13.2.1, v13.2.2.1, v13.2.2.2.1, v13.2.2.2.2.1 ++ [UInt8.ofNat 44], (v14.1, v14.2.1, ()), ())
                else none
               else some ((), (), v13.2.1, v13.2.2.1, v13.2.2.2.1, v13.2.2.2.2.1, (v14.1, v14.2.1, ()), ())).bind
              fun (v15 : Unit × Unit × List (List UInt8 × JV × Unit) × Int × Int × List UInt8 × (List UInt8 × JV × Unit) × Unit) =>
              (M_json_quote F (v15.2.2.2.2.2.1, v15.2.2.2.2.2.2.1.1)).bind fun (v16 : List UInt8) =>
               if decide ((v16.length + [UInt8.ofNat 58].length) * 1 ≤ 140737488355328) = true then
                (R (v16 ++ [UInt8.ofNat 58], v15.2.2.2.2.2.2.1.2.1)).bind fun (v17 : List UInt8) =>
                 some (Sum.inl ((), v15.2.2.1, v15.2.2.2.1, IntKind.i64.wrap (v15.2.2.2.2.1 + 1), v17, ()))
               else none
           else some (Sum.inr ((), v13.2.2.2.2.1, ()))
noncomputable def Mb_json_lay (F : Nat) (R : (List (El .u8)) × (El .jv) → Option (List (El .u8))) (x : (List (El .u8)) × (El .jv)) : Option (List (El .u8)) :=
 if isSo x.2.int? = true then x.2.int?.bind fun (v0 : Int) => (M_strconv_AppendInt F (x.1, v0, 10)).bind fun (v1 : List UInt8) => some v1
 else
  if isSo x.2.str? = true then x.2.str?.bind fun (v2 : List UInt8) => (M_json_quote F (x.1, v2)).bind fun (v3 : List UInt8) => some v3
  else
   if isSo x.2.bool? = true then x.2.bool?.bind fun (v4 : Bool) => (M_strconv_AppendBool F (x.1, v4)).bind fun (v5 : List UInt8) => some v5
   else
    if isSo x.2.list? = true then
     x.2.list?.bind fun (v6 : List JV) =>
      if decide ((x.1.length + [UInt8.ofNat 91].length) * 1 ≤ 140737488355328) = true then
       (loopM (Mb_json_lay_l0 F R)
          F ((), v6, (↑v6.length : Int), 0, x.1 ++ [UInt8.ofNat 91], ())).bind
        fun (v11 : Unit × List UInt8 × Unit) =>
        if decide ((v11.2.1.length + [UInt8.ofNat 93].length) * 1 ≤ 140737488355328) = true then some (v11.2.1 ++ [UInt8.ofNat 93]) else none
      else none
    else
     if isSo x.2.obj? = true then
      x.2.obj?.bind fun (v12 : List (List UInt8 × JV × Unit)) =>
       if decide ((x.1.length + [UInt8.ofNat 123].length) * 1 ≤ 140737488355328) = true then
        (loopM (Mb_json_lay_l1 F R)
           F ((), v12, (↑v12.length : Int), 0, x.1 ++ [UInt8.ofNat 123], ())).bind
         fun (v18 : Unit × List UInt8 × Unit) =>
         if decide ((v18.2.1.length + [UInt8.ofNat 125].length) * 1 ≤ 140737488355328) = true then some (v18.2.1 ++ [UInt8.ofNat 125]) else none
       else none
     else if decide ((x.1.length + [110, 117, 108, 108].length) * 1 ≤ 140737488355328) = true then some (x.1 ++ [110, 117, 108, 108]) else none
noncomputable def Mr_json_lay (F : Nat) : Nat → ((List (El .u8)) × (El .jv)) → Option (List (El .u8))
 | 0, _ => none
 | d + 1, x => Mb_json_lay F (Mr_json_lay F d) x
noncomputable def M_json_lay (F : Nat) (x : (List (El .u8)) × (El .jv)) : Option (List (El .u8)) := Mr_json_lay F F x
theorem t_json_lay (x : (List (El .u8)) × (El .jv)) (F : Nat) (R : (List (El .u8)) × (El .jv) → Option (List (El .u8))) : fnRun TT Tryz.prog (e_json_lay F R) s_json_lay (bodyOf 102) F x = Mb_json_lay F R x := by kernel_rfl
theorem cr_json_lay (F : Nat) : ∀ d, Ctr TT Tryz.prog 102 (conOf TT s_json_lay (Mr_json_lay F d))
 | 0 => ctr_none _ _ _ _ (fun _ => rfl)
 | d + 1 => ctr_of (code := bodyOf 102) Tryz.func102 (by kernel_rfl) (by kernel_rfl) (by kernel_rfl) (by kernel_rfl) (envS_ok (envS_ok (envS_ok (envS_ok envN_ok (c_strconv_AppendInt F)) (c_json_quote F)) (c_strconv_AppendBool F)) (cr_json_lay F d)) hm (by kernel_rfl) (fun x r h => ⟨F, (t_json_lay x F (Mr_json_lay F d)).trans h⟩)
theorem c_json_lay (F : Nat) : Ctr TT Tryz.prog 102 (conOf TT s_json_lay (M_json_lay F)) := cr_json_lay F F
end Go.Vm
