/- Models of functions of the program, and that each keeps its contract: for all arguments of its shape. No condition. -/
import Derived.Test.YtihpjgcbmipdbaaGreatDoorKt
import Derived.Test.YtihpjgcbmipdbaaGreatDoorFjrd
import Derived.Test.YtihpjgcbmipdbaaGreatDoorFjnum
import Derived.Test.YtihpjgcbmipdbaaGreatDoorFjsort
namespace Go.Vm
open Go.Proofs
set_option linter.unusedVariables false
noncomputable def s_json_reader_value : Spec Kd := { params := [(.pin 191 [.str, (.int .i64), (.int .i64), (.int .i64)])], ret := (.one (.a (.any .jv))), pins := [[.str, (.int .i64), (.int .i64), (.int .i64)]], pl := { nt := 93, cuts := [(17, [(6, ⟨[.tmp 0 (.a (.ptr 1 0)), .tmp 82 (.a .bool), .box 1 (.cells 191 [.str, (.int .i64), (.int .i64), (.int .i64)])], [], []⟩)]), (14, [(6, ⟨[.tmp 0 (.a (.ptr 1 0)), .tmp 3 (.a (.int .u8)), .tmp 4 (.a .str), .tmp 67 (.a .bool), .box 1 (.cells 191 [.str, (.int .i64), (.int .i64), (.int .i64)])], [], []⟩)]), (11, [(6, ⟨[.tmp 0 (.a (.ptr 1 0)), .tmp 3 (.a (.int .u8)), .tmp 4 (.a .str), .tmp 51 (.a .bool), .box 1 (.cells 191 [.str, (.int .i64), (.int .i64), (.int .i64)])], [], []⟩)]), (9, [(10, ⟨[.tmp 0 (.a (.ptr 1 0)), .tmp 3 (.a (.int .u8)), .tmp 4 (.a .str), .tmp 42 (.a .bool), .box 1 (.cells 191 [.str, (.int .i64), (.int .i64), (.int .i64)])], [], []⟩)])], ends := [(2, ⟨[.tmp 0 (.a (.ptr 1 0)), .tmp 3 (.a (.int .u8)), .tmp 4 (.a .str), .box 1 (.cells 191 [.str, (.int .i64), (.int .i64), (.int .i64)])], [], []⟩)] }, rfrz := [], ts := [2], rco := [.tmpAny 2 .jv] }
noncomputable def s_json_reader_list : Spec Kd := { params := [(.pin 191 [.str, (.int .i64), (.int .i64), (.int .i64)])], ret := (.one (.a (.any .jv))), pins := [[.str, (.int .i64), (.int .i64), (.int .i64)]], pl := { nt := 26, orc := { rv := [3, 6, 16, 20], gv := [] }, loops := [(0, ⟨[.tmp 0 (.a (.ptr 1 0)), .tmp 3 (.a (.rowp 192)), .box 192 (.row 20 .jv), .box 1 (.cells 191 [.str, (.int .i64), (.int .i64), (.int .i64)])], [], [.tmpRow 3 192 20 .jv]⟩, (.exit 0, ⟨[.tmp 0 (.a (.ptr 1 0)), .tmp 3 (.a (.rowp 192)), .box 192 (.row 20 .jv), .box 1 (.cells 191 [.str, (.int .i64), (.int .i64), (.int .i64)])], [], [.tmpRow 3 192 20 .jv]⟩), [])], frz := [(4, [192, 384]), (8, [192, 384])] }, rfrz := [], ts := [2], rco := [.tmpAny 2 .jv] }
noncomputable def e_json_reader_list (F : Nat) (R : tyS El s_json_reader_value.params → Option (s_json_reader_value.R El)) : Env El := (envS 159 (conOf TT s_json_reader_value R) (envS 253 (conOf TT s_json_reader_comma (M_json_reader_comma F)) (envS 252 (conOf TT s_json_reader_leave (M_json_reader_leave F)) (envS 251 (conOf TT s_json_reader_enter (M_json_reader_enter F)) envN))))
noncomputable def M_json_reader_list_l0 (F : Nat) (R : ((List UInt8) × (Int) × (Int) × (Int) × Unit) → Option ((El .jv) × ((List UInt8) × (Int) × (Int) × (Int) × Unit))) (v2 : (Unit × Unit × List JV × (List UInt8 × Int × Int × Int × Unit) × Unit)) : Option ((Unit × Unit × List JV × (List UInt8 × Int × Int × Int × Unit) × Unit) ⊕ (Unit × Unit × List JV × (List UInt8 × Int × Int × Int × Unit) × Unit)) :=
 if decide (v2.2.2.2.1.2.2.2.1 = 0) = true then
        (R (v2.2.2.2.1.1, v2.2.2.2.1.2.1, v2.2.2.2.1.2.2.1, v2.2.2.2.1.2.2.2.1, ())).bind fun (v3 : JV × List UInt8 × Int × Int × Int × Unit) =>
         if decide ((v2.2.2.1.length + [v3.1].length) * 16 ≤ 140737488355328) = true then
          (M_json_reader_comma F ((v3.2.1, v3.2.2.1, v3.2.2.2.1, v3.2.2.2.2.1, ()), 93)).bind
           fun (v4 : Bool × List UInt8 × Int × Int × Int × Unit) =>
           if (!v4.1) = true then some (Sum.inr ((), (), v2.2.2.1 ++ [v3.1], (v4.2.1, v4.2.2.1, v4.2.2.2.1, v4.2.2.2.2.1, ()), ()))
           else some (Sum.inl ((), (), v2.2.2.1 ++ [v3.1], (v4.2.1, v4.2.2.1, v4.2.2.2.1, v4.2.2.2.2.1, ()), ()))
         else none
       else some (Sum.inr ((), (), v2.2.2.1, (v2.2.2.2.1.1, v2.2.2.2.1.2.1, v2.2.2.2.1.2.2.1, v2.2.2.2.1.2.2.2.1, ()), ()))
noncomputable def M_json_reader_list (F : Nat) (R : ((List UInt8) × (Int) × (Int) × (Int) × Unit) → Option ((El .jv) × ((List UInt8) × (Int) × (Int) × (Int) × Unit))) (x : ((List UInt8) × (Int) × (Int) × (Int) × Unit)) : Option ((El .jv) × ((List UInt8) × (Int) × (Int) × (Int) × Unit)) :=
 (M_json_reader_enter F (x.1, x.2.1, x.2.2.1, x.2.2.2.1, ())).bind fun (v0 : Unit × List UInt8 × Int × Int × Int × Unit) =>
  (M_json_reader_leave F ((v0.2.1, v0.2.2.1, v0.2.2.2.1, v0.2.2.2.2.1, ()), 93)).bind fun (v1 : Bool × List UInt8 × Int × Int × Int × Unit) =>
   if v1.1 = true then some (JV.list [], v1.2.1, v1.2.2.1, v1.2.2.2.1, v1.2.2.2.2.1, ())
   else
    (loopM (M_json_reader_list_l0 F R)
       F ((), (), [], (v1.2.1, v1.2.2.1, v1.2.2.2.1, v1.2.2.2.2.1, ()), ())).bind
     fun (v5 : Unit × Unit × List JV × (List UInt8 × Int × Int × Int × Unit) × Unit) =>
     some (JV.list v5.2.2.1, v5.2.2.2.1.1, v5.2.2.2.1.2.1, v5.2.2.2.1.2.2.1, v5.2.2.2.1.2.2.2.1, ())
theorem t_json_reader_list (x : ((List UInt8) × (Int) × (Int) × (Int) × Unit)) (F : Nat) (R : ((List UInt8) × (Int) × (Int) × (Int) × Unit) → Option ((El .jv) × ((List UInt8) × (Int) × (Int) × (Int) × Unit))) : fnRun TT Tryz.prog (e_json_reader_list F R) s_json_reader_list (bodyOf 213) F x = M_json_reader_list F R x := by kernel_rfl
theorem c_json_reader_list (F : Nat) (R : ((List UInt8) × (Int) × (Int) × (Int) × Unit) → Option ((El .jv) × ((List UInt8) × (Int) × (Int) × (Int) × Unit))) (hR : Ctr TT Tryz.prog 159 (conOf TT s_json_reader_value R)) : Ctr TT Tryz.prog 213 (conOf TT s_json_reader_list (M_json_reader_list F R)) :=
 ctr_of (code := bodyOf 213) Tryz.func213 (by kernel_rfl) (by kernel_rfl) (by kernel_rfl) (by kernel_rfl) (envS_ok (envS_ok (envS_ok (envS_ok envN_ok (c_json_reader_enter F)) (c_json_reader_leave F)) (c_json_reader_comma F)) hR) hm (by kernel_rfl) (fun x r h => ⟨F, (t_json_reader_list x F R).trans h⟩)
noncomputable def s_json_reader_object : Spec Kd := { params := [(.pin 191 [.str, (.int .i64), (.int .i64), (.int .i64)])], ret := (.one (.a (.any .jv))), pins := [[.str, (.int .i64), (.int .i64), (.int .i64)]], pl := { nt := 63, orc := { rv := [3, 7, 49, 55], gv := [], ln := [59] }, joins := [(1100034, (.norm, ⟨[.tmp 0 (.a (.ptr 1 0)), .tmp 3 (.a (.rowp 192)), .tmp 4 (.a .str), .box 192 (.row 206 .me), .box 1 (.cells 191 [.str, (.int .i64), (.int .i64), (.int .i64)])], [], [.tmpRow 3 192 206 .me]⟩), [])], loops := [(0, ⟨[.tmp 0 (.a (.ptr 1 0)), .tmp 3 (.a (.rowp 192)), .box 192 (.row 206 .me), .box 1 (.cells 191 [.str, (.int .i64), (.int .i64), (.int .i64)])], [], [.tmpRow 3 192 206 .me]⟩, (.exit 0, ⟨[.tmp 0 (.a (.ptr 1 0)), .tmp 3 (.a (.rowp 192)), .box 192 (.row 206 .me), .box 1 (.cells 191 [.str, (.int .i64), (.int .i64), (.int .i64)])], [], [.tmpRow 3 192 206 .me]⟩), [])], cuts := [(9, [(11, ⟨[.tmp 0 (.a (.ptr 1 0)), .tmp 3 (.a (.rowp 192)), .tmp 4 (.a .str), .tmp 34 (.a .bool), .box 192 (.row 206 .me), .box 1 (.cells 191 [.str, (.int .i64), (.int .i64), (.int .i64)])], [], [.tmpRow 3 192 206 .me]⟩)])], frz := [(4, [192, 448]), (17, [192, 448])] }, rfrz := [], ts := [2], rco := [.tmpAny 2 .jv] }
noncomputable def e_json_reader_object (F : Nat) (R : tyS El s_json_reader_value.params → Option (s_json_reader_value.R El)) : Env El := (envS 159 (conOf TT s_json_reader_value R) (envS 254 (conOf TT s_slices_SortFunc_json_object_json_member (M_slices_SortFunc_json_object_json_member F)) (envS 253 (conOf TT s_json_reader_comma (M_json_reader_comma F)) (envS 192 (conOf TT s_json_object_find (M_json_object_find F)) (envS 214 (conOf TT s_json_reader_text (M_json_reader_text F)) (envS 161 (conOf TT s_json_reader_fail (M_json_reader_fail F)) (envS 160 (conOf TT s_json_reader_peek (M_json_reader_peek F)) (envS 252 (conOf TT s_json_reader_leave (M_json_reader_leave F)) (envS 251 (conOf TT s_json_reader_enter (M_json_reader_enter F)) envN)))))))))
noncomputable def M_json_reader_object_l0 (F : Nat) (R : ((List UInt8) × (Int) × (Int) × (Int) × Unit) → Option ((El .jv) × ((List UInt8) × (Int) × (Int) × (Int) × Unit))) (v2 : (Unit × Unit × List (List UInt8 × JV × Unit) × (List UInt8 × Int × Int × Int × Unit) × Unit)) : Option ((Unit × Unit × List (List UInt8 × JV × Unit) × (List UInt8 × Int × Int × Int × Unit) × Unit) ⊕ (Unit × Unit × List (List UInt8 × JV × Unit) × (List UInt8 × Int × Int × Int × Unit) × Unit)) :=
 if decide (v2.2.2.2.1.2.2.2.1 = 0) = true then
        (M_json_reader_peek F (v2.2.2.2.1.1, v2.2.2.2.1.2.1, v2.2.2.2.1.2.2.1, v2.2.2.2.1.2.2.2.1, ())).bind
         fun (v3 : Int × List UInt8 × Int × Int × Int × Unit) =>
         if (!decide (v3.1 = 34)) = true then
          (M_json_reader_fail F ((v3.2.1, v3.2.2.1, v3.2.2.2.1, v3.2.2.2.2.1, ()), 3)).bind fun (v4 : Unit × List UInt8 × Int × Int × Int × Unit) =>
           some (Sum.inr ((), (), v2.2.2.1, (v4.2.1, v4.2.2.1, v4.2.2.2.1, v4.2.2.2.2.1, ()), ()))
         else
          (M_json_reader_text F (v3.2.1, v3.2.2.1, v3.2.2.2.1, v3.2.2.2.2.1, ())).bind fun (v5 : List UInt8 × List UInt8 × Int × Int × Int × Unit) =>
           (if decide (v5.2.2.2.2.1 = 0) = true then
              (M_json_object_find F (v2.2.2.1, v5.1)).bind fun (v6 : Int) =>
               some ((), (), v5.1, decide (0 ≤ v6), v2.2.2.1, (v5.2.1, v5.2.2.1, v5.2.2.2.1, v5.2.2.2.2.1, ()), ())
             else some ((), (), v5.1, false, v2.2.2.1, (v5.2.1, v5.2.2.1, v5.2.2.2.1, v5.2.2.2.2.1, ()), ())).bind
            fun (v7 : Unit × Unit × List UInt8 × Bool × List (List UInt8 × JV × Unit) × (List UInt8 × Int × Int × Int × Unit) × Unit) =>
            (if v7.2.2.2.1 = true then
               (M_json_reader_fail F ((v7.2.2.2.2.2.1.1, v7.2.2.2.2.2.1.2.1, v7.2.2.2.2.2.1.2.2.1, v7.2.2.2.2.2.1.2.2.2.1, ()), 7)).bind
                fun (v8 : Unit × List UInt8 × Int × Int × Int × Unit) =>
                some ((), (), v7.2.2.1, v7.2.2.2.2.1, (v8.2.1, v8.2.2.1, v8.2.2.2.1, v8.2.2.2.2.1, ()), ())
              else
               some
                ((), (), v7.2.2.1, v7.2.2.2.2.1, (v7.2.2.2.2.2.1.1, v7.2.2.2.2.2.1.2.1, v7.2.2.2.2.2.1.2.2.1, v7.2.2.2.2.2.1.2.2.2.1, ()),
                  ())).bind
             fun (v9 : Unit × Unit × List UInt8 × List (List UInt8 × JV × Unit) × (List UInt8 × Int × Int × Int × Unit) × Unit) =>
             (M_json_reader_peek F (v9.2.2.2.2.1.1, v9.2.2.2.2.1.2.1, v9.2.2.2.2.1.2.2.1, v9.2.2.2.2.1.2.2.2.1, ())).bind
              fun (v10 : Int × List UInt8 × Int × Int × Int × Unit) =>
              if (!decide (v10.1 = 58)) = true then
               (M_json_reader_fail F ((v10.2.1, v10.2.2.1, v10.2.2.2.1, v10.2.2.2.2.1, ()), 3)).bind
                fun (v11 : Unit × List UInt8 × Int × Int × Int × Unit) =>
                some (Sum.inr ((), (), v9.2.2.2.1, (v11.2.1, v11.2.2.1, v11.2.2.2.1, v11.2.2.2.2.1, ()), ()))
              else
               (R (v10.2.1, IntKind.i64.wrap (v10.2.2.1 + 1), v10.2.2.2.1, v10.2.2.2.2.1, ())).bind
                fun (v12 : JV × List UInt8 × Int × Int × Int × Unit) =>
                if decide ((v9.2.2.2.1.length + [(v9.2.2.1, v12.1, Unit.unit)].length) * 32 ≤ 140737488355328) = true then
                 (M_json_reader_comma F ((v12.2.1, v12.2.2.1, v12.2.2.2.1, v12.2.2.2.2.1, ()), 125)).bind
                  fun (v13 : Bool × List UInt8 × Int × Int × Int × Unit) =>
                  if (!v13.1) = true then
                   some
                    (Sum.inr
                     ((), (), v9.2.2.2.1 ++ [(v9.2.2.1, v12.1, Unit.unit)], (v13.2.1, v13.2.2.1, v13.2.2.2.1, v13.2.2.2.2.1, ()), ()))
                  else
                   some
                    (Sum.inl
                     ((), (), v9.2.2.2.1 ++ [(v9.2.2.1, v12.1, Unit.unit)], (v13.2.1, v13.2.2.1, v13.2.2.2.1, v13.2.2.2.2.1, ()), ()))
                else none
       else some (Sum.inr ((), (), v2.2.2.1, (v2.2.2.2.1.1, v2.2.2.2.1.2.1, v2.2.2.2.1.2.2.1, v2.2.2.2.1.2.2.2.1, ()), ()))
noncomputable def M_json_reader_object (F : Nat) (R : ((List UInt8) × (Int) × (Int) × (Int) × Unit) → Option ((El .jv) × ((List UInt8) × (Int) × (Int) × (Int) × Unit))) (x : ((List UInt8) × (Int) × (Int) × (Int) × Unit)) : Option ((El .jv) × ((List UInt8) × (Int) × (Int) × (Int) × Unit)) :=
 (M_json_reader_enter F (x.1, x.2.1, x.2.2.1, x.2.2.2.1, ())).bind fun (v0 : Unit × List UInt8 × Int × Int × Int × Unit) =>
  (M_json_reader_leave F ((v0.2.1, v0.2.2.1, v0.2.2.2.1, v0.2.2.2.2.1, ()), 125)).bind fun (v1 : Bool × List UInt8 × Int × Int × Int × Unit) =>
   if v1.1 = true then some (JV.obj [], v1.2.1, v1.2.2.1, v1.2.2.2.1, v1.2.2.2.2.1, ())
   else
    (loopM (M_json_reader_object_l0 F R)
       F ((), (), [], (v1.2.1, v1.2.2.1, v1.2.2.2.1, v1.2.2.2.2.1, ()), ())).bind
     fun (v14 : Unit × Unit × List (List UInt8 × JV × Unit) × (List UInt8 × Int × Int × Int × Unit) × Unit) =>
     (M_slices_SortFunc_json_object_json_member F ((v14.2.2.1, ()), ())).bind fun (v15 : Unit × List (List UInt8 × JV × Unit) × Unit) =>
      some (JV.obj v15.2.1, v14.2.2.2.1.1, v14.2.2.2.1.2.1, v14.2.2.2.1.2.2.1, v14.2.2.2.1.2.2.2.1, ())
theorem t_json_reader_object (x : ((List UInt8) × (Int) × (Int) × (Int) × Unit)) (F : Nat) (R : ((List UInt8) × (Int) × (Int) × (Int) × Unit) → Option ((El .jv) × ((List UInt8) × (Int) × (Int) × (Int) × Unit))) : fnRun TT Tryz.prog (e_json_reader_object F R) s_json_reader_object (bodyOf 212) F x = M_json_reader_object F R x := by kernel_rfl
theorem c_json_reader_object (F : Nat) (R : ((List UInt8) × (Int) × (Int) × (Int) × Unit) → Option ((El .jv) × ((List UInt8) × (Int) × (Int) × (Int) × Unit))) (hR : Ctr TT Tryz.prog 159 (conOf TT s_json_reader_value R)) : Ctr TT Tryz.prog 212 (conOf TT s_json_reader_object (M_json_reader_object F R)) :=
 ctr_of (code := bodyOf 212) Tryz.func212 (by kernel_rfl) (by kernel_rfl) (by kernel_rfl) (by kernel_rfl) (envS_ok (envS_ok (envS_ok (envS_ok (envS_ok (envS_ok (envS_ok (envS_ok (envS_ok envN_ok (c_json_reader_enter F)) (c_json_reader_leave F)) (c_json_reader_peek F)) (c_json_reader_fail F)) (c_json_reader_text F)) (c_json_object_find F)) (c_json_reader_comma F)) (c_slices_SortFunc_json_object_json_member F)) hR) hm (by kernel_rfl) (fun x r h => ⟨F, (t_json_reader_object x F R).trans h⟩)
noncomputable def e_json_reader_value (F : Nat) (R : tyS El s_json_reader_value.params → Option (s_json_reader_value.R El)) : Env El := (envS 159 (conOf TT s_json_reader_value R) (envS 161 (conOf TT s_json_reader_fail (M_json_reader_fail F)) (envS 216 (conOf TT s_strings_HasPrefix (M_strings_HasPrefix F)) (envS 215 (conOf TT s_json_reader_number (M_json_reader_number F)) (envS 214 (conOf TT s_json_reader_text (M_json_reader_text F)) (envS 213 (conOf TT s_json_reader_list (M_json_reader_list F R)) (envS 212 (conOf TT s_json_reader_object (M_json_reader_object F R)) (envS 160 (conOf TT s_json_reader_peek (M_json_reader_peek F)) envN))))))))
noncomputable def Mb_json_reader_value (F : Nat) (R : ((List UInt8) × (Int) × (Int) × (Int) × Unit) → Option ((El .jv) × ((List UInt8) × (Int) × (Int) × (Int) × Unit))) (x : ((List UInt8) × (Int) × (Int) × (Int) × Unit)) : Option ((El .jv) × ((List UInt8) × (Int) × (Int) × (Int) × Unit)) :=
 (M_json_reader_peek F (x.1, x.2.1, x.2.2.1, x.2.2.2.1, ())).bind fun (v0 : Int × List UInt8 × Int × Int × Int × Unit) =>
  ((sub v0.2.1 v0.2.2.1 (↑v0.2.1.length : Int)).bind fun (v1 : List UInt8) => some ((), v0.1, v1, (v0.2.1, v0.2.2.1, v0.2.2.2.1, v0.2.2.2.2.1, ()), ())).bind
    fun (v2 : Unit × Int × List UInt8 × (List UInt8 × Int × Int × Int × Unit) × Unit) =>
    if decide (v2.2.1 = 123) = true then
      (M_json_reader_object F R (v2.2.2.2.1.1, v2.2.2.2.1.2.1, v2.2.2.2.1.2.2.1, v2.2.2.2.1.2.2.2.1, ())).bind
        fun (v3 : JV × List UInt8 × Int × Int × Int × Unit) => some v3
    else
      if decide (v2.2.1 = 91) = true then
        (M_json_reader_list F R (v2.2.2.2.1.1, v2.2.2.2.1.2.1, v2.2.2.2.1.2.2.1, v2.2.2.2.1.2.2.2.1, ())).bind
          fun (v4 : JV × List UInt8 × Int × Int × Int × Unit) => some v4
      else
        if decide (v2.2.1 = 34) = true then
          (M_json_reader_text F (v2.2.2.2.1.1, v2.2.2.2.1.2.1, v2.2.2.2.1.2.2.1, v2.2.2.2.1.2.2.2.1, ())).bind
            fun (v5 : List UInt8 × List UInt8 × Int × Int × Int × Unit) => some (JV.str v5.1, v5.2.1, v5.2.2.1, v5.2.2.2.1, v5.2.2.2.2.1, ())
        else
          (if decide (v2.2.1 = 45) = false then
                if decide (48 ≤ v2.2.1) = true then
                  some ((), v2.2.1, v2.2.2.1, decide (v2.2.1 ≤ 57), (v2.2.2.2.1.1, v2.2.2.2.1.2.1, v2.2.2.2.1.2.2.1, v2.2.2.2.1.2.2.2.1, ()), ())
                else some ((), v2.2.1, v2.2.2.1, false, (v2.2.2.2.1.1, v2.2.2.2.1.2.1, v2.2.2.2.1.2.2.1, v2.2.2.2.1.2.2.2.1, ()), ())
              else some ((), v2.2.1, v2.2.2.1, true, (v2.2.2.2.1.1, v2.2.2.2.1.2.1, v2.2.2.2.1.2.2.1, v2.2.2.2.1.2.2.2.1, ()), ())).bind
            fun (v6 : Unit × Int × List UInt8 × Bool × (List UInt8 × Int × Int × Int × Unit) × Unit) =>
            if v6.2.2.2.1 = true then
              (M_json_reader_number F (v6.2.2.2.2.1.1, v6.2.2.2.2.1.2.1, v6.2.2.2.2.1.2.2.1, v6.2.2.2.2.1.2.2.2.1, ())).bind
                fun (v7 : JV × List UInt8 × Int × Int × Int × Unit) => some v7
            else
              (if decide (v6.2.1 = 110) = true then
                    (M_strings_HasPrefix F (v6.2.2.1, [110, 117, 108, 108])).bind fun (v8 : Bool) =>
                      some ((), v6.2.1, v6.2.2.1, v8, (v6.2.2.2.2.1.1, v6.2.2.2.2.1.2.1, v6.2.2.2.2.1.2.2.1, v6.2.2.2.2.1.2.2.2.1, ()), ())
                  else some ((), v6.2.1, v6.2.2.1, false, (v6.2.2.2.2.1.1, v6.2.2.2.2.1.2.1, v6.2.2.2.2.1.2.2.1, v6.2.2.2.2.1.2.2.2.1, ()), ())).bind
                fun (v9 : Unit × Int × List UInt8 × Bool × (List UInt8 × Int × Int × Int × Unit) × Unit) =>
                if v9.2.2.2.1 = true then some (JV.null, v9.2.2.2.2.1.1, IntKind.i64.wrap (v9.2.2.2.2.1.2.1 + 4), v9.2.2.2.2.1.2.2.1, v9.2.2.2.2.1.2.2.2.1, ())
                else
                  (if decide (v9.2.1 = 116) = true then
                        (M_strings_HasPrefix F (v9.2.2.1, [116, 114, 117, 101])).bind fun (v10 : Bool) =>
                          some ((), v9.2.1, v9.2.2.1, v10, (v9.2.2.2.2.1.1, v9.2.2.2.2.1.2.1, v9.2.2.2.2.1.2.2.1, v9.2.2.2.2.1.2.2.2.1, ()), ())
                      else some ((), v9.2.1, v9.2.2.1, false, (v9.2.2.2.2.1.1, v9.2.2.2.2.1.2.1, v9.2.2.2.2.1.2.2.1, v9.2.2.2.2.1.2.2.2.1, ()), ())).bind
                    fun (v11 : Unit × Int × List UInt8 × Bool × (List UInt8 × Int × Int × Int × Unit) × Unit) =>
                    if v11.2.2.2.1 = true then
                      some (JV.bool true, v11.2.2.2.2.1.1, IntKind.i64.wrap (v11.2.2.2.2.1.2.1 + 4), v11.2.2.2.2.1.2.2.1, v11.2.2.2.2.1.2.2.2.1, ())
                    else
                      (if decide (v11.2.1 = 102) = true then
                            (M_strings_HasPrefix F (v11.2.2.1, [102, 97, 108, 115, 101])).bind fun (v12 : Bool) =>
                              some ((), v12, (v11.2.2.2.2.1.1, v11.2.2.2.2.1.2.1, v11.2.2.2.2.1.2.2.1, v11.2.2.2.2.1.2.2.2.1, ()), ())
                          else some ((), false, (v11.2.2.2.2.1.1, v11.2.2.2.2.1.2.1, v11.2.2.2.2.1.2.2.1, v11.2.2.2.2.1.2.2.2.1, ()), ())).bind
                        fun (v13 : Unit × Bool × (List UInt8 × Int × Int × Int × Unit) × Unit) =>
                        if v13.2.1 = true then some (JV.bool false, v13.2.2.1.1, IntKind.i64.wrap (v13.2.2.1.2.1 + 5), v13.2.2.1.2.2.1, v13.2.2.1.2.2.2.1, ())
                        else
                          (M_json_reader_fail F ((v13.2.2.1.1, v13.2.2.1.2.1, v13.2.2.1.2.2.1, v13.2.2.1.2.2.2.1, ()), 3)).bind
                            fun (v14 : Unit × List UInt8 × Int × Int × Int × Unit) => some (JV.nil, v14.2.1, v14.2.2.1, v14.2.2.2.1, v14.2.2.2.2.1, ())
noncomputable def Mr_json_reader_value (F : Nat) : Nat → (((List UInt8) × (Int) × (Int) × (Int) × Unit)) → Option ((El .jv) × ((List UInt8) × (Int) × (Int) × (Int) × Unit))
 | 0, _ => none
 | d + 1, x => Mb_json_reader_value F (Mr_json_reader_value F d) x
noncomputable def M_json_reader_value (F : Nat) (x : ((List UInt8) × (Int) × (Int) × (Int) × Unit)) : Option ((El .jv) × ((List UInt8) × (Int) × (Int) × (Int) × Unit)) := Mr_json_reader_value F F x
theorem t_json_reader_value (x : ((List UInt8) × (Int) × (Int) × (Int) × Unit)) (F : Nat) (R : ((List UInt8) × (Int) × (Int) × (Int) × Unit) → Option ((El .jv) × ((List UInt8) × (Int) × (Int) × (Int) × Unit))) : fnRun TT Tryz.prog (e_json_reader_value F R) s_json_reader_value (bodyOf 159) F x = Mb_json_reader_value F R x := by kernel_rfl
theorem cr_json_reader_value (F : Nat) : ∀ d, Ctr TT Tryz.prog 159 (conOf TT s_json_reader_value (Mr_json_reader_value F d))
 | 0 => ctr_none _ _ _ _ (fun _ => rfl)
 | d + 1 => ctr_of (code := bodyOf 159) Tryz.func159 (by kernel_rfl) (by kernel_rfl) (by kernel_rfl) (by kernel_rfl) (envS_ok (envS_ok (envS_ok (envS_ok (envS_ok (envS_ok (envS_ok (envS_ok envN_ok (c_json_reader_peek F)) (c_json_reader_object F (Mr_json_reader_value F d) (cr_json_reader_value F d))) (c_json_reader_list F (Mr_json_reader_value F d) (cr_json_reader_value F d))) (c_json_reader_text F)) (c_json_reader_number F)) (c_strings_HasPrefix F)) (c_json_reader_fail F)) (cr_json_reader_value F d)) hm (by kernel_rfl) (fun x r h => ⟨F, (t_json_reader_value x F (Mr_json_reader_value F d)).trans h⟩)
theorem c_json_reader_value (F : Nat) : Ctr TT Tryz.prog 159 (conOf TT s_json_reader_value (M_json_reader_value F)) := cr_json_reader_value F F
end Go.Vm
