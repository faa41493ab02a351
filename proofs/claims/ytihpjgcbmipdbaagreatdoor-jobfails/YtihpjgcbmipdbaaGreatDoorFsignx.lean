import Derived.Test.YtihpjgcbmipdbaaGreatDoorKt
import Derived.Test.YtihpjgcbmipdbaaGreatDoorFphr
import Derived.Test.YtihpjgcbmipdbaaGreatDoorFshp
import Derived.Test.YtihpjgcbmipdbaaGreatDoorFsort
/- Models of functions of the program, and that each keeps its contract: for all arguments of its shape. No condition. -/
namespace Go.Vm
open Go.Proofs
set_option linter.unusedVariables false
noncomputable def s_prog_text : Spec Kd := { params := [(.a .str)], ret := (.one (.a .bool)), pins := [], pl := { nt := 10, cuts := [(1, [(7, ⟨[.tmp 9 (.a .bool)], [], []⟩)])] }, rfrz := [], ts := [2] }
noncomputable def e_prog_text (F : Nat) : Env El := (envS 201 (conOf TT s_phrase_Check (M_phrase_Check F)) (envS 200 (conOf TT s_strings_IndexByte (M_strings_IndexByte F)) envN))
noncomputable def M_prog_text (F : Nat) (x : (List UInt8)) : Option (Bool) :=
 ((M_strings_IndexByte F (x, 59)).bind fun v0 => if decide (v0 < 0) = true then (M_phrase_Check F x).bind fun v1 => some (v1, ()) else some (false, ())).bind
   fun v2 => some v2.1
theorem t_prog_text (x : (List UInt8)) (F : Nat) : fnRun TT Tryz.prog (e_prog_text F) s_prog_text (bodyOf 143) F x = M_prog_text F x := by kernel_rfl
theorem c_prog_text (F : Nat) : Ctr TT Tryz.prog 143 (conOf TT s_prog_text (M_prog_text F)) :=
 ctr_of (code := bodyOf 143) Tryz.func143 (by kernel_rfl) (by kernel_rfl) (by kernel_rfl) (by kernel_rfl) (envS_ok (envS_ok envN_ok (c_strings_IndexByte F)) (c_phrase_Check F)) hm (by kernel_rfl) (fun x r h => ⟨F, (t_prog_text x F).trans h⟩)
noncomputable def s_prog_right : Spec Kd := { params := [(.agg [(.int .i64), .str, (.int .i64), .str])], ret := (.one (.a .bool)), pins := [], pl := { nt := 78, cuts := [(3, [(8, ⟨[.tmp 1 (.a (.ptr 64 0)), .tmp 14 (.a .bool), .box 64 (.cells 62 [(.int .i64), .str, (.int .i64), .str])], [], []⟩), (8, ⟨[.tmp 22 (.a .bool)], [], []⟩)]), (5, [(8, ⟨[.tmp 1 (.a (.ptr 64 0)), .tmp 32 (.a .bool), .box 64 (.cells 62 [(.int .i64), .str, (.int .i64), .str])], [], []⟩), (5, ⟨[.tmp 1 (.a (.ptr 64 0)), .tmp 37 (.a .bool), .box 64 (.cells 62 [(.int .i64), .str, (.int .i64), .str])], [], []⟩), (5, ⟨[.tmp 42 (.a .bool)], [], []⟩)]), (7, [(8, ⟨[.tmp 1 (.a (.ptr 64 0)), .tmp 52 (.a .bool), .box 64 (.cells 62 [(.int .i64), .str, (.int .i64), .str])], [], []⟩), (5, ⟨[.tmp 57 (.a .bool)], [], []⟩)]), (9, [(8, ⟨[.tmp 1 (.a (.ptr 64 0)), .tmp 67 (.a .bool), .box 64 (.cells 62 [(.int .i64), .str, (.int .i64), .str])], [], []⟩), (5, ⟨[.tmp 1 (.a (.ptr 64 0)), .tmp 72 (.a .bool), .box 64 (.cells 62 [(.int .i64), .str, (.int .i64), .str])], [], []⟩), (5, ⟨[.tmp 77 (.a .bool)], [], []⟩)])] }, rfrz := [], ts := [2] }
noncomputable def e_prog_right (F : Nat) : Env El := (envS 143 (conOf TT s_prog_text (M_prog_text F)) (envS 142 (conOf TT s_phrase_Name (M_phrase_Name F)) envN))
noncomputable def M_prog_right (F : Nat) (x : ((Int) × (List UInt8) × (Int) × (List UInt8) × Unit)) : Option (Bool) :=
 if decide (x.1 = 1) = true then
  (if decide (1 ≤ x.2.2.1) = true then some ((), decide (x.2.2.1 ≤ 80), (x.1, x.2.1, x.2.2.1, x.2.2.2.1, ()), ())
    else some ((), false, (x.1, x.2.1, x.2.2.1, x.2.2.2.1, ()), ())).bind
   fun (v0 : Unit × Bool × (Int × List UInt8 × Int × List UInt8 × Unit) × Unit) =>
   (if v0.2.1 = true then
      if decide (v0.2.2.1.2.1.length + v0.2.2.1.2.2.2.1.length ≤ 9223372036854775807) = true then some (decide (v0.2.2.1.2.1 ++ v0.2.2.1.2.2.2.1 = []), ())
      else none
     else some (false, ())).bind
    fun (v1 : Bool × Unit) => some v1.1
 else
  if decide (x.1 = 2) = true then
   (if decide (1 ≤ x.2.2.1) = true then some ((), decide (x.2.2.1 ≤ 1073741824), (x.1, x.2.1, x.2.2.1, x.2.2.2.1, ()), ())
     else some ((), false, (x.1, x.2.1, x.2.2.1, x.2.2.2.1, ()), ())).bind
    fun (v2 : Unit × Bool × (Int × List UInt8 × Int × List UInt8 × Unit) × Unit) =>
    (if v2.2.1 = true then
       (M_phrase_Name F v2.2.2.1.2.1).bind fun (v3 : Bool) => some ((), v3, (v2.2.2.1.1, v2.2.2.1.2.1, v2.2.2.1.2.2.1, v2.2.2.1.2.2.2.1, ()), ())
      else some ((), false, (v2.2.2.1.1, v2.2.2.1.2.1, v2.2.2.1.2.2.1, v2.2.2.1.2.2.2.1, ()), ())).bind
     fun (v4 : Unit × Bool × (Int × List UInt8 × Int × List UInt8 × Unit) × Unit) =>
     (if v4.2.1 = true then some (decide (v4.2.2.1.2.2.2.1 = []), ()) else some (false, ())).bind fun (v5 : Bool × Unit) => some v5.1
  else
   if decide (x.1 = 3) = true then
    (if decide (x.2.2.1 = 0) = true then (M_phrase_Name F x.2.1).bind fun (v6 : Bool) => some ((), v6, (x.1, x.2.1, x.2.2.1, x.2.2.2.1, ()), ())
      else some ((), false, (x.1, x.2.1, x.2.2.1, x.2.2.2.1, ()), ())).bind
     fun (v7 : Unit × Bool × (Int × List UInt8 × Int × List UInt8 × Unit) × Unit) =>
     (if v7.2.1 = true then (M_prog_text F v7.2.2.1.2.2.2.1).bind fun (v8 : Bool) => some (v8, ()) else some (false, ())).bind fun (v9 : Bool × Unit) =>
      some v9.1
   else
    if decide (x.1 = 4) = true then
     (if decide (x.2.2.1 = 200) = false then some ((), decide (x.2.2.1 = 201), (x.1, x.2.1, x.2.2.1, x.2.2.2.1, ()), ())
       else some ((), true, (x.1, x.2.1, x.2.2.1, x.2.2.2.1, ()), ())).bind
      fun (v10 : Unit × Bool × (Int × List UInt8 × Int × List UInt8 × Unit) × Unit) =>
      (if v10.2.1 = true then some ((), decide (v10.2.2.1.2.1 = []), (v10.2.2.1.1, v10.2.2.1.2.1, v10.2.2.1.2.2.1, v10.2.2.1.2.2.2.1, ()), ())
        else some ((), false, (v10.2.2.1.1, v10.2.2.1.2.1, v10.2.2.1.2.2.1, v10.2.2.1.2.2.2.1, ()), ())).bind
       fun (v11 : Unit × Bool × (Int × List UInt8 × Int × List UInt8 × Unit) × Unit) =>
       (if v11.2.1 = true then (M_prog_text F v11.2.2.1.2.2.2.1).bind fun (v12 : Bool) => some (v12, ()) else some (false, ())).bind
        fun (v13 : Bool × Unit) => some v13.1
    else some false
theorem t_prog_right (x : ((Int) × (List UInt8) × (Int) × (List UInt8) × Unit)) (F : Nat) : fnRun TT Tryz.prog (e_prog_right F) s_prog_right (bodyOf 77) F x = M_prog_right F x := by kernel_rfl
theorem c_prog_right (F : Nat) : Ctr TT Tryz.prog 77 (conOf TT s_prog_right (M_prog_right F)) :=
 ctr_of (code := bodyOf 77) Tryz.func77 (by kernel_rfl) (by kernel_rfl) (by kernel_rfl) (by kernel_rfl) (envS_ok (envS_ok envN_ok (c_phrase_Name F)) (c_prog_text F)) hm (by kernel_rfl) (fun x r h => ⟨F, (t_prog_right x F).trans h⟩)
noncomputable def s_prog_May : Spec Kd := { params := [(.a (.slc .ph))], ret := (.one (.a .bool)), pins := [], pl := { nt := 35, loops := [(0, ⟨[.tmp 0 (.a (.slc .ph)), .tmp 13 (.a (.slc .ph)), .tmp 14 (.a (.int .i64)), .tmp 15 (.a (.int .i64))], [], []⟩, (.exit 0, ⟨[], [], []⟩), [(.ret, ⟨[.tmp 2 (.a .bool)], [], []⟩)])], cuts := [(6, [(14, ⟨[.tmp 0 (.a (.slc .ph)), .tmp 13 (.a (.slc .ph)), .tmp 14 (.a (.int .i64)), .tmp 15 (.a (.int .i64)), .tmp 33 (.a .bool)], [], []⟩)]), (1, [(8, ⟨[.tmp 0 (.a (.slc .ph)), .tmp 12 (.a .bool)], [], []⟩)])] }, rfrz := [], ts := [2] }
noncomputable def e_prog_May (F : Nat) : Env El := (envS 77 (conOf TT s_prog_right (M_prog_right F)) envN)
noncomputable def M_prog_May_l0 (F : Nat) (v1 : (List (Int × List UInt8 × Int × List UInt8 × Unit) × List (Int × List UInt8 × Int × List UInt8 × Unit) × Int × Int × Unit)) : Option ((List (Int × List UInt8 × Int × List UInt8 × Unit) × List (Int × List UInt8 × Int × List UInt8 × Unit) × Int × Int × Unit) ⊕ (Unit ⊕ Bool × Unit)) :=
 if decide (v1.2.2.2.1 < v1.2.2.1) = true then
       (idx v1.2.1 v1.2.2.2.1).bind fun (v2 : Int × List UInt8 × Int × List UInt8 × Unit) =>
        ((M_prog_right F (v2.1, v2.2.1, v2.2.2.1, v2.2.2.2.1, ())).bind fun (v3 : Bool) =>
           if (!v3) = false then
            some (v1.1, v1.2.1, v1.2.2.1, v1.2.2.2.1, !decide (v2.1 = 4) == decide (v1.2.2.2.1 = IntKind.i64.wrap ((↑v1.1.length : Int) - 1)), ())
           else some (v1.1, v1.2.1, v1.2.2.1, v1.2.2.2.1, true, ())).bind
         fun
          (v4 : List (Int × List UInt8 × Int × List UInt8 × Unit) × List (Int × List UInt8 × Int × List UInt8 × Unit) × Int × Int × Bool × Unit) =>
         if v4.2.2.2.2.1 = true then some (Sum.inr (Sum.inr (false, ())))
         else some (Sum.inl (v4.1, v4.2.1, v4.2.2.1, IntKind.i64.wrap (v4.2.2.2.1 + 1), ()))
      else some (Sum.inr (Sum.inl ()))
noncomputable def M_prog_May (F : Nat) (x : (List (El .ph))) : Option (Bool) :=
 (if decide ((↑x.length : Int) = 0) = false then some (x, decide (5 < (↑x.length : Int)), ()) else some (x, true, ())).bind
  fun (v0 : List (Int × List UInt8 × Int × List UInt8 × Unit) × Bool × Unit) =>
  if v0.2.1 = true then some false
  else
   (loopM (M_prog_May_l0 F)
      F (v0.1, v0.1, (↑v0.1.length : Int), 0, ())).bind
    fun (v5 : Unit ⊕ Bool × Unit) => sumC v5 (fun (v6 : Unit) => some true) fun (v7 : Bool × Unit) => some v7.1
theorem t_prog_May (x : (List (El .ph))) (F : Nat) : fnRun TT Tryz.prog (e_prog_May F) s_prog_May (bodyOf 36) F x = M_prog_May F x := by kernel_rfl
theorem c_prog_May (F : Nat) : Ctr TT Tryz.prog 36 (conOf TT s_prog_May (M_prog_May F)) :=
 ctr_of (code := bodyOf 36) Tryz.func36 (by kernel_rfl) (by kernel_rfl) (by kernel_rfl) (by kernel_rfl) (envS_ok envN_ok (c_prog_right F)) hm (by kernel_rfl) (fun x r h => ⟨F, (t_prog_May x F).trans h⟩)
end Go.Vm
/- Models of functions of the program, and that each keeps its contract: for all arguments of its shape. No condition. -/
namespace Go.Vm
open Go.Proofs
set_option linter.unusedVariables false
noncomputable def s_sign_Count : Spec Kd := { params := [(.a .str)], ret := (.one (.a (.int .i64))), pins := [], pl := { nt := 11, loops := [(0, ⟨[.tmp 3 (.a (.int .i64)), .tmp 5 (.a (.ptr 320 0)), .box 320 .siter], [], []⟩, (.exit 0, ⟨[.tmp 3 (.a (.int .i64))], [], []⟩), [])] }, rfrz := [], ts := [2] }
noncomputable def e_sign_Count (F : Nat) : Env El := envN
noncomputable def M_sign_Count_l0 (F : Nat) (v0 : (Int × Unit × (List UInt8 × Nat) × Unit)) : Option ((Int × Unit × (List UInt8 × Nat) × Unit) ⊕ (Int × Unit)) :=
 if decide (v0.2.2.1.2 < v0.2.2.1.1.length) = true then
     some (Sum.inl (IntKind.i64.wrap (v0.1 + 1), (), (v0.2.2.1.1, v0.2.2.1.2 + runeLen v0.2.2.1.1 v0.2.2.1.2), ()))
    else some (Sum.inr (v0.1, ()))
noncomputable def M_sign_Count (F : Nat) (x : (List UInt8)) : Option (Int) :=
 (loopM (M_sign_Count_l0 F)
    F (0, (), (x, 0), ())).bind
  fun v1 => some v1.1
theorem t_sign_Count (x : (List UInt8)) (F : Nat) : fnRun TT Tryz.prog (e_sign_Count F) s_sign_Count (bodyOf 67) F x = M_sign_Count F x := by kernel_rfl
theorem c_sign_Count (F : Nat) : Ctr TT Tryz.prog 67 (conOf TT s_sign_Count (M_sign_Count F)) :=
 ctr_of (code := bodyOf 67) Tryz.func67 (by kernel_rfl) (by kernel_rfl) (by kernel_rfl) (by kernel_rfl) envN_ok hm (by kernel_rfl) (fun x r h => ⟨F, (t_sign_Count x F).trans h⟩)
noncomputable def s_slices_Index_int_int : Spec Kd := { params := [(.a (.slc .i64)), (.a (.int .i64))], ret := (.one (.a (.int .i64))), pins := [], pl := { nt := 19, loops := [(0, ⟨[.tmp 0 (.a (.slc .i64)), .tmp 1 (.a (.int .i64)), .tmp 7 (.a (.int .i64)), .tmp 8 (.a (.int .i64))], [], []⟩, (.exit 0, ⟨[], [], []⟩), [(.ret, ⟨[.tmp 4 (.a (.int .i64))], [], []⟩)])] }, rfrz := [], ts := [4] }
noncomputable def e_slices_Index_int_int (F : Nat) : Env El := envN
noncomputable def M_slices_Index_int_int_l0 (F : Nat) (v0 : (List Int × Int × Int × Int × Unit)) : Option ((List Int × Int × Int × Int × Unit) ⊕ (Unit ⊕ Int × Unit)) :=
 if decide (v0.2.2.2.1 < v0.2.2.1) = true then
     (idx v0.1 v0.2.2.2.1).bind fun v1 =>
      if decide (v0.2.1 = v1) = true then some (Sum.inr (Sum.inr (v0.2.2.2.1, ())))
      else some (Sum.inl (v0.1, v0.2.1, v0.2.2.1, IntKind.i64.wrap (v0.2.2.2.1 + 1), ()))
    else some (Sum.inr (Sum.inl ()))
noncomputable def M_slices_Index_int_int (F : Nat) (x : (List (El .i64)) × (Int)) : Option (Int) :=
 (loopM (M_slices_Index_int_int_l0 F)
    F (x.1, x.2, (↑x.1.length : Int), 0, ())).bind
  fun v2 => sumC v2 (fun v3 => some (-1)) fun v4 => some v4.1
theorem t_slices_Index_int_int (x : (List (El .i64)) × (Int)) (F : Nat) : fnRun TT Tryz.prog (e_slices_Index_int_int F) s_slices_Index_int_int (bodyOf 187) F x = M_slices_Index_int_int F x := by kernel_rfl
theorem c_slices_Index_int_int (F : Nat) : Ctr TT Tryz.prog 187 (conOf TT s_slices_Index_int_int (M_slices_Index_int_int F)) :=
 ctr_of (code := bodyOf 187) Tryz.func187 (by kernel_rfl) (by kernel_rfl) (by kernel_rfl) (by kernel_rfl) envN_ok hm (by kernel_rfl) (fun x r h => ⟨F, (t_slices_Index_int_int x F).trans h⟩)
noncomputable def s_slices_Contains_int_int : Spec Kd := { params := [(.a (.slc .i64)), (.a (.int .i64))], ret := (.one (.a .bool)), pins := [], pl := { nt := 9 }, rfrz := [], ts := [4] }
noncomputable def e_slices_Contains_int_int (F : Nat) : Env El := (envS 187 (conOf TT s_slices_Index_int_int (M_slices_Index_int_int F)) envN)
noncomputable def M_slices_Contains_int_int (F : Nat) (x : (List (El .i64)) × (Int)) : Option (Bool) :=
 (M_slices_Index_int_int F x).bind fun v0 => some (decide (0 ≤ v0))
theorem t_slices_Contains_int_int (x : (List (El .i64)) × (Int)) (F : Nat) : fnRun TT Tryz.prog (e_slices_Contains_int_int F) s_slices_Contains_int_int (bodyOf 123) F x = M_slices_Contains_int_int F x := by kernel_rfl
theorem c_slices_Contains_int_int (F : Nat) : Ctr TT Tryz.prog 123 (conOf TT s_slices_Contains_int_int (M_slices_Contains_int_int F)) :=
 ctr_of (code := bodyOf 123) Tryz.func123 (by kernel_rfl) (by kernel_rfl) (by kernel_rfl) (by kernel_rfl) (envS_ok envN_ok (c_slices_Index_int_int F)) hm (by kernel_rfl) (fun x r h => ⟨F, (t_slices_Contains_int_int x F).trans h⟩)
noncomputable def s_sign_Only : Spec Kd := { params := [(.a .str), (.a (.slc .i64))], ret := (.one (.a .bool)), pins := [], pl := { nt := 17, loops := [(0, ⟨[.tmp 1 (.a (.slc .i64)), .tmp 8 (.a (.ptr 512 0)), .box 512 .siter], [], []⟩, (.exit 0, ⟨[], [], []⟩), [(.ret, ⟨[.tmp 4 (.a .bool)], [], []⟩)])] }, rfrz := [], ts := [4] }
noncomputable def e_sign_Only (F : Nat) : Env El := (envS 123 (conOf TT s_slices_Contains_int_int (M_slices_Contains_int_int F)) (envS 124 (conOf TT s_sign_Sort (M_sign_Sort F)) envN))
noncomputable def M_sign_Only_l0 (F : Nat) (v0 : (List Int × Unit × (List UInt8 × Nat) × Unit)) : Option ((List Int × Unit × (List UInt8 × Nat) × Unit) ⊕ (Unit ⊕ Bool × Unit)) :=
 if decide (v0.2.2.1.2 < v0.2.2.1.1.length) = true then
     (M_sign_Sort F (runeAt v0.2.2.1.1 v0.2.2.1.2)).bind fun v1 =>
      (M_slices_Contains_int_int F (v0.1, v1)).bind fun v2 =>
       if (!v2) = true then some (Sum.inr (Sum.inr (false, ())))
       else some (Sum.inl (v0.1, (), (v0.2.2.1.1, v0.2.2.1.2 + runeLen v0.2.2.1.1 v0.2.2.1.2), ()))
    else some (Sum.inr (Sum.inl ()))
noncomputable def M_sign_Only (F : Nat) (x : (List UInt8) × (List (El .i64))) : Option (Bool) :=
 (loopM (M_sign_Only_l0 F)
    F (x.2, (), (x.1, 0), ())).bind
  fun v3 => sumC v3 (fun v4 => some true) fun v5 => some v5.1
theorem t_sign_Only (x : (List UInt8) × (List (El .i64))) (F : Nat) : fnRun TT Tryz.prog (e_sign_Only F) s_sign_Only (bodyOf 68) F x = M_sign_Only F x := by kernel_rfl
theorem c_sign_Only (F : Nat) : Ctr TT Tryz.prog 68 (conOf TT s_sign_Only (M_sign_Only F)) :=
 ctr_of (code := bodyOf 68) Tryz.func68 (by kernel_rfl) (by kernel_rfl) (by kernel_rfl) (by kernel_rfl) (envS_ok (envS_ok envN_ok (c_sign_Sort F)) (c_slices_Contains_int_int F)) hm (by kernel_rfl) (fun x r h => ⟨F, (t_sign_Only x F).trans h⟩)
end Go.Vm
