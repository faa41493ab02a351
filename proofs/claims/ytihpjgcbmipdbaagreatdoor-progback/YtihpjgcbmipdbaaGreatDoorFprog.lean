/- Models of functions of the program, and that each keeps its contract: for all arguments of its shape. No condition. -/
import Derived.Test.YtihpjgcbmipdbaaGreatDoorKt
import Derived.Test.YtihpjgcbmipdbaaGreatDoorFphr
import Derived.Test.YtihpjgcbmipdbaaGreatDoorFshp
namespace Go.Vm
open Go.Proofs
set_option linter.unusedVariables false
noncomputable def s_prog_text : Spec Kd := { params := [(.a .str)], ret := (.one (.a .bool)), pins := [], pl := { nt := 10, cuts := [(1, [(7, ⟨[.tmp 9 (.a .bool)], [], []⟩)])] }, rfrz := [], ts := [2] }
noncomputable def e_prog_text (F : Nat) : Env El := (envS 201 (conOf TT s_phrase_Check (M_phrase_Check F)) (envS 200 (conOf TT s_strings_IndexByte (M_strings_IndexByte F)) envN))
noncomputable def M_prog_text (F : Nat) (x : (List UInt8)) : Option (Bool) :=
 ((M_strings_IndexByte F (x, 59)).bind fun v0 => if decide (v0 < 0) = true then (M_phrase_Check F x).bind fun v1 => some (v1, ()) else some (false, ())).bind
   fun v2 => some v2.1
theorem t_prog_text (x : (List UInt8)) (F : Nat) : fnRun TT Tryz.prog (e_prog_text F) s_prog_text (bodyOf 143) F x = M_prog_text F x := by kernel_rfl
theorem c_prog_text (F : Nat) : Ctr TT Tryz.prog 143 (conOf TT s_prog_text (M_prog_text F)) :=
 ctr_of (code := bodyOf 143) Tryz.func143 (by kernel_rfl) (by kernel_rfl) (by kernel_rfl) (by kernel_rfl) (envS_ok (envS_ok envN_ok (c_strings_IndexByte F)) (c_phrase_Check F)) hm (by kernel_rfl) (fun x r h => ⟨F, (t_prog_text x F).trans h⟩)
noncomputable def s_prog_right : Spec Kd := { params := [(.agg [(.int .i64), .str, (.int .i64), .str])], ret := (.one (.a .bool)), pins := [], pl := { nt := 78, cuts := [(3, [(8, ⟨[.tmp 1 (.a (.ptr 64 0)), .tmp 14 (.a .bool), .box 64 (.cells 62 [(.int .i64), .str, (.int .i64), .str])], [], []⟩), (8, ⟨[.tmp 22 (.a .bool)], [], []⟩)]), (5, [(8, ⟨[.tmp 1 (.a (.ptr 64 0)), .tmp 32 (.a .bool), .box 64 (.cells 62 [(.int .i64), .str, (.int .i64), .str])], [], []⟩), (5, ⟨[.tmp 1 (.a (.ptr 64 0)), .tmp 37 (.a .bool), .box 64 (.cells 62 [(.int .i64), .str, (.int .i64), .str])], [], []⟩), (5, ⟨[.tmp 42 (.a .bool)], [], []⟩)]), (7, [(8, ⟨[.tmp 1 (.a (.ptr 64 0)), .tmp 52 (.a .bool), .box 64 (.cells 62 [(.int .i64), .str, (.int .i64), .str])], [], []⟩), (5, ⟨[.tmp 57 (.a .bool)], [], []⟩)]), (9, [(8, ⟨[.tmp 1 (.a (.ptr 64 0)), .tmp 67 (.a .bool), .box 64 (.cells 62 [(.int .i64), .str, (.int .i64), .str])], [], []⟩), (5, ⟨[.tmp 1 (.a (.ptr 64 0)), .tmp 72 (.a .bool), .box 64 (.cells 62 [(.int .i64), .str, (.int .i64), .str])], [], []⟩), (5, ⟨[.tmp 77 (.a .bool)], [], []⟩)])] }, rfrz := [], ts := [2] }
noncomputable def e_prog_right (F : Nat) : Env El := (envS 143 (conOf TT s_prog_text (M_prog_text F)) (envS 142 (conOf TT s_phrase_Name (M_phrase_Name F)) envN))
noncomputable def M_prog_right (F : Nat) (x : ((Int) × (List UInt8) × (Int) × (List UInt8) × Unit)) : Option (Bool) :=
 if decide (x.1 = 1) = true then
  (if decide (1 ≤ x.2.2.1) = true then some ((), decide (x.2.2.1 ≤ 80), (x.1, x.2.1, x.2.2.1, x.2.2.2.1, ()), ())
    else some ((), false, (x.1, x.2.1, x.2.2.1, x.2.2.2.1, ()), ())).bind
   fun (v0 : Unit × Bool × (Int × List UInt8 × Int × List UInt8 × Unit) × Unit) =>
   (if v0.2.1 = true then
      if decide (v0.2.2.1.2.1.length + v0.2.2.1.2.2.2.1.length ≤ 9223372036854775807) = true then some (decide (v0.2.2.1.2.1 ++ v0.2.2.1.2.2.2.1 = []), ())
      else none
     else some (false, ())).bind
    fun (v1 : Bool × Unit) => some v1.1
 else
  if decide (x.1 = 2) = true then
   (if decide (1 ≤ x.2.2.1) = true then some ((), decide (x.2.2.1 ≤ 1073741824), (x.1, x.2.1, x.2.2.1, x.2.2.2.1, ()), ())
     else some ((), false, (x.1, x.2.1, x.2.2.1, x.2.2.2.1, ()), ())).bind
    fun (v2 : Unit × Bool × (Int × List UInt8 × Int × List UInt8 × Unit) × Unit) =>
    (if v2.2.1 = true then
       (M_phrase_Name F v2.2.2.1.2.1).bind fun (v3 : Bool) => some ((), v3, (v2.2.2.1.1, v2.2.2.1.2.1, v2.2.2.1.2.2.1, v2.2.2.1.2.2.2.1, ()), ())
      else some ((), false, (v2.2.2.1.1, v2.2.2.1.2.1, v2.2.2.1.2.2.1, v2.2.2.1.2.2.2.1, ()), ())).bind
     fun (v4 : Unit × Bool × (Int × List UInt8 × Int × List UInt8 × Unit) × Unit) =>
     (if v4.2.1 = true then some (decide (v4.2.2.1.2.2.2.1 = []), ()) else some (false, ())).bind fun (v5 : Bool × Unit) => some v5.1
  else
   if decide (x.1 = 3) = true then
    (if decide (x.2.2.1 = 0) = true then (M_phrase_Name F x.2.1).bind fun (v6 : Bool) => some ((), v6, (x.1, x.2.1, x.2.2.1, x.2.2.2.1, ()), ())
      else some ((), false, (x.1, x.2.1, x.2.2.1, x.2.2.2.1, ()), ())).bind
     fun (v7 : Unit × Bool × (Int × List UInt8 × Int × List UInt8 × Unit) × Unit) =>
     (if v7.2.1 = true then (M_prog_text F v7.2.2.1.2.2.2.1).bind fun (v8 : Bool) => some (v8, ()) else some (false, ())).bind fun (v9 : Bool × Unit) =>
      some v9.1
   else
    if decide (x.1 = 4) = true then
     (if decide (x.2.2.1 = 200) = false then some ((), decide (x.2.2.1 = 201), (x.1, x.2.1, x.2.2.1, x.2.2.2.1, ()), ())
       else some ((), true, (x.1, x.2.1, x.2.2.1, x.2.2.2.1, ()), ())).bind
      fun (v10 : Unit × Bool × (Int × List UInt8 × Int × List UInt8 × Unit) × Unit) =>
      (if v10.2.1 = true then some ((), decide (v10.2.2.1.2.1 = []), (v10.2.2.1.1, v10.2.2.1.2.1, v10.2.2.1.2.2.1, v10.2.2.1.2.2.2.1, ()), ())
        else some ((), false, (v10.2.2.1.1, v10.2.2.1.2.1, v10.2.2.1.2.2.1, v10.2.2.1.2.2.2.1, ()), ())).bind
       fun (v11 : Unit × Bool × (Int × List UInt8 × Int × List UInt8 × Unit) × Unit) =>
       (if v11.2.1 = true then (M_prog_text F v11.2.2.1.2.2.2.1).bind fun (v12 : Bool) => some (v12, ()) else some (false, ())).bind
        fun (v13 : Bool × Unit) => some v13.1
    else some false
theorem t_prog_right (x : ((Int) × (List UInt8) × (Int) × (List UInt8) × Unit)) (F : Nat) : fnRun TT Tryz.prog (e_prog_right F) s_prog_right (bodyOf 77) F x = M_prog_right F x := by kernel_rfl
theorem c_prog_right (F : Nat) : Ctr TT Tryz.prog 77 (conOf TT s_prog_right (M_prog_right F)) :=
 ctr_of (code := bodyOf 77) Tryz.func77 (by kernel_rfl) (by kernel_rfl) (by kernel_rfl) (by kernel_rfl) (envS_ok (envS_ok envN_ok (c_phrase_Name F)) (c_prog_text F)) hm (by kernel_rfl) (fun x r h => ⟨F, (t_prog_right x F).trans h⟩)
noncomputable def s_prog_May : Spec Kd := { params := [(.a (.slc .ph))], ret := (.one (.a .bool)), pins := [], pl := { nt := 35, loops := [(0, ⟨[.tmp 0 (.a (.slc .ph)), .tmp 13 (.a (.slc .ph)), .tmp 14 (.a (.int .i64)), .tmp 15 (.a (.int .i64))], [], []⟩, (.exit 0, ⟨[], [], []⟩), [(.ret, ⟨[.tmp 2 (.a .bool)], [], []⟩)])], cuts := [(6, [(14, ⟨[.tmp 0 (.a (.slc .ph)), .tmp 13 (.a (.slc .ph)), .tmp 14 (.a (.int .i64)), .tmp 15 (.a (.int .i64)), .tmp 33 (.a .bool)], [], []⟩)]), (1, [(8, ⟨[.tmp 0 (.a (.slc .ph)), .tmp 12 (.a .bool)], [], []⟩)])] }, rfrz := [], ts := [2] }
noncomputable def e_prog_May (F : Nat) : Env El := (envS 77 (conOf TT s_prog_right (M_prog_right F)) envN)
noncomputable def M_prog_May_l0 (F : Nat) (v1 : (List (Int × List UInt8 × Int × List UInt8 × Unit) × List (Int × List UInt8 × Int × List UInt8 × Unit) × Int × Int × Unit)) : Option ((List (Int × List UInt8 × Int × List UInt8 × Unit) × List (Int × List UInt8 × Int × List UInt8 × Unit) × Int × Int × Unit) ⊕ (Unit ⊕ Bool × Unit)) :=
 if decide (v1.2.2.2.1 < v1.2.2.1) = true then
       (idx v1.2.1 v1.2.2.2.1).bind fun (v2 : Int × List UInt8 × Int × List UInt8 × Unit) =>
        ((M_prog_right F (v2.1, v2.2.1, v2.2.2.1, v2.2.2.2.1, ())).bind fun (v3 : Bool) =>
           if (!v3) = false then
            some (v1.1, v1.2.1, v1.2.2.1, v1.2.2.2.1, !decide (v2.1 = 4) == decide (v1.2.2.2.1 = IntKind.i64.wrap ((↑v1.1.length : Int) - 1)), ())
           else some (v1.1, v1.2.1, v1.2.2.1, v1.2.2.2.1, true, ())).bind
         fun
          (v4 : List (Int × List UInt8 × Int × List UInt8 × Unit) × List (Int × List UInt8 × Int × List UInt8 × Unit) × Int × Int × Bool × Unit) =>
         if v4.2.2.2.2.1 = true then some (Sum.inr (Sum.inr (false, ())))
         else some (Sum.inl (v4.1, v4.2.1, v4.2.2.1, IntKind.i64.wrap (v4.2.2.2.1 + 1), ()))
      else some (Sum.inr (Sum.inl ()))
noncomputable def M_prog_May (F : Nat) (x : (List (El .ph))) : Option (Bool) :=
 (if decide ((↑x.length : Int) = 0) = false then some (x, decide (5 < (↑x.length : Int)), ()) else some (x, true, ())).bind
  fun (v0 : List (Int × List UInt8 × Int × List UInt8 × Unit) × Bool × Unit) =>
  if v0.2.1 = true then some false
  else
   (loopM (M_prog_May_l0 F)
      F (v0.1, v0.1, (↑v0.1.length : Int), 0, ())).bind
    fun (v5 : Unit ⊕ Bool × Unit) => sumC v5 (fun (v6 : Unit) => some true) fun (v7 : Bool × Unit) => some v7.1
theorem t_prog_May (x : (List (El .ph))) (F : Nat) : fnRun TT Tryz.prog (e_prog_May F) s_prog_May (bodyOf 36) F x = M_prog_May F x := by kernel_rfl
theorem c_prog_May (F : Nat) : Ctr TT Tryz.prog 36 (conOf TT s_prog_May (M_prog_May F)) :=
 ctr_of (code := bodyOf 36) Tryz.func36 (by kernel_rfl) (by kernel_rfl) (by kernel_rfl) (by kernel_rfl) (envS_ok envN_ok (c_prog_right F)) hm (by kernel_rfl) (fun x r h => ⟨F, (t_prog_May x F).trans h⟩)
noncomputable def s_prog_words : Spec Kd := { params := [(.agg [(.int .i64), .str, (.int .i64), .str])], ret := (.one (.a (.row 9 .str))), pins := [], pl := { nt := 30, orc := { rv := [2, 12, 18, 25, 29], gv := [] } }, rfrz := [], ts := [2] }
noncomputable def e_prog_words (F : Nat) : Env El := (envS 140 (conOf TT s_strconv_Itoa (M_strconv_Itoa F)) envN)
noncomputable def M_prog_words (F : Nat) (x : ((Int) × (List UInt8) × (Int) × (List UInt8) × Unit)) : Option (List (El .str)) :=
 (M_strconv_Itoa F x.2.2.1).bind fun (v0 : List UInt8) =>
  if decide (x.1 = 1) = true then some [[111, 110, 108, 121], v0]
  else
   if decide (x.1 = 2) = true then some [[110, 101, 101, 100], x.2.1, v0]
   else if decide (x.1 = 3) = true then some [[99, 97, 108, 108], x.2.1, x.2.2.2.1] else some [[101, 110, 100], v0, x.2.2.2.1]
theorem t_prog_words (x : ((Int) × (List UInt8) × (Int) × (List UInt8) × Unit)) (F : Nat) : fnRun TT Tryz.prog (e_prog_words F) s_prog_words (bodyOf 75) F x = M_prog_words F x := by kernel_rfl
theorem c_prog_words (F : Nat) : Ctr TT Tryz.prog 75 (conOf TT s_prog_words (M_prog_words F)) :=
 ctr_of (code := bodyOf 75) Tryz.func75 (by kernel_rfl) (by kernel_rfl) (by kernel_rfl) (by kernel_rfl) (envS_ok envN_ok (c_strconv_Itoa F)) hm (by kernel_rfl) (fun x r h => ⟨F, (t_prog_words x F).trans h⟩)
noncomputable def s_prog_Print : Spec Kd := { params := [(.a (.slc .ph))], ret := (.tup [(.a .str), (.a (.int .i64))]), pins := [], pl := { nt := 39, orc := { rv := [4, 31, 35], gv := [] }, joins := [(1000025, (.norm, ⟨[.tmp 4 (.a (.rowp 256)), .tmp 7 (.a (.slc .str)), .tmp 11 (.a (.slc .ph)), .tmp 12 (.a (.int .i64)), .tmp 13 (.a (.int .i64)), .box 256 (.row 9 .str)], [1152], [.tmpRow 4 256 9 .str]⟩), [])], loops := [(0, ⟨[.tmp 4 (.a (.rowp 256)), .tmp 11 (.a (.slc .ph)), .tmp 12 (.a (.int .i64)), .tmp 13 (.a (.int .i64)), .box 256 (.row 9 .str)], [1152], [.tmpRow 4 256 9 .str]⟩, (.exit 0, ⟨[.tmp 4 (.a (.rowp 256)), .box 256 (.row 9 .str)], [1152], [.tmpRow 4 256 9 .str]⟩), [])] }, rfrz := [], ts := [2, 3] }
noncomputable def e_prog_Print (F : Nat) : Env El := (envS 76 (conOf TT s_strings_Join (M_strings_Join F)) (envS 75 (conOf TT s_prog_words (M_prog_words F)) (envS 36 (conOf TT s_prog_May (M_prog_May F)) envN)))
noncomputable def M_prog_Print_l0 (F : Nat) (v1 : (Unit × List (Int × List UInt8 × Int × List UInt8 × Unit) × Int × Int × List (List UInt8) × Unit)) : Option ((Unit × List (Int × List UInt8 × Int × List UInt8 × Unit) × Int × Int × List (List UInt8) × Unit) ⊕ (Unit × List (List UInt8) × Unit)) :=
 if decide (v1.2.2.2.1 < v1.2.2.1) = true then
       (idx v1.2.1 v1.2.2.2.1).bind fun (v2 : Int × List UInt8 × Int × List UInt8 × Unit) =>
        (M_prog_words F (v2.1, v2.2.1, v2.2.2.1, v2.2.2.2.1, ())).bind fun (v3 : List (List UInt8)) =>
         (idx v3 (IntKind.i64.wrap ((↑v3.length : Int) - 1))).bind fun (v4 : List UInt8) =>
          (if decide (v4 = []) = true then
             if
               (decide (0 ≤ IntKind.i64.wrap ((↑v3.length : Int) - 1)) &&
                 decide (IntKind.i64.wrap ((↑v3.length : Int) - 1) ≤ (↑v3.length : Int))) =
                true then
              some ((), List.take (IntKind.i64.wrap ((↑v3.length : Int) - 1)).toNat v3, v1.2.1, v1.2.2.1, v1.2.2.2.1, v1.2.2.2.2.1, ())
             else none
            else some ((), v3, v1.2.1, v1.2.2.1, v1.2.2.2.1, v1.2.2.2.2.1, ())).bind
           fun (v5 : Unit × List (List UInt8) × List (Int × List UInt8 × Int × List UInt8 × Unit) × Int × Int × List (List UInt8) × Unit) =>
           (M_strings_Join F (v5.2.1, [32])).bind fun (v6 : List UInt8) =>
            if decide ((v5.2.2.2.2.2.1.length + [v6].length) * 16 ≤ 140737488355328) = true then
             some (Sum.inl ((), v5.2.2.1, v5.2.2.2.1, IntKind.i64.wrap (v5.2.2.2.2.1 + 1), v5.2.2.2.2.2.1 ++ [v6], ()))
            else none
      else some (Sum.inr ((), v1.2.2.2.2.1, ()))
noncomputable def M_prog_Print (F : Nat) (x : (List (El .ph))) : Option ((List UInt8) × (Int)) :=
 (M_prog_May F x).bind fun (v0 : Bool) =>
  if (!v0) = true then some ([], 1)
  else
   (loopM (M_prog_Print_l0 F)
      F ((), x, (↑x.length : Int), 0, [], ())).bind
    fun (v7 : Unit × List (List UInt8) × Unit) => (M_strings_Join F (v7.2.1, [59, 32])).bind fun (v8 : List UInt8) => some (v8, 0)
theorem t_prog_Print (x : (List (El .ph))) (F : Nat) : fnRun TT Tryz.prog (e_prog_Print F) s_prog_Print (bodyOf 35) F x = M_prog_Print F x := by kernel_rfl
theorem c_prog_Print (F : Nat) : Ctr TT Tryz.prog 35 (conOf TT s_prog_Print (M_prog_Print F)) :=
 ctr_of (code := bodyOf 35) Tryz.func35 (by kernel_rfl) (by kernel_rfl) (by kernel_rfl) (by kernel_rfl) (envS_ok (envS_ok (envS_ok envN_ok (c_prog_May F)) (c_prog_words F)) (c_strings_Join F)) hm (by kernel_rfl) (fun x r h => ⟨F, (t_prog_Print x F).trans h⟩)
noncomputable def s_prog_number : Spec Kd := { params := [(.a .str)], ret := (.one (.a (.int .i64))), pins := [], pl := { nt := 23, cuts := [(2, [(6, ⟨[.tmp 0 (.a .str), .tmp 3 (.a (.int .i64)), .tmp 15 (.a .bool)], [], []⟩), (6, ⟨[.tmp 3 (.a (.int .i64)), .tmp 21 (.a .bool)], [], []⟩)])] }, rfrz := [], ts := [2] }
noncomputable def e_prog_number (F : Nat) : Env El := (envS 140 (conOf TT s_strconv_Itoa (M_strconv_Itoa F)) (envS 186 (conOf TT s_strconv_AtoiA (M_strconv_AtoiA F)) envN))
noncomputable def M_prog_number (F : Nat) (x : (List UInt8)) : Option (Int) :=
 (M_strconv_AtoiA F x).bind fun (v0 : Int × Bool) =>
  (if (!!v0.2) = false then some (x, v0.1, decide (v0.1 < 1), ()) else some (x, v0.1, true, ())).bind fun (v1 : List UInt8 × Int × Bool × Unit) =>
   (if v1.2.2.1 = false then (M_strconv_Itoa F v1.2.1).bind fun (v2 : List UInt8) => some (v1.2.1, !decide (v2 = v1.1), ()) else some (v1.2.1, true, ())).bind
    fun (v3 : Int × Bool × Unit) => if v3.2.1 = true then some 0 else some v3.1
theorem t_prog_number (x : (List UInt8)) (F : Nat) : fnRun TT Tryz.prog (e_prog_number F) s_prog_number (bodyOf 120) F x = M_prog_number F x := by kernel_rfl
theorem c_prog_number (F : Nat) : Ctr TT Tryz.prog 120 (conOf TT s_prog_number (M_prog_number F)) :=
 ctr_of (code := bodyOf 120) Tryz.func120 (by kernel_rfl) (by kernel_rfl) (by kernel_rfl) (by kernel_rfl) (envS_ok (envS_ok envN_ok (c_strconv_AtoiA F)) (c_strconv_Itoa F)) hm (by kernel_rfl) (fun x r h => ⟨F, (t_prog_number x F).trans h⟩)
noncomputable def s_prog_read : Spec Kd := { params := [(.a .str)], ret := (.one (.agg [(.int .i64), .str, (.int .i64), .str])), pins := [], pl := { nt := 56, cuts := [(7, [(7, ⟨[.tmp 2 (.a (.ptr 128 0)), .tmp 3 (.a .str), .tmp 6 (.a .str), .tmp 7 (.a .str), .tmp 35 (.a .bool), .box 128 (.cells 62 [(.int .i64), .str, (.int .i64), .str])], [], []⟩)])] }, rfrz := [], ts := [56], rc := [(2, some 62)] }
noncomputable def e_prog_read (F : Nat) : Env El := (envS 120 (conOf TT s_prog_number (M_prog_number F)) (envS 119 (conOf TT s_strings_Cut (M_strings_Cut F)) envN))
noncomputable def M_prog_read (F : Nat) (x : (List UInt8)) : Option ((Int) × (List UInt8) × (Int) × (List UInt8) × Unit) :=
 (M_strings_Cut F (x, [32])).bind fun (v0 : List UInt8 × List UInt8 × Bool) =>
  if (!v0.2.2) = true then some (0, [], 0, [], ())
  else
   if decide (v0.1 = [111, 110, 108, 121]) = true then (M_prog_number F v0.2.1).bind fun (v1 : Int) => some (1, [], v1, [], ())
   else
    (M_strings_Cut F (v0.2.1, [32])).bind fun (v2 : List UInt8 × List UInt8 × Bool) =>
     (if decide (v2.2.1 = []) = true then some ((), v0.1, v2.1, v2.2.1, !decide (v2.1 = v0.2.1), (0, [], 0, [], ()), ())
       else some ((), v0.1, v2.1, v2.2.1, false, (0, [], 0, [], ()), ())).bind
      fun (v3 : Unit × List UInt8 × List UInt8 × List UInt8 × Bool × (Int × List UInt8 × Int × List UInt8 × Unit) × Unit) =>
      if v3.2.2.2.2.1 = true then some (0, [], 0, [], ())
      else
       if decide (v3.2.1 = [110, 101, 101, 100]) = true then (M_prog_number F v3.2.2.2.1).bind fun (v4 : Int) => some (2, v3.2.2.1, v4, [], ())
       else
        if decide (v3.2.1 = [99, 97, 108, 108]) = true then some (3, v3.2.2.1, 0, v3.2.2.2.1, ())
        else
         if decide (v3.2.1 = [101, 110, 100]) = true then (M_prog_number F v3.2.2.1).bind fun (v5 : Int) => some (4, [], v5, v3.2.2.2.1, ())
         else some (0, [], 0, [], ())
theorem t_prog_read (x : (List UInt8)) (F : Nat) : fnRun TT Tryz.prog (e_prog_read F) s_prog_read (bodyOf 64) F x = M_prog_read F x := by kernel_rfl
theorem c_prog_read (F : Nat) : Ctr TT Tryz.prog 64 (conOf TT s_prog_read (M_prog_read F)) :=
 ctr_of (code := bodyOf 64) Tryz.func64 (by kernel_rfl) (by kernel_rfl) (by kernel_rfl) (by kernel_rfl) (envS_ok (envS_ok envN_ok (c_strings_Cut F)) (c_prog_number F)) hm (by kernel_rfl) (fun x r h => ⟨F, (t_prog_read x F).trans h⟩)
noncomputable def s_prog_Parse : Spec Kd := { params := [(.a .str)], ret := (.tup [(.a (.row 62 .ph)), (.a (.int .i64))]), pins := [], pl := { nt := 38, orc := { rv := [2, 4, 28, 32, 37], gv := [] }, joins := [(700018, (.norm, ⟨[.tmp 4 (.a (.rowp 256)), .tmp 6 (.a .str), .tmp 10 (.a (.slc .str)), .tmp 11 (.a (.int .i64)), .tmp 12 (.a (.int .i64)), .box 256 (.row 62 .ph)], [], [.tmpRow 4 256 62 .ph]⟩), [(.ret, ⟨[.tmp 2 (.a (.rowp 128)), .tmp 3 (.a (.int .i64)), .box 128 (.row 62 .ph)], [], [.tmpRow 2 128 62 .ph]⟩)])], loops := [(0, ⟨[.tmp 4 (.a (.rowp 256)), .tmp 10 (.a (.slc .str)), .tmp 11 (.a (.int .i64)), .tmp 12 (.a (.int .i64)), .box 256 (.row 62 .ph)], [], [.tmpRow 4 256 62 .ph]⟩, (.exit 0, ⟨[.tmp 4 (.a (.rowp 256)), .box 256 (.row 62 .ph)], [], [.tmpRow 4 256 62 .ph]⟩), [(.ret, ⟨[.tmp 2 (.a (.rowp 128)), .tmp 3 (.a (.int .i64)), .box 128 (.row 62 .ph)], [], [.tmpRow 2 128 62 .ph]⟩)])] }, rfrz := [], ts := [2, 3] }
noncomputable def e_prog_Parse (F : Nat) : Env El := (envS 36 (conOf TT s_prog_May (M_prog_May F)) (envS 64 (conOf TT s_prog_read (M_prog_read F)) (envS 63 (conOf TT s_strings_CutPrefix (M_strings_CutPrefix F)) (envS 62 (conOf TT s_strings_Split (M_strings_Split F)) envN))))
noncomputable def M_prog_Parse_l0 (F : Nat) (v1 : (Unit × List (List UInt8) × Int × Int × List (Int × List UInt8 × Int × List UInt8 × Unit) × Unit)) : Option ((Unit × List (List UInt8) × Int × Int × List (Int × List UInt8 × Int × List UInt8 × Unit) × Unit) ⊕ (Unit × List (Int × List UInt8 × Int × List UInt8 × Unit) × Unit ⊕ Unit × Int × List (Int × List UInt8 × Int × List UInt8 × Unit) × Unit)) :=
 if decide (v1.2.2.2.1 < v1.2.2.1) = true then
      (idx v1.2.1 v1.2.2.2.1).bind fun (v2 : List UInt8) =>
       (if decide (0 < (↑v1.2.2.2.2.1.length : Int)) = true then
          (sub [59, 32] 1 2).bind fun (v3 : List UInt8) =>
           (M_strings_CutPrefix F (v2, v3)).bind fun (v4 : List UInt8 × Bool) =>
            if (!v4.2) = true then some (Sum.inr ((), 3, [], ())) else some (Sum.inl ((), v4.1, v1.2.1, v1.2.2.1, v1.2.2.2.1, v1.2.2.2.2.1, ()))
         else some (Sum.inl ((), v2, v1.2.1, v1.2.2.1, v1.2.2.2.1, v1.2.2.2.2.1, ()))).bind
        fun
         (v5 :
          Unit × List UInt8 × List (List UInt8) × Int × Int × List (Int × List UInt8 × Int × List UInt8 × Unit) × Unit ⊕
           Unit × Int × List (Int × List UInt8 × Int × List UInt8 × Unit) × Unit) =>
        sumC v5
         (fun (v6 : Unit × List UInt8 × List (List UInt8) × Int × Int × List (Int × List UInt8 × Int × List UInt8 × Unit) × Unit) =>
          (M_prog_read F v6.2.1).bind fun (v7 : Int × List UInt8 × Int × List UInt8 × Unit) =>
           if decide ((v6.2.2.2.2.2.1.length + [(v7.1, v7.2.1, v7.2.2.1, v7.2.2.2.1, Unit.unit)].length) * 48 ≤ 140737488355328) = true then
            some
             (Sum.inl
              ((), v6.2.2.1, v6.2.2.2.1, IntKind.i64.wrap (v6.2.2.2.2.1 + 1),
                v6.2.2.2.2.2.1 ++ [(v7.1, v7.2.1, v7.2.2.1, v7.2.2.2.1, Unit.unit)], ()))
           else none)
         fun (v8 : Unit × Int × List (Int × List UInt8 × Int × List UInt8 × Unit) × Unit) => some (Sum.inr (Sum.inr ((), v8.2.1, v8.2.2.1, ())))
     else some (Sum.inr (Sum.inl ((), v1.2.2.2.2.1, ())))
noncomputable def M_prog_Parse (F : Nat) (x : (List UInt8)) : Option ((List (El .ph)) × (Int)) :=
 (M_strings_Split F (x, [59])).bind fun (v0 : List (List UInt8)) =>
  (loopM (M_prog_Parse_l0 F)
     F ((), v0, (↑v0.length : Int), 0, [], ())).bind
   fun (v9 : Unit × List (Int × List UInt8 × Int × List UInt8 × Unit) × Unit ⊕ Unit × Int × List (Int × List UInt8 × Int × List UInt8 × Unit) × Unit) =>
   sumC v9
    (fun (v10 : Unit × List (Int × List UInt8 × Int × List UInt8 × Unit) × Unit) =>
     (M_prog_May F v10.2.1).bind fun (v11 : Bool) => if (!v11) = true then some ([], 3) else some (v10.2.1, 0))
    fun (v12 : Unit × Int × List (Int × List UInt8 × Int × List UInt8 × Unit) × Unit) => some (v12.2.2.1, v12.2.1)
theorem t_prog_Parse (x : (List UInt8)) (F : Nat) : fnRun TT Tryz.prog (e_prog_Parse F) s_prog_Parse (bodyOf 27) F x = M_prog_Parse F x := by kernel_rfl
theorem c_prog_Parse (F : Nat) : Ctr TT Tryz.prog 27 (conOf TT s_prog_Parse (M_prog_Parse F)) :=
 ctr_of (code := bodyOf 27) Tryz.func27 (by kernel_rfl) (by kernel_rfl) (by kernel_rfl) (by kernel_rfl) (envS_ok (envS_ok (envS_ok (envS_ok envN_ok (c_strings_Split F)) (c_strings_CutPrefix F)) (c_prog_read F)) (c_prog_May F)) hm (by kernel_rfl) (fun x r h => ⟨F, (t_prog_Parse x F).trans h⟩)
end Go.Vm
