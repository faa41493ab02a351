/- Models of functions of the program, and that each keeps its contract: for all arguments of its shape. No condition. -/
import Derived.Test.YtihpjgcbmipdbaaGreatDoorKt
import Derived.Test.YtihpjgcbmipdbaaGreatDoorFbld
import Derived.Test.YtihpjgcbmipdbaaGreatDoorFsort
import Derived.Test.YtihpjgcbmipdbaaGreatDoorFtrim
namespace Go.Vm
open Go.Proofs
set_option linter.unusedVariables false
noncomputable def s_phrase_Name : Spec Kd := { params := [(.a .str)], ret := (.one (.a .bool)), pins := [], pl := { nt := 15, cuts := [(1, [(7, ⟨[.tmp 0 (.a .str), .tmp 9 (.a .bool)], [], []⟩), (5, ⟨[.tmp 14 (.a .bool)], [], []⟩)])] }, rfrz := [], ts := [2] }
noncomputable def e_phrase_Name (F : Nat) : Env El := (envS 199 (conOf TT s_strings_Trim (M_strings_Trim F)) envN)
noncomputable def M_phrase_Name (F : Nat) (x : (List UInt8)) : Option (Bool) :=
 (if (!decide (x = [])) = true then some (x, decide ((↑x.length : Int) ≤ 12), ()) else some (x, false, ())).bind fun v0 =>
  (if v0.2.1 = true then
     (M_strings_Trim F
        (v0.1,
         [97, 98, 99, 100, 101, 102, 103, 104, 105, 106, 107, 108, 109, 110, 111, 112, 113, 114, 115, 116, 117, 118, 119, 120, 121, 122, 48, 49, 50, 51,
          52, 53, 54, 55, 56, 57])).bind
      fun v1 => some (decide (v1 = []), ())
    else some (false, ())).bind
   fun v2 => some v2.1
theorem t_phrase_Name (x : (List UInt8)) (F : Nat) : fnRun TT Tryz.prog (e_phrase_Name F) s_phrase_Name (bodyOf 142) F x = M_phrase_Name F x := by kernel_rfl
theorem c_phrase_Name (F : Nat) : Ctr TT Tryz.prog 142 (conOf TT s_phrase_Name (M_phrase_Name F)) :=
 ctr_of (code := bodyOf 142) Tryz.func142 (by kernel_rfl) (by kernel_rfl) (by kernel_rfl) (by kernel_rfl) (envS_ok envN_ok (c_strings_Trim F)) hm (by kernel_rfl) (fun x r h => ⟨F, (t_phrase_Name x F).trans h⟩)
noncomputable def s_phrase_gap : Spec Kd := { params := [(.a .str)], ret := (.one (.a .str)), pins := [], pl := { nt := 33, cuts := [(6, [(7, ⟨[.tmp 0 (.a .str), .tmp 3 (.a (.int .i64)), .tmp 21 (.a .bool)], [], []⟩), (7, ⟨[.tmp 0 (.a .str), .tmp 3 (.a (.int .i64)), .tmp 28 (.a .bool)], [], []⟩)])] }, rfrz := [], ts := [2] }
noncomputable def e_phrase_gap (F : Nat) : Env El := (envS 142 (conOf TT s_phrase_Name (M_phrase_Name F)) (envS 200 (conOf TT s_strings_IndexByte (M_strings_IndexByte F)) envN))
noncomputable def M_phrase_gap (F : Nat) (x : (List UInt8)) : Option (List UInt8) :=
 if decide ((↑x.length : Int) < 2) = true then some []
 else
  (idx x 1).bind fun v0 =>
   (M_strings_IndexByte F ([37, 98, 107, 109, 112], (↑v0.toNat : Int))).bind fun v1 =>
    if decide (0 ≤ v1) = true then (sub x 0 2).bind fun v2 => some v2
    else
     (M_strings_IndexByte F (x, 125)).bind fun v3 =>
      ((idx x 1).bind fun v4 => if (!decide ((↑v4.toNat : Int) = 123)) = false then some (x, v3, decide (v3 < 0), ()) else some (x, v3, true, ())).bind
        fun v5 =>
        (if v5.2.2.1 = false then (sub v5.1 2 v5.2.1).bind fun v6 => (M_phrase_Name F v6).bind fun v7 => some (v5.1, v5.2.1, !v7, ())
            else some (v5.1, v5.2.1, true, ())).bind
          fun v8 => if v8.2.2.1 = true then some [] else (sub v8.1 0 (IntKind.i64.wrap (v8.2.1 + 1))).bind fun v9 => some v9
theorem t_phrase_gap (x : (List UInt8)) (F : Nat) : fnRun TT Tryz.prog (e_phrase_gap F) s_phrase_gap (bodyOf 193) F x = M_phrase_gap F x := by kernel_rfl
theorem c_phrase_gap (F : Nat) : Ctr TT Tryz.prog 193 (conOf TT s_phrase_gap (M_phrase_gap F)) :=
 ctr_of (code := bodyOf 193) Tryz.func193 (by kernel_rfl) (by kernel_rfl) (by kernel_rfl) (by kernel_rfl) (envS_ok (envS_ok envN_ok (c_strings_IndexByte F)) (c_phrase_Name F)) hm (by kernel_rfl) (fun x r h => ⟨F, (t_phrase_gap x F).trans h⟩)
noncomputable def s_phrase_cut : Spec Kd := { params := [(.a .str)], ret := (.tup [(.a (.row 172 .pc)), (.a .bool)]), pins := [], pl := { nt := 52, orc := { rv := [2, 4, 42, 45, 51], gv := [] }, joins := [(1400033, (.norm, ⟨[.tmp 0 (.a .str), .tmp 4 (.a (.rowp 256)), .tmp 6 (.a (.int .i64)), .tmp 8 (.a (.ptr 512 0)), .tmp 13 (.a (.ptr 832 0)), .box 832 .siter, .box 256 (.row 172 .pc), .box 512 (.cells 172 [.bool, .str])], [], [.tmpRow 4 256 172 .pc]⟩), [(.ret, ⟨[.tmp 2 (.a (.rowp 128)), .tmp 3 (.a .bool), .box 128 (.row 172 .pc)], [], [.tmpRow 2 128 172 .pc]⟩)])], loops := [(0, ⟨[.tmp 0 (.a .str), .tmp 4 (.a (.rowp 256)), .tmp 5 (.a (.int .i64)), .tmp 13 (.a (.ptr 832 0)), .box 832 .siter, .box 256 (.row 172 .pc)], [], [.tmpRow 4 256 172 .pc]⟩, (.exit 0, ⟨[.tmp 4 (.a (.rowp 256)), .box 256 (.row 172 .pc)], [], [.tmpRow 4 256 172 .pc]⟩), [(.ret, ⟨[.tmp 2 (.a (.rowp 128)), .tmp 3 (.a .bool), .box 128 (.row 172 .pc)], [], [.tmpRow 2 128 172 .pc]⟩)])], cuts := [(11, [(10, ⟨[.tmp 0 (.a .str), .tmp 4 (.a (.rowp 256)), .tmp 6 (.a (.int .i64)), .tmp 7 (.a (.int .i32)), .tmp 8 (.a (.ptr 512 0)), .tmp 13 (.a (.ptr 832 0)), .box 832 .siter, .box 256 (.row 172 .pc), .box 512 (.cells 172 [.bool, .str])], [], [.tmpRow 4 256 172 .pc]⟩)])] }, rfrz := [], ts := [2, 3] }
noncomputable def e_phrase_cut (F : Nat) : Env El := (envS 193 (conOf TT s_phrase_gap (M_phrase_gap F)) (envS 131 (conOf TT s_unicode_utf8_RuneLen (M_unicode_utf8_RuneLen F)) (envS 124 (conOf TT s_sign_Sort (M_sign_Sort F)) envN)))
noncomputable def M_phrase_cut_l0 (F : Nat) (v0 : (List UInt8 × Unit × Int × Unit × (List UInt8 × Nat) × List (Bool × List UInt8 × Unit) × Unit)) : Option ((List UInt8 × Unit × Int × Unit × (List UInt8 × Nat) × List (Bool × List UInt8 × Unit) × Unit) ⊕ (Unit × List (Bool × List UInt8 × Unit) × Unit ⊕ Unit × Bool × List (Bool × List UInt8 × Unit) × Unit)) :=
 if decide (v0.2.2.2.2.1.2 < v0.2.2.2.2.1.1.length) = true then
      if decide ((↑v0.2.2.2.2.1.2 : Int) < v0.2.2.1) = true then
       some (Sum.inl (v0.1, (), v0.2.2.1, (), (v0.2.2.2.2.1.1, v0.2.2.2.2.1.2 + runeLen v0.2.2.2.2.1.1 v0.2.2.2.2.1.2), v0.2.2.2.2.2.1, ()))
      else
       (M_sign_Sort F (runeAt v0.2.2.2.2.1.1 v0.2.2.2.2.1.2)).bind fun v1 =>
        if decide (v1 = 0) = true then some (Sum.inr (Sum.inr ((), false, [], ())))
        else
         ((M_unicode_utf8_RuneLen F (runeAt v0.2.2.2.2.1.1 v0.2.2.2.2.1.2)).bind fun v2 =>
            (sub v0.1 (↑v0.2.2.2.2.1.2 : Int) (IntKind.i64.wrap ((↑v0.2.2.2.2.1.2 : Int) + v2))).bind fun v3 =>
             some
              (v0.1, (), (↑v0.2.2.2.2.1.2 : Int), runeAt v0.2.2.2.2.1.1 v0.2.2.2.2.1.2, (), (),
               (v0.2.2.2.2.1.1, v0.2.2.2.2.1.2 + runeLen v0.2.2.2.2.1.1 v0.2.2.2.2.1.2), v0.2.2.2.2.2.1, (false, v3, ()), ())).bind
          fun v4 =>
          (if decide (v4.2.2.2.1 = 37) = true then
             (sub v4.1 v4.2.2.1 (↑v4.1.length : Int)).bind fun v5 =>
              (M_phrase_gap F v5).bind fun v6 =>
               if decide (v6 = []) = true then some (Sum.inr ((), false, [], ()))
               else some (Sum.inl (v4.1, (), v4.2.2.1, (), (), v4.2.2.2.2.2.2.1, v4.2.2.2.2.2.2.2.1, (true, v6, ()), ()))
            else some (Sum.inl (v4.1, (), v4.2.2.1, v4.2.2.2.2))).bind
           fun v7 =>
           sumC v7
            (fun v8 =>
             if
               decide ((v8.2.2.2.2.2.2.1.length + [(v8.2.2.2.2.2.2.2.1.1, v8.2.2.2.2.2.2.2.1.2.1, Unit.unit)].length) * 24 ≤ 140737488355328) =
                true then
              some
               (Sum.inl
                (v8.1, (), IntKind.i64.wrap (v8.2.2.1 + (↑v8.2.2.2.2.2.2.2.1.2.1.length : Int)), (), v8.2.2.2.2.2.1,
                 v8.2.2.2.2.2.2.1 ++ [(v8.2.2.2.2.2.2.2.1.1, v8.2.2.2.2.2.2.2.1.2.1, Unit.unit)], ()))
             else none)
            fun v9 => some (Sum.inr (Sum.inr ((), v9.2.1, v9.2.2.1, ())))
     else some (Sum.inr (Sum.inl ((), v0.2.2.2.2.2.1, ())))
noncomputable def M_phrase_cut (F : Nat) (x : (List UInt8)) : Option ((List (El .pc)) × (Bool)) :=
 if decide (60 < (↑x.length : Int)) = true then some ([], false)
 else
  (loopM (M_phrase_cut_l0 F)
     F (x, (), 0, (), (x, 0), [], ())).bind
   fun v10 => sumC v10 (fun v11 => some (v11.2.1, true)) fun v12 => some (v12.2.2.1, v12.2.1)
theorem t_phrase_cut (x : (List UInt8)) (F : Nat) : fnRun TT Tryz.prog (e_phrase_cut F) s_phrase_cut (bodyOf 127) F x = M_phrase_cut F x := by kernel_rfl
theorem c_phrase_cut (F : Nat) : Ctr TT Tryz.prog 127 (conOf TT s_phrase_cut (M_phrase_cut F)) :=
 ctr_of (code := bodyOf 127) Tryz.func127 (by kernel_rfl) (by kernel_rfl) (by kernel_rfl) (by kernel_rfl) (envS_ok (envS_ok (envS_ok envN_ok (c_sign_Sort F)) (c_unicode_utf8_RuneLen F)) (c_phrase_gap F)) hm (by kernel_rfl) (fun x r h => ⟨F, (t_phrase_cut x F).trans h⟩)
noncomputable def s_phrase_Check : Spec Kd := { params := [(.a .str)], ret := (.one (.a .bool)), pins := [], pl := { nt := 11 }, rfrz := [], ts := [2] }
noncomputable def e_phrase_Check (F : Nat) : Env El := (envS 127 (conOf TT s_phrase_cut (M_phrase_cut F)) envN)
noncomputable def M_phrase_Check (F : Nat) (x : (List UInt8)) : Option (Bool) :=
 (M_phrase_cut F x).bind fun v0 => some v0.2
theorem t_phrase_Check (x : (List UInt8)) (F : Nat) : fnRun TT Tryz.prog (e_phrase_Check F) s_phrase_Check (bodyOf 201) F x = M_phrase_Check F x := by kernel_rfl
theorem c_phrase_Check (F : Nat) : Ctr TT Tryz.prog 201 (conOf TT s_phrase_Check (M_phrase_Check F)) :=
 ctr_of (code := bodyOf 201) Tryz.func201 (by kernel_rfl) (by kernel_rfl) (by kernel_rfl) (by kernel_rfl) (envS_ok envN_ok (c_phrase_cut F)) hm (by kernel_rfl) (fun x r h => ⟨F, (t_phrase_Check x F).trans h⟩)
noncomputable def s_phrase_member : Spec Kd := { params := [(.a .str), (.a .str)], ret := (.one (.a .str)), pins := [], pl := { nt := 25 }, rfrz := [], ts := [4] }
noncomputable def e_phrase_member (F : Nat) : Env El := (envS 239 (conOf TT s_json_Text (M_json_Text F)) (envS 125 (conOf TT s_json_Field (M_json_Field F)) envN))
noncomputable def M_phrase_member (F : Nat) (x : (List UInt8) × (List UInt8)) : Option (List UInt8) :=
 (M_json_Field F x).bind fun (v0 : List UInt8 × Bool) =>
  if (!v0.2) = true then some [] else (M_json_Text F v0.1).bind fun (v1 : List UInt8 × Bool) => if v1.2 = true then some v1.1 else some v0.1
theorem t_phrase_member (x : (List UInt8) × (List UInt8)) (F : Nat) : fnRun TT Tryz.prog (e_phrase_member F) s_phrase_member (bodyOf 195) F x = M_phrase_member F x := by kernel_rfl
theorem c_phrase_member (F : Nat) : Ctr TT Tryz.prog 195 (conOf TT s_phrase_member (M_phrase_member F)) :=
 ctr_of (code := bodyOf 195) Tryz.func195 (by kernel_rfl) (by kernel_rfl) (by kernel_rfl) (by kernel_rfl) (envS_ok (envS_ok envN_ok (c_json_Field F)) (c_json_Text F)) hm (by kernel_rfl) (fun x r h => ⟨F, (t_phrase_member x F).trans h⟩)
noncomputable def s_phrase_value : Spec Kd := { params := [(.agg [.bool, .str]), (.agg [(.int .i64), .str, (.int .i64), (.int .i64), (.int .i64), (.int .i64), .str, (.int .i64), (.int .i64), (.int .i64), .str, .str, .str, .str])], ret := (.one (.a .str)), pins := [], pl := { nt := 41, ends := [(14, ⟨[.tmp 4 (.a .str)], [], []⟩)] }, rfrz := [], ts := [4] }
noncomputable def e_phrase_value (F : Nat) : Env El := (envS 195 (conOf TT s_phrase_member (M_phrase_member F)) envN)
noncomputable def M_phrase_value (F : Nat) (x : ((Bool) × (List UInt8) × Unit) × ((Int) × (List UInt8) × (Int) × (Int) × (Int) × (Int) × (List UInt8) × (Int) × (Int) × (Int) × (List UInt8) × (List UInt8) × (List UInt8) × (List UInt8) × Unit)) : Option (List UInt8) :=
 if (!x.1.1) = true then some x.1.2.1
 else
  (idx x.1.2.1 1).bind fun (v0 : UInt8) =>
   if decide ((↑v0.toNat : Int) = 98) = true then some x.2.2.2.2.2.2.2.2.2.2.2.2.2.2.1
   else
    if decide ((↑v0.toNat : Int) = 107) = true then some x.2.2.1
    else
     if decide ((↑v0.toNat : Int) = 109) = true then some x.2.2.2.2.2.2.2.2.2.2.2.2.1
     else
      if decide ((↑v0.toNat : Int) = 112) = true then some x.2.2.2.2.2.2.2.2.2.2.2.2.2.1
      else
       if decide ((↑v0.toNat : Int) = 37) = true then some [37]
       else
        ((sub x.1.2.1 2 (IntKind.i64.wrap ((↑x.1.2.1.length : Int) - 1))).bind fun (v1 : List UInt8) =>
           (M_phrase_member F (x.2.2.2.2.2.2.2.2.2.2.2.2.2.2.1, v1)).bind fun (v2 : List UInt8) => some (v2, ())).bind
         fun (v3 : List UInt8 × Unit) => some v3.1
theorem t_phrase_value (x : ((Bool) × (List UInt8) × Unit) × ((Int) × (List UInt8) × (Int) × (Int) × (Int) × (Int) × (List UInt8) × (Int) × (Int) × (Int) × (List UInt8) × (List UInt8) × (List UInt8) × (List UInt8) × Unit)) (F : Nat) : fnRun TT Tryz.prog (e_phrase_value F) s_phrase_value (bodyOf 129) F x = M_phrase_value F x := by kernel_rfl
theorem c_phrase_value (F : Nat) : Ctr TT Tryz.prog 129 (conOf TT s_phrase_value (M_phrase_value F)) :=
 ctr_of (code := bodyOf 129) Tryz.func129 (by kernel_rfl) (by kernel_rfl) (by kernel_rfl) (by kernel_rfl) (envS_ok envN_ok (c_phrase_member F)) hm (by kernel_rfl) (fun x r h => ⟨F, (t_phrase_value x F).trans h⟩)
noncomputable def s_phrase_Fill : Spec Kd := { params := [(.a .str), (.agg [(.int .i64), .str, (.int .i64), (.int .i64), (.int .i64), (.int .i64), .str, (.int .i64), (.int .i64), (.int .i64), .str, .str, .str, .str])], ret := (.one (.a .str)), pins := [], pl := { nt := 52, orc := { rv := [10, 46, 49], gv := [] }, joins := [(1700039, (.norm, ⟨[.tmp 10 (.a (.rowp 640)), .tmp 11 (.a (.int .i64)), .tmp 13 (.a (.int .i32)), .tmp 33 (.a (.ptr 2112 0)), .box 2112 .siter, .box 640 (.row 21 .i32)], [1025], [.tmpRow 10 640 21 .i32]⟩), [])], loops := [(2, ⟨[.tmp 10 (.a (.rowp 640)), .tmp 11 (.a (.int .i64)), .tmp 33 (.a (.ptr 2112 0)), .box 2112 .siter, .box 640 (.row 21 .i32)], [1025], [.tmpRow 10 640 21 .i32]⟩, (.exit 2, ⟨[.tmp 10 (.a (.rowp 640)), .box 640 (.row 21 .i32)], [1025], [.tmpRow 10 640 21 .i32]⟩), []), (0, ⟨[.tmp 3 (.a (.ptr 192 0)), .tmp 7 (.a (.ptr 448 0)), .tmp 21 (.a (.slc .pc)), .tmp 22 (.a (.int .i64)), .tmp 23 (.a (.int .i64)), .box 192 (.cells 35 [(.int .i64), .str, (.int .i64), (.int .i64), (.int .i64), (.int .i64), .str, (.int .i64), (.int .i64), (.int .i64), .str, .str, .str, .str]), .box 448 (.cells 170 [(.argp 448), (.rowp 1028673)]), .box 1028673 (.row 5 .u8)], [1025], [.cellSelf 448 0, .cellRow 448 1 1028673 5 .u8]⟩, (.exit 0, ⟨[.tmp 7 (.a (.ptr 448 0)), .box 448 (.cells 170 [(.argp 448), (.rowp 1028673)]), .box 1028673 (.row 5 .u8)], [1025], [.cellSelf 448 0, .cellRow 448 1 1028673 5 .u8]⟩), [])] }, rfrz := [], ts := [4] }
noncomputable def e_phrase_Fill (F : Nat) : Env El := (envS 131 (conOf TT s_unicode_utf8_RuneLen (M_unicode_utf8_RuneLen F)) (envS 124 (conOf TT s_sign_Sort (M_sign_Sort F)) (envS 130 (conOf TT s_strings_Builder_String (M_strings_Builder_String F)) (envS 128 (conOf TT s_strings_Builder_WriteString (M_strings_Builder_WriteString F)) (envS 129 (conOf TT s_phrase_value (M_phrase_value F)) (envS 127 (conOf TT s_phrase_cut (M_phrase_cut F)) envN))))))
noncomputable def M_phrase_Fill_l0 (F : Nat) (v1 : (Unit ×
      Unit ×
       List (Bool × List UInt8 × Unit) ×
        Int ×
         Int ×
          (Int × List UInt8 × Int × Int × Int × Int × List UInt8 × Int × Int × Int × List UInt8 × List UInt8 × List UInt8 × List UInt8 × Unit) ×
           (Unit × Unit × Unit) × List UInt8 × Unit)) : Option ((Unit ×
      Unit ×
       List (Bool × List UInt8 × Unit) ×
        Int ×
         Int ×
          (Int × List UInt8 × Int × Int × Int × Int × List UInt8 × Int × Int × Int × List UInt8 × List UInt8 × List UInt8 × List UInt8 × Unit) ×
           (Unit × Unit × Unit) × List UInt8 × Unit) ⊕ (Unit × (Unit × Unit × Unit) × List UInt8 × Unit)) :=
 if decide (v1.2.2.2.2.1 < v1.2.2.2.1) = true then
       (idx v1.2.2.1 v1.2.2.2.2.1).bind fun (v2 : Bool × List UInt8 × Unit) =>
        (M_phrase_value F ((v2.1, v2.2.1, ()), v1.2.2.2.2.2.1)).bind fun (v3 : List UInt8) =>
         (M_strings_Builder_WriteString F (((), v1.2.2.2.2.2.2.2.1, ()), v3)).bind fun (v4 : (Int × Unit) × Unit × List UInt8 × Unit) =>
          some (Sum.inl ((), (), v1.2.2.1, v1.2.2.2.1, IntKind.i64.wrap (v1.2.2.2.2.1 + 1), v1.2.2.2.2.2.1, ((), (), ()), v4.2.2.1, ()))
      else some (Sum.inr ((), ((), (), ()), v1.2.2.2.2.2.2.2.1, ()))
noncomputable def M_phrase_Fill_l1 (F : Nat) (v7 : (Unit × Int × Unit × (List UInt8 × Nat) × List Int × Unit)) : Option ((Unit × Int × Unit × (List UInt8 × Nat) × List Int × Unit) ⊕ (Unit × List Int × Unit)) :=
 if decide (v7.2.2.2.1.2 < v7.2.2.2.1.1.length) = true then
         (M_sign_Sort F (runeAt v7.2.2.2.1.1 v7.2.2.2.1.2)).bind fun (v8 : Int) =>
          (if decide (v8 = 0) = true then
             some ((), v7.2.1, 63, (), (v7.2.2.2.1.1, v7.2.2.2.1.2 + runeLen v7.2.2.2.1.1 v7.2.2.2.1.2), v7.2.2.2.2.1, ())
            else
             some
              ((), v7.2.1, runeAt v7.2.2.2.1.1 v7.2.2.2.1.2, (), (v7.2.2.2.1.1, v7.2.2.2.1.2 + runeLen v7.2.2.2.1.1 v7.2.2.2.1.2), v7.2.2.2.2.1,
                ())).bind
           fun (v9 : Unit × Int × Int × Unit × (List UInt8 × Nat) × List Int × Unit) =>
           (M_unicode_utf8_RuneLen F v9.2.2.1).bind fun (v10 : Int) =>
            if decide (40 < IntKind.i64.wrap (v9.2.1 + v10)) = true then some (Sum.inr ((), v9.2.2.2.2.2.1, ()))
            else
             if decide ((v9.2.2.2.2.2.1.length + [v9.2.2.1].length) * 4 ≤ 140737488355328) = true then
              some (Sum.inl ((), IntKind.i64.wrap (v9.2.1 + v10), (), v9.2.2.2.2.1, v9.2.2.2.2.2.1 ++ [v9.2.2.1], ()))
             else none
        else some (Sum.inr ((), v7.2.2.2.2.1, ()))
noncomputable def M_phrase_Fill (F : Nat) (x : (List UInt8) × ((Int) × (List UInt8) × (Int) × (Int) × (Int) × (Int) × (List UInt8) × (Int) × (Int) × (Int) × (List UInt8) × (List UInt8) × (List UInt8) × (List UInt8) × Unit)) : Option (List UInt8) :=
 (M_phrase_cut F x.1).bind fun (v0 : List (Bool × List UInt8 × Unit) × Bool) =>
  if (!v0.2) = true then some []
  else
   (loopM (M_phrase_Fill_l0 F)
      F ((), (), v0.1, (↑v0.1.length : Int), 0, x.2, ((), (), ()), [], ())).bind
    fun (v5 : Unit × (Unit × Unit × Unit) × List UInt8 × Unit) =>
    (M_strings_Builder_String F ((), v5.2.2.1, ())).bind fun (v6 : List UInt8 × Unit × Unit × Unit) =>
     (loopM (M_phrase_Fill_l1 F)
        F ((), 0, (), (v6.1, 0), [], ())).bind
      fun (v11 : Unit × List Int × Unit) => some (runes8 v11.2.1)
theorem t_phrase_Fill (x : (List UInt8) × ((Int) × (List UInt8) × (Int) × (Int) × (Int) × (Int) × (List UInt8) × (Int) × (Int) × (Int) × (List UInt8) × (List UInt8) × (List UInt8) × (List UInt8) × Unit)) (F : Nat) : fnRun TT Tryz.prog (e_phrase_Fill F) s_phrase_Fill (bodyOf 70) F x = M_phrase_Fill F x := by kernel_rfl
theorem c_phrase_Fill (F : Nat) : Ctr TT Tryz.prog 70 (conOf TT s_phrase_Fill (M_phrase_Fill F)) :=
 ctr_of (code := bodyOf 70) Tryz.func70 (by kernel_rfl) (by kernel_rfl) (by kernel_rfl) (by kernel_rfl) (envS_ok (envS_ok (envS_ok (envS_ok (envS_ok (envS_ok envN_ok (c_phrase_cut F)) (c_phrase_value F)) (c_strings_Builder_WriteString F)) (c_strings_Builder_String F)) (c_sign_Sort F)) (c_unicode_utf8_RuneLen F)) hm (by kernel_rfl) (fun x r h => ⟨F, (t_phrase_Fill x F).trans h⟩)
end Go.Vm
