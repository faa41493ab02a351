/- Models of functions of the program, and that each keeps its contract: for all arguments of its shape. No condition. -/
import Derived.Test.YtihpjgcbmipdbaaGreatDoorKt
import Derived.Test.YtihpjgcbmipdbaaGreatDoorFbld
namespace Go.Vm
open Go.Proofs
set_option linter.unusedVariables false
noncomputable def s_json_reader_fail : Spec Kd := { params := [(.pin 191 [.str, (.int .i64), (.int .i64), (.int .i64)]), (.a (.int .i64))], ret := (.tup []), pins := [[.str, (.int .i64), (.int .i64), (.int .i64)]], pl := { nt := 13 }, rfrz := [], ts := [] }
noncomputable def e_json_reader_fail (F : Nat) : Env El := envN
noncomputable def M_json_reader_fail (F : Nat) (x : ((List UInt8) × (Int) × (Int) × (Int) × Unit) × (Int)) : Option ((Unit) × ((List UInt8) × (Int) × (Int) × (Int) × Unit)) :=
 if decide (x.1.2.2.2.1 = 0) = true then some ((), x.1.1, x.1.2.1, x.1.2.2.1, x.2, ()) else some ((), x.1.1, x.1.2.1, x.1.2.2.1, x.1.2.2.2.1, ())
theorem t_json_reader_fail (x : ((List UInt8) × (Int) × (Int) × (Int) × Unit) × (Int)) (F : Nat) : fnRun TT Tryz.prog (e_json_reader_fail F) s_json_reader_fail (bodyOf 161) F x = M_json_reader_fail F x := by kernel_rfl
theorem c_json_reader_fail (F : Nat) : Ctr TT Tryz.prog 161 (conOf TT s_json_reader_fail (M_json_reader_fail F)) :=
 ctr_of (code := bodyOf 161) Tryz.func161 (by kernel_rfl) (by kernel_rfl) (by kernel_rfl) (by kernel_rfl) envN_ok hm (by kernel_rfl) (fun x r h => ⟨F, (t_json_reader_fail x F).trans h⟩)
noncomputable def s_json_reader_peek : Spec Kd := { params := [(.pin 191 [.str, (.int .i64), (.int .i64), (.int .i64)])], ret := (.one (.a (.int .u8))), pins := [[.str, (.int .i64), (.int .i64), (.int .i64)]], pl := { nt := 59, loops := [(0, ⟨[.tmp 0 (.a (.ptr 1 0)), .box 1 (.cells 191 [.str, (.int .i64), (.int .i64), (.int .i64)])], [], []⟩, (.exit 0, ⟨[.tmp 0 (.a (.ptr 1 0)), .box 1 (.cells 191 [.str, (.int .i64), (.int .i64), (.int .i64)])], [], []⟩), [])], ends := [(5, ⟨[.tmp 0 (.a (.ptr 1 0)), .tmp 2 (.a (.int .u8)), .box 1 (.cells 191 [.str, (.int .i64), (.int .i64), (.int .i64)])], [], []⟩), (3, ⟨[.tmp 0 (.a (.ptr 1 0)), .tmp 49 (.a .bool), .box 1 (.cells 191 [.str, (.int .i64), (.int .i64), (.int .i64)])], [], []⟩), (1, ⟨[.tmp 0 (.a (.ptr 1 0)), .tmp 25 (.a .bool), .box 1 (.cells 191 [.str, (.int .i64), (.int .i64), (.int .i64)])], [], []⟩)] }, rfrz := [], ts := [2] }
noncomputable def e_json_reader_peek (F : Nat) : Env El := (envS 200 (conOf TT s_strings_IndexByte (M_strings_IndexByte F)) envN)
noncomputable def M_json_reader_peek_l0 (F : Nat) (v0 : (Unit × (List UInt8 × Int × Int × Int × Unit) × Unit)) : Option ((Unit × (List UInt8 × Int × Int × Int × Unit) × Unit) ⊕ (Unit × (List UInt8 × Int × Int × Int × Unit) × Unit)) :=
 (if decide (v0.2.1.2.1 < (↑v0.2.1.1.length : Int)) = true then
             (idx v0.2.1.1 v0.2.1.2.1).bind fun v1 =>
               (M_strings_IndexByte F ([32, 9, 10, 13], (↑v1.toNat : Int))).bind fun v2 =>
                 some ((), decide (0 ≤ v2), (v0.2.1.1, v0.2.1.2.1, v0.2.1.2.2.1, v0.2.1.2.2.2.1, ()), ())
      else some ((), false, (v0.2.1.1, v0.2.1.2.1, v0.2.1.2.2.1, v0.2.1.2.2.2.1, ()), ())).bind
     fun v3 =>
     if v3.2.1 = true then some (Sum.inl ((), (v3.2.2.1.1, IntKind.i64.wrap (v3.2.2.1.2.1 + 1), v3.2.2.1.2.2.1, v3.2.2.1.2.2.2.1, ()), ()))
     else some (Sum.inr ((), (v3.2.2.1.1, v3.2.2.1.2.1, v3.2.2.1.2.2.1, v3.2.2.1.2.2.2.1, ()), ()))
noncomputable def M_json_reader_peek (F : Nat) (x : ((List UInt8) × (Int) × (Int) × (Int) × Unit)) : Option ((Int) × ((List UInt8) × (Int) × (Int) × (Int) × Unit)) :=
 (loopM (M_json_reader_peek_l0 F)
    F ((), (x.1, x.2.1, x.2.2.1, x.2.2.2.1, ()), ())).bind
  fun v4 =>
  (if (!decide (v4.2.1.2.2.2.1 = 0)) = false then
     some ((), decide ((↑v4.2.1.1.length : Int) ≤ v4.2.1.2.1), (v4.2.1.1, v4.2.1.2.1, v4.2.1.2.2.1, v4.2.1.2.2.2.1, ()), ())
    else some ((), true, (v4.2.1.1, v4.2.1.2.1, v4.2.1.2.2.1, v4.2.1.2.2.2.1, ()), ())).bind
   fun v5 =>
   if v5.2.1 = true then some (0, v5.2.2.1.1, v5.2.2.1.2.1, v5.2.2.1.2.2.1, v5.2.2.1.2.2.2.1, ())
   else
    ((idx v5.2.2.1.1 v5.2.2.1.2.1).bind fun v6 => some ((), (↑v6.toNat : Int), (v5.2.2.1.1, v5.2.2.1.2.1, v5.2.2.1.2.2.1, v5.2.2.1.2.2.2.1, ()), ())).bind
      fun v7 => some (v7.2.1, v7.2.2.1.1, v7.2.2.1.2.1, v7.2.2.1.2.2.1, v7.2.2.1.2.2.2.1, ())
theorem t_json_reader_peek (x : ((List UInt8) × (Int) × (Int) × (Int) × Unit)) (F : Nat) : fnRun TT Tryz.prog (e_json_reader_peek F) s_json_reader_peek (bodyOf 160) F x = M_json_reader_peek F x := by kernel_rfl
theorem c_json_reader_peek (F : Nat) : Ctr TT Tryz.prog 160 (conOf TT s_json_reader_peek (M_json_reader_peek F)) :=
 ctr_of (code := bodyOf 160) Tryz.func160 (by kernel_rfl) (by kernel_rfl) (by kernel_rfl) (by kernel_rfl) (envS_ok envN_ok (c_strings_IndexByte F)) hm (by kernel_rfl) (fun x r h => ⟨F, (t_json_reader_peek x F).trans h⟩)
noncomputable def s_json_hex : Spec Kd := { params := [(.a .str)], ret := (.tup [(.a (.int .i32)), (.a .bool)]), pins := [], pl := { nt := 52, bjoins := [(1, (.norm, ⟨[.tmp 0 (.a .str), .tmp 4 (.a (.int .i32)), .tmp 10 (.a (.int .i64))], [], []⟩), [(.ret, ⟨[.tmp 2 (.a (.int .i32)), .tmp 3 (.a .bool)], [], []⟩)])], loops := [(0, ⟨[.tmp 0 (.a .str), .tmp 4 (.a (.int .i32)), .tmp 10 (.a (.int .i64))], [], []⟩, (.exit 0, ⟨[.tmp 4 (.a (.int .i32))], [], []⟩), [(.ret, ⟨[.tmp 2 (.a (.int .i32)), .tmp 3 (.a .bool)], [], []⟩)])], cuts := [(11, [(6, ⟨[.tmp 0 (.a .str), .tmp 4 (.a (.int .i32)), .tmp 6 (.a (.int .u8)), .tmp 10 (.a (.int .i64)), .tmp 42 (.a .bool)], [], []⟩)]), (9, [(10, ⟨[.tmp 0 (.a .str), .tmp 4 (.a (.int .i32)), .tmp 5 (.a (.int .i64)), .tmp 6 (.a (.int .u8)), .tmp 10 (.a (.int .i64)), .tmp 27 (.a .bool)], [], []⟩)])] }, rfrz := [], ts := [2, 3] }
noncomputable def e_json_hex (F : Nat) : Env El := envN
noncomputable def M_json_hex_l0 (F : Nat) (v0 : (List UInt8 × Int × Int × Unit)) : Option ((List UInt8 × Int × Int × Unit) ⊕ (Int × Unit ⊕ Int × Bool × Unit)) :=
 if decide (v0.2.2.1 < 4) = true then
      ((idx v0.1 v0.2.2.1).bind fun v1 =>
         ((idx v0.1 v0.2.2.1).bind fun v2 =>
            if decide (48 ≤ (↑v2.toNat : Int)) = true then
             (idx v0.1 v0.2.2.1).bind fun v3 =>
              some (v0.1, v0.2.1, v0.2.2.1, ior IntKind.u8 (↑v1.toNat : Int) 32, v0.2.2.1, decide ((↑v3.toNat : Int) ≤ 57), ())
            else some (v0.1, v0.2.1, v0.2.2.1, ior IntKind.u8 (↑v1.toNat : Int) 32, v0.2.2.1, false, ())).bind
          fun v4 =>
          if v4.2.2.2.2.2.1 = true then
           (idx v4.1 v4.2.2.1).bind fun v5 =>
            some
             (Sum.inl
              (v4.1, ior IntKind.i32 (shl IntKind.i32 v4.2.1 4) (IntKind.i32.wrap (IntKind.u8.wrap ((↑v5.toNat : Int) - 48))), v4.2.2.2.2.1, ()))
          else
           (if decide (97 ≤ v4.2.2.2.1) = true then some (v4.1, v4.2.1, v4.2.2.2.1, v4.2.2.2.2.1, decide (v4.2.2.2.1 ≤ 102), ())
             else some (v4.1, v4.2.1, v4.2.2.2.1, v4.2.2.2.2.1, false, ())).bind
            fun v6 =>
            if v6.2.2.2.2.1 = true then
             some
              (Sum.inl
               (v6.1, ior IntKind.i32 (shl IntKind.i32 v6.2.1 4) (IntKind.i32.wrap (IntKind.u8.wrap (IntKind.u8.wrap (v6.2.2.1 - 97) + 10))),
                v6.2.2.2.1, ()))
            else some (Sum.inr (0, false, ()))).bind
       fun v7 =>
       sumC v7 (fun v8 => some (Sum.inl (v8.1, v8.2.1, IntKind.i64.wrap (v8.2.2.1 + 1), ()))) fun v9 => some (Sum.inr (Sum.inr (v9.1, v9.2.1, ())))
     else some (Sum.inr (Sum.inl (v0.2.1, ())))
noncomputable def M_json_hex (F : Nat) (x : (List UInt8)) : Option ((Int) × (Bool)) :=
 if decide ((↑x.length : Int) < 4) = true then some (0, false)
 else
  (loopM (M_json_hex_l0 F)
     F (x, 0, 0, ())).bind
   fun v10 => sumC v10 (fun v11 => some (v11.1, true)) fun v12 => some (v12.1, v12.2.1)
theorem t_json_hex (x : (List UInt8)) (F : Nat) : fnRun TT Tryz.prog (e_json_hex F) s_json_hex (bodyOf 307) F x = M_json_hex F x := by kernel_rfl
theorem c_json_hex (F : Nat) : Ctr TT Tryz.prog 307 (conOf TT s_json_hex (M_json_hex F)) :=
 ctr_of (code := bodyOf 307) Tryz.func307 (by kernel_rfl) (by kernel_rfl) (by kernel_rfl) (by kernel_rfl) envN_ok hm (by kernel_rfl) (fun x r h => ⟨F, (t_json_hex x F).trans h⟩)
noncomputable def s_json_point : Spec Kd := { params := [(.a .str)], ret := (.tup [(.a (.int .i32)), (.a (.int .i64))]), pins := [], pl := { nt := 60, cuts := [(9, [(6, ⟨[.tmp 4 (.a (.int .i32)), .tmp 6 (.a (.int .i32)), .tmp 48 (.a .bool)], [], []⟩), (4, ⟨[.tmp 4 (.a (.int .i32)), .tmp 6 (.a (.int .i32)), .tmp 52 (.a .bool)], [], []⟩)]), (4, [(6, ⟨[.tmp 0 (.a .str), .tmp 4 (.a (.int .i32)), .tmp 30 (.a .bool)], [], []⟩)]), (2, [(10, ⟨[.tmp 0 (.a .str), .tmp 4 (.a (.int .i32)), .tmp 23 (.a .bool)], [], []⟩)])] }, rfrz := [], ts := [2, 3] }
noncomputable def e_json_point (F : Nat) : Env El := (envS 216 (conOf TT s_strings_HasPrefix (M_strings_HasPrefix F)) (envS 307 (conOf TT s_json_hex (M_json_hex F)) envN))
noncomputable def M_json_point (F : Nat) (x : (List UInt8)) : Option ((Int) × (Int)) :=
 (sub x 2 (↑x.length : Int)).bind fun v0 =>
  (M_json_hex F v0).bind fun v1 =>
   (if (!v1.2) = false then if decide (56320 ≤ v1.1) = true then some (x, v1.1, decide (v1.1 < 57344), ()) else some (x, v1.1, false, ())
     else some (x, v1.1, true, ())).bind
    fun v2 =>
    if v2.2.2.1 = true then some (0, 0)
    else
     (if decide (v2.2.1 < 55296) = false then some (v2.1, v2.2.1, decide (57344 ≤ v2.2.1), ()) else some (v2.1, v2.2.1, true, ())).bind fun v3 =>
      if v3.2.2.1 = true then some (v3.2.1, 6)
      else
       (sub v3.1 6 (↑v3.1.length : Int)).bind fun v4 =>
        (M_strings_HasPrefix F (v4, [92, 117])).bind fun v5 =>
         if (!v5) = true then some (0, 0)
         else
          (sub v3.1 8 (↑v3.1.length : Int)).bind fun v6 =>
           (M_json_hex F v6).bind fun v7 =>
            (if (!v7.2) = false then some (v3.2.1, v7.1, decide (v7.1 < 56320), ()) else some (v3.2.1, v7.1, true, ())).bind fun v8 =>
             (if v8.2.2.1 = false then some (v8.1, v8.2.1, decide (57344 ≤ v8.2.1), ()) else some (v8.1, v8.2.1, true, ())).bind fun v9 =>
              if v9.2.2.1 = true then some (0, 0)
              else
               some
                (IntKind.i32.wrap
                  (IntKind.i32.wrap (IntKind.i32.wrap (65536 + shl IntKind.i32 (IntKind.i32.wrap (v9.1 - 55296)) 10) + v9.2.1) - 56320),
                 12)
theorem t_json_point (x : (List UInt8)) (F : Nat) : fnRun TT Tryz.prog (e_json_point F) s_json_point (bodyOf 286) F x = M_json_point F x := by kernel_rfl
theorem c_json_point (F : Nat) : Ctr TT Tryz.prog 286 (conOf TT s_json_point (M_json_point F)) :=
 ctr_of (code := bodyOf 286) Tryz.func286 (by kernel_rfl) (by kernel_rfl) (by kernel_rfl) (by kernel_rfl) (envS_ok (envS_ok envN_ok (c_json_hex F)) (c_strings_HasPrefix F)) hm (by kernel_rfl) (fun x r h => ⟨F, (t_json_point x F).trans h⟩)
noncomputable def s_json_escape : Spec Kd := { params := [(.a .str)], ret := (.tup [(.a (.int .i32)), (.a (.int .i64))]), pins := [], pl := { nt := 33, joins := [(800011, (.norm, ⟨[.tmp 0 (.a .str), .tmp 4 (.a (.int .u8)), .tmp 10 (.a (.int .u8)), .tmp 11 (.a .bool)], [], []⟩), []), (700011, (.norm, ⟨[.tmp 0 (.a .str), .tmp 4 (.a (.int .u8)), .tmp 10 (.a (.int .u8)), .tmp 11 (.a .bool)], [], []⟩), [])] }, rfrz := [], ts := [2, 3] }
noncomputable def e_json_escape (F : Nat) : Env El := (envS 286 (conOf TT s_json_point (M_json_point F)) envN)
noncomputable def M_json_escape (F : Nat) (x : (List UInt8)) : Option ((Int) × (Int)) :=
 if decide ((↑x.length : Int) < 2) = true then some (0, 0)
 else
  (idx x 1).bind fun v0 =>
   (if decide ((↑v0.toNat : Int) = 34) = true then some (x, (↑v0.toNat : Int), (↑v0.toNat : Int), decide ((↑v0.toNat : Int) = 34), ())
     else
      (if decide ((↑v0.toNat : Int) = 92) = true then some (x, (↑v0.toNat : Int), (↑v0.toNat : Int), decide ((↑v0.toNat : Int) = 92), ())
        else some (x, (↑v0.toNat : Int), (↑v0.toNat : Int), decide ((↑v0.toNat : Int) = 47), ())).bind
       fun v1 => some (v1.1, v1.2.1, v1.2.2.1, v1.2.2.2.1, ())).bind
    fun v2 =>
    if v2.2.2.2.1 = true then some (IntKind.i32.wrap v2.2.1, 2)
    else
     if decide (v2.2.2.1 = 98) = true then some (8, 2)
     else
      if decide (v2.2.2.1 = 102) = true then some (12, 2)
      else
       if decide (v2.2.2.1 = 110) = true then some (10, 2)
       else
        if decide (v2.2.2.1 = 114) = true then some (13, 2)
        else
         if decide (v2.2.2.1 = 116) = true then some (9, 2)
         else if decide (v2.2.2.1 = 117) = true then (M_json_point F v2.1).bind fun v3 => some v3 else some (0, 0)
theorem t_json_escape (x : (List UInt8)) (F : Nat) : fnRun TT Tryz.prog (e_json_escape F) s_json_escape (bodyOf 257) F x = M_json_escape F x := by kernel_rfl
theorem c_json_escape (F : Nat) : Ctr TT Tryz.prog 257 (conOf TT s_json_escape (M_json_escape F)) :=
 ctr_of (code := bodyOf 257) Tryz.func257 (by kernel_rfl) (by kernel_rfl) (by kernel_rfl) (by kernel_rfl) (envS_ok envN_ok (c_json_point F)) hm (by kernel_rfl) (fun x r h => ⟨F, (t_json_escape x F).trans h⟩)
noncomputable def s_json_reader_text : Spec Kd := { params := [(.pin 191 [.str, (.int .i64), (.int .i64), (.int .i64)])], ret := (.one (.a .str)), pins := [[.str, (.int .i64), (.int .i64), (.int .i64)]], pl := { nt := 76, bjoins := [(2, (.norm, ⟨[.tmp 0 (.a (.ptr 1 0)), .tmp 3 (.a .str), .tmp 4 (.a (.ptr 256 0)), .tmp 6 (.a (.int .i64)), .tmp 7 (.a (.int .i32)), .tmp 8 (.a (.int .i64)), .tmp 20 (.a (.ptr 1280 0)), .box 1280 .siter, .box 1 (.cells 191 [.str, (.int .i64), (.int .i64), (.int .i64)]), .box 256 (.cells 170 [(.argp 256), (.rowp 1016385)]), .box 1016385 (.row 5 .u8)], [], [.cellSelf 256 0, .cellRow 256 1 1016385 5 .u8]⟩), [(.ret, ⟨[.tmp 0 (.a (.ptr 1 0)), .tmp 2 (.a .str), .box 1 (.cells 191 [.str, (.int .i64), (.int .i64), (.int .i64)])], [], []⟩)])], loops := [(0, ⟨[.tmp 0 (.a (.ptr 1 0)), .tmp 3 (.a .str), .tmp 4 (.a (.ptr 256 0)), .tmp 5 (.a (.int .i64)), .tmp 20 (.a (.ptr 1280 0)), .box 1280 .siter, .box 1 (.cells 191 [.str, (.int .i64), (.int .i64), (.int .i64)]), .box 256 (.cells 170 [(.argp 256), (.rowp 1016385)]), .box 1016385 (.row 5 .u8)], [], [.cellSelf 256 0, .cellRow 256 1 1016385 5 .u8]⟩, (.exit 0, ⟨[.tmp 0 (.a (.ptr 1 0)), .box 1 (.cells 191 [.str, (.int .i64), (.int .i64), (.int .i64)])], [], []⟩), [(.ret, ⟨[.tmp 0 (.a (.ptr 1 0)), .tmp 2 (.a .str), .box 1 (.cells 191 [.str, (.int .i64), (.int .i64), (.int .i64)])], [], []⟩)])], cuts := [(10, [(10, ⟨[.tmp 0 (.a (.ptr 1 0)), .tmp 4 (.a (.ptr 256 0)), .box 1 (.cells 191 [.str, (.int .i64), (.int .i64), (.int .i64)]), .box 256 (.cells 170 [(.argp 256), (.rowp 1016385)]), .box 1016385 (.row 5 .u8)], [], [.cellSelf 256 0, .cellRow 256 1 1016385 5 .u8]⟩)]), (14, [(13, ⟨[.tmp 0 (.a (.ptr 1 0)), .tmp 3 (.a .str), .tmp 4 (.a (.ptr 256 0)), .tmp 6 (.a (.int .i64)), .tmp 7 (.a (.int .i32)), .tmp 8 (.a (.int .i64)), .tmp 20 (.a (.ptr 1280 0)), .tmp 66 (.a .bool), .box 1280 .siter, .box 1 (.cells 191 [.str, (.int .i64), (.int .i64), (.int .i64)]), .box 256 (.cells 170 [(.argp 256), (.rowp 1016385)]), .box 1016385 (.row 5 .u8)], [], [.cellSelf 256 0, .cellRow 256 1 1016385 5 .u8]⟩)])], ends := [(1, ⟨[.tmp 0 (.a (.ptr 1 0)), .tmp 3 (.a .str), .box 1 (.cells 191 [.str, (.int .i64), (.int .i64), (.int .i64)])], [], []⟩)] }, rfrz := [], ts := [2] }
noncomputable def e_json_reader_text (F : Nat) : Env El := (envS 161 (conOf TT s_json_reader_fail (M_json_reader_fail F)) (envS 258 (conOf TT s_strings_Builder_WriteRune (M_strings_Builder_WriteRune F)) (envS 216 (conOf TT s_strings_HasPrefix (M_strings_HasPrefix F)) (envS 257 (conOf TT s_json_escape (M_json_escape F)) (envS 130 (conOf TT s_strings_Builder_String (M_strings_Builder_String F)) (envS 131 (conOf TT s_unicode_utf8_RuneLen (M_unicode_utf8_RuneLen F)) envN))))))
noncomputable def M_json_reader_text_l0 (F : Nat) (v2 : (Unit × List UInt8 × Unit × Int × Unit × (List UInt8 × Nat) × (List UInt8 × Int × Int × Int × Unit) × (Unit × Unit × Unit) × List UInt8 × Unit)) : Option ((Unit × List UInt8 × Unit × Int × Unit × (List UInt8 × Nat) × (List UInt8 × Int × Int × Int × Unit) × (Unit × Unit × Unit) × List UInt8 × Unit) ⊕ (Unit × (List UInt8 × Int × Int × Int × Unit) × Unit ⊕ Unit × List UInt8 × (List UInt8 × Int × Int × Int × Unit) × Unit)) :=
 if decide (v2.2.2.2.2.2.1.2 < v2.2.2.2.2.2.1.1.length) = true then
      if decide ((↑v2.2.2.2.2.2.1.2 : Int) < v2.2.2.2.1) = true then
       some
        (Sum.inl
         ((), v2.2.1, (), v2.2.2.2.1, (), (v2.2.2.2.2.2.1.1, v2.2.2.2.2.2.1.2 + runeLen v2.2.2.2.2.2.1.1 v2.2.2.2.2.2.1.2),
           (v2.2.2.2.2.2.2.1.1, v2.2.2.2.2.2.2.1.2.1, v2.2.2.2.2.2.2.1.2.2.1, v2.2.2.2.2.2.2.1.2.2.2.1, ()), ((), (), ()), v2.2.2.2.2.2.2.2.2.1, ()))
      else
       (M_unicode_utf8_RuneLen F (runeAt v2.2.2.2.2.2.1.1 v2.2.2.2.2.2.1.2)).bind fun v3 =>
        (if decide (runeAt v2.2.2.2.2.2.1.1 v2.2.2.2.2.2.1.2 = 34) = true then
           (M_strings_Builder_String F ((), v2.2.2.2.2.2.2.2.2.1, ())).bind fun v4 =>
            some
             (Sum.inr
              ((), v4.1,
                (v2.2.2.2.2.2.2.1.1, IntKind.i64.wrap (v2.2.2.2.2.2.2.1.2.1 + IntKind.i64.wrap ((↑v2.2.2.2.2.2.1.2 : Int) + 2)),
                  v2.2.2.2.2.2.2.1.2.2.1, v2.2.2.2.2.2.2.1.2.2.2.1, ()),
                ()))
          else
           if decide (runeAt v2.2.2.2.2.2.1.1 v2.2.2.2.2.2.1.2 = 92) = true then
            (sub v2.2.1 (↑v2.2.2.2.2.2.1.2 : Int) (↑v2.2.1.length : Int)).bind fun v5 =>
             (M_json_escape F v5).bind fun v6 =>
              some
               (Sum.inl
                ((), v2.2.1, (), (↑v2.2.2.2.2.2.1.2 : Int), v6.1, v6.2, (),
                  (v2.2.2.2.2.2.1.1, v2.2.2.2.2.2.1.2 + runeLen v2.2.2.2.2.2.1.1 v2.2.2.2.2.2.1.2),
                  (v2.2.2.2.2.2.2.1.1, v2.2.2.2.2.2.2.1.2.1, v2.2.2.2.2.2.2.1.2.2.1, v2.2.2.2.2.2.2.1.2.2.2.1, ()), ((), (), ()),
                  v2.2.2.2.2.2.2.2.2.1, ()))
           else
            (if decide (runeAt v2.2.2.2.2.2.1.1 v2.2.2.2.2.2.1.2 < 32) = false then
               if decide (runeAt v2.2.2.2.2.2.1.1 v2.2.2.2.2.2.1.2 = 65533) = true then
                (sub v2.2.1 (↑v2.2.2.2.2.2.1.2 : Int) (↑v2.2.1.length : Int)).bind fun v7 =>
                 (M_strings_HasPrefix F (v7, [239, 191, 189])).bind fun v8 =>
                  some
                   ((), v2.2.1, (), (↑v2.2.2.2.2.2.1.2 : Int), runeAt v2.2.2.2.2.2.1.1 v2.2.2.2.2.2.1.2, v3, (), !v8,
                     (v2.2.2.2.2.2.1.1, v2.2.2.2.2.2.1.2 + runeLen v2.2.2.2.2.2.1.1 v2.2.2.2.2.2.1.2),
                     (v2.2.2.2.2.2.2.1.1, v2.2.2.2.2.2.2.1.2.1, v2.2.2.2.2.2.2.1.2.2.1, v2.2.2.2.2.2.2.1.2.2.2.1, ()), ((), (), ()),
                     v2.2.2.2.2.2.2.2.2.1, ())
               else
                some
                 ((), v2.2.1, (), (↑v2.2.2.2.2.2.1.2 : Int), runeAt v2.2.2.2.2.2.1.1 v2.2.2.2.2.2.1.2, v3, (), false,
                   (v2.2.2.2.2.2.1.1, v2.2.2.2.2.2.1.2 + runeLen v2.2.2.2.2.2.1.1 v2.2.2.2.2.2.1.2),
                   (v2.2.2.2.2.2.2.1.1, v2.2.2.2.2.2.2.1.2.1, v2.2.2.2.2.2.2.1.2.2.1, v2.2.2.2.2.2.2.1.2.2.2.1, ()), ((), (), ()),
                   v2.2.2.2.2.2.2.2.2.1, ())
              else
               some
                ((), v2.2.1, (), (↑v2.2.2.2.2.2.1.2 : Int), runeAt v2.2.2.2.2.2.1.1 v2.2.2.2.2.2.1.2, v3, (), true,
                  (v2.2.2.2.2.2.1.1, v2.2.2.2.2.2.1.2 + runeLen v2.2.2.2.2.2.1.1 v2.2.2.2.2.2.1.2),
                  (v2.2.2.2.2.2.2.1.1, v2.2.2.2.2.2.2.1.2.1, v2.2.2.2.2.2.2.1.2.2.1, v2.2.2.2.2.2.2.1.2.2.2.1, ()), ((), (), ()),
                  v2.2.2.2.2.2.2.2.2.1, ())).bind
             fun v9 =>
             if v9.2.2.2.2.2.2.2.1 = true then
              some
               (Sum.inl
                ((), v9.2.1, (), v9.2.2.2.1, v9.2.2.2.2.1, 0, (), v9.2.2.2.2.2.2.2.2.1,
                  (v9.2.2.2.2.2.2.2.2.2.1.1, v9.2.2.2.2.2.2.2.2.2.1.2.1, v9.2.2.2.2.2.2.2.2.2.1.2.2.1, v9.2.2.2.2.2.2.2.2.2.1.2.2.2.1, ()),
                  ((), (), ()), v9.2.2.2.2.2.2.2.2.2.2.2.1, ()))
             else
              some
               (Sum.inl
                ((), v9.2.1, (), v9.2.2.2.1, v9.2.2.2.2.1, v9.2.2.2.2.2.1, (), v9.2.2.2.2.2.2.2.2.1,
                  (v9.2.2.2.2.2.2.2.2.2.1.1, v9.2.2.2.2.2.2.2.2.2.1.2.1, v9.2.2.2.2.2.2.2.2.2.1.2.2.1, v9.2.2.2.2.2.2.2.2.2.1.2.2.2.1, ()),
                  ((), (), ()), v9.2.2.2.2.2.2.2.2.2.2.2.1, ()))).bind
         fun v10 =>
         sumC v10
          (fun v11 =>
           if decide (v11.2.2.2.2.2.1 = 0) = true then
            some
             (Sum.inr
              (Sum.inl
               ((), (v11.2.2.2.2.2.2.2.2.1.1, v11.2.2.2.2.2.2.2.2.1.2.1, v11.2.2.2.2.2.2.2.2.1.2.2.1, v11.2.2.2.2.2.2.2.2.1.2.2.2.1, ()), ())))
           else
            (M_strings_Builder_WriteRune F (((), v11.2.2.2.2.2.2.2.2.2.2.1, ()), v11.2.2.2.2.1)).bind fun v12 =>
             some
              (Sum.inl
               ((), v11.2.1, (), IntKind.i64.wrap (v11.2.2.2.1 + v11.2.2.2.2.2.1), (), v11.2.2.2.2.2.2.2.1,
                 (v11.2.2.2.2.2.2.2.2.1.1, v11.2.2.2.2.2.2.2.2.1.2.1, v11.2.2.2.2.2.2.2.2.1.2.2.1, v11.2.2.2.2.2.2.2.2.1.2.2.2.1, ()),
                 ((), (), ()), v12.2.2.1, ())))
          fun v13 => some (Sum.inr (Sum.inr ((), v13.2.1, (v13.2.2.1.1, v13.2.2.1.2.1, v13.2.2.1.2.2.1, v13.2.2.1.2.2.2.1, ()), ())))
     else some (Sum.inr (Sum.inl ((), (v2.2.2.2.2.2.2.1.1, v2.2.2.2.2.2.2.1.2.1, v2.2.2.2.2.2.2.1.2.2.1, v2.2.2.2.2.2.2.1.2.2.2.1, ()), ())))
noncomputable def M_json_reader_text (F : Nat) (x : ((List UInt8) × (Int) × (Int) × (Int) × Unit)) : Option ((List UInt8) × ((List UInt8) × (Int) × (Int) × (Int) × Unit)) :=
 ((sub x.1 (IntKind.i64.wrap (x.2.1 + 1)) (↑x.1.length : Int)).bind fun v0 => some ((), v0, (x.1, x.2.1, x.2.2.1, x.2.2.2.1, ()), ())).bind fun v1 =>
   (loopM (M_json_reader_text_l0 F)
         F ((), v1.2.1, (), 0, (), (v1.2.1, 0), (v1.2.2.1.1, v1.2.2.1.2.1, v1.2.2.1.2.2.1, v1.2.2.1.2.2.2.1, ()), ((), (), ()), [], ())).bind
     fun v14 =>
     sumC v14
       (fun v15 =>
         (M_json_reader_fail F ((v15.2.1.1, v15.2.1.2.1, v15.2.1.2.2.1, v15.2.1.2.2.2.1, ()), 3)).bind fun v16 =>
           some ([], v16.2.1, v16.2.2.1, v16.2.2.2.1, v16.2.2.2.2.1, ()))
       fun v17 => some (v17.2.1, v17.2.2.1.1, v17.2.2.1.2.1, v17.2.2.1.2.2.1, v17.2.2.1.2.2.2.1, ())
theorem t_json_reader_text (x : ((List UInt8) × (Int) × (Int) × (Int) × Unit)) (F : Nat) : fnRun TT Tryz.prog (e_json_reader_text F) s_json_reader_text (bodyOf 214) F x = M_json_reader_text F x := by kernel_rfl
theorem c_json_reader_text (F : Nat) : Ctr TT Tryz.prog 214 (conOf TT s_json_reader_text (M_json_reader_text F)) :=
 ctr_of (code := bodyOf 214) Tryz.func214 (by kernel_rfl) (by kernel_rfl) (by kernel_rfl) (by kernel_rfl) (envS_ok (envS_ok (envS_ok (envS_ok (envS_ok (envS_ok envN_ok (c_unicode_utf8_RuneLen F)) (c_strings_Builder_String F)) (c_json_escape F)) (c_strings_HasPrefix F)) (c_strings_Builder_WriteRune F)) (c_json_reader_fail F)) hm (by kernel_rfl) (fun x r h => ⟨F, (t_json_reader_text x F).trans h⟩)
noncomputable def s_json_reader_enter : Spec Kd := { params := [(.pin 191 [.str, (.int .i64), (.int .i64), (.int .i64)])], ret := (.tup []), pins := [[.str, (.int .i64), (.int .i64), (.int .i64)]], pl := { nt := 23, joins := [(300013, (.norm, ⟨[.tmp 0 (.a (.ptr 1 0)), .box 1 (.cells 191 [.str, (.int .i64), (.int .i64), (.int .i64)])], [], []⟩), [])] }, rfrz := [], ts := [] }
noncomputable def e_json_reader_enter (F : Nat) : Env El := (envS 161 (conOf TT s_json_reader_fail (M_json_reader_fail F)) envN)
noncomputable def M_json_reader_enter (F : Nat) (x : ((List UInt8) × (Int) × (Int) × (Int) × Unit)) : Option ((Unit) × ((List UInt8) × (Int) × (Int) × (Int) × Unit)) :=
 (if decide (8 < IntKind.i64.wrap (x.2.2.1 + 1)) = true then
    (M_json_reader_fail F ((x.1, x.2.1, IntKind.i64.wrap (x.2.2.1 + 1), x.2.2.2.1, ()), 10)).bind fun v0 =>
     some ((), (v0.2.1, v0.2.2.1, v0.2.2.2.1, v0.2.2.2.2.1, ()), ())
   else some ((), (x.1, x.2.1, IntKind.i64.wrap (x.2.2.1 + 1), x.2.2.2.1, ()), ())).bind
  fun v1 => some ((), v1.2.1.1, IntKind.i64.wrap (v1.2.1.2.1 + 1), v1.2.1.2.2.1, v1.2.1.2.2.2.1, ())
theorem t_json_reader_enter (x : ((List UInt8) × (Int) × (Int) × (Int) × Unit)) (F : Nat) : fnRun TT Tryz.prog (e_json_reader_enter F) s_json_reader_enter (bodyOf 251) F x = M_json_reader_enter F x := by kernel_rfl
theorem c_json_reader_enter (F : Nat) : Ctr TT Tryz.prog 251 (conOf TT s_json_reader_enter (M_json_reader_enter F)) :=
 ctr_of (code := bodyOf 251) Tryz.func251 (by kernel_rfl) (by kernel_rfl) (by kernel_rfl) (by kernel_rfl) (envS_ok envN_ok (c_json_reader_fail F)) hm (by kernel_rfl) (fun x r h => ⟨F, (t_json_reader_enter x F).trans h⟩)
noncomputable def s_json_reader_leave : Spec Kd := { params := [(.pin 191 [.str, (.int .i64), (.int .i64), (.int .i64)]), (.a (.int .u8))], ret := (.one (.a .bool)), pins := [[.str, (.int .i64), (.int .i64), (.int .i64)]], pl := { nt := 23 }, rfrz := [], ts := [4] }
noncomputable def e_json_reader_leave (F : Nat) : Env El := (envS 160 (conOf TT s_json_reader_peek (M_json_reader_peek F)) envN)
noncomputable def M_json_reader_leave (F : Nat) (x : ((List UInt8) × (Int) × (Int) × (Int) × Unit) × (Int)) : Option ((Bool) × ((List UInt8) × (Int) × (Int) × (Int) × Unit)) :=
 (M_json_reader_peek F (x.1.1, x.1.2.1, x.1.2.2.1, x.1.2.2.2.1, ())).bind fun v0 =>
  if (!decide (v0.1 = x.2)) = true then some (false, v0.2.1, v0.2.2.1, v0.2.2.2.1, v0.2.2.2.2.1, ())
  else some (true, v0.2.1, IntKind.i64.wrap (v0.2.2.1 + 1), IntKind.i64.wrap (v0.2.2.2.1 - 1), v0.2.2.2.2.1, ())
theorem t_json_reader_leave (x : ((List UInt8) × (Int) × (Int) × (Int) × Unit) × (Int)) (F : Nat) : fnRun TT Tryz.prog (e_json_reader_leave F) s_json_reader_leave (bodyOf 252) F x = M_json_reader_leave F x := by kernel_rfl
theorem c_json_reader_leave (F : Nat) : Ctr TT Tryz.prog 252 (conOf TT s_json_reader_leave (M_json_reader_leave F)) :=
 ctr_of (code := bodyOf 252) Tryz.func252 (by kernel_rfl) (by kernel_rfl) (by kernel_rfl) (by kernel_rfl) (envS_ok envN_ok (c_json_reader_peek F)) hm (by kernel_rfl) (fun x r h => ⟨F, (t_json_reader_leave x F).trans h⟩)
noncomputable def s_json_reader_comma : Spec Kd := { params := [(.pin 191 [.str, (.int .i64), (.int .i64), (.int .i64)]), (.a (.int .u8))], ret := (.one (.a .bool)), pins := [[.str, (.int .i64), (.int .i64), (.int .i64)]], pl := { nt := 21, joins := [(600018, (.norm, ⟨[.tmp 0 (.a (.ptr 1 0)), .box 1 (.cells 191 [.str, (.int .i64), (.int .i64), (.int .i64)])], [], []⟩), [])] }, rfrz := [], ts := [4] }
noncomputable def e_json_reader_comma (F : Nat) : Env El := (envS 161 (conOf TT s_json_reader_fail (M_json_reader_fail F)) (envS 252 (conOf TT s_json_reader_leave (M_json_reader_leave F)) (envS 160 (conOf TT s_json_reader_peek (M_json_reader_peek F)) envN)))
noncomputable def M_json_reader_comma (F : Nat) (x : ((List UInt8) × (Int) × (Int) × (Int) × Unit) × (Int)) : Option ((Bool) × ((List UInt8) × (Int) × (Int) × (Int) × Unit)) :=
 (M_json_reader_peek F (x.1.1, x.1.2.1, x.1.2.2.1, x.1.2.2.2.1, ())).bind fun v0 =>
  if decide (v0.1 = 44) = true then some (true, v0.2.1, IntKind.i64.wrap (v0.2.2.1 + 1), v0.2.2.2.1, v0.2.2.2.2.1, ())
  else
   (M_json_reader_leave F ((v0.2.1, v0.2.2.1, v0.2.2.2.1, v0.2.2.2.2.1, ()), x.2)).bind fun v1 =>
    (if (!v1.1) = true then
       (M_json_reader_fail F ((v1.2.1, v1.2.2.1, v1.2.2.2.1, v1.2.2.2.2.1, ()), 3)).bind fun v2 =>
        some ((), (v2.2.1, v2.2.2.1, v2.2.2.2.1, v2.2.2.2.2.1, ()), ())
      else some ((), (v1.2.1, v1.2.2.1, v1.2.2.2.1, v1.2.2.2.2.1, ()), ())).bind
     fun v3 => some (false, v3.2.1.1, v3.2.1.2.1, v3.2.1.2.2.1, v3.2.1.2.2.2.1, ())
theorem t_json_reader_comma (x : ((List UInt8) × (Int) × (Int) × (Int) × Unit) × (Int)) (F : Nat) : fnRun TT Tryz.prog (e_json_reader_comma F) s_json_reader_comma (bodyOf 253) F x = M_json_reader_comma F x := by kernel_rfl
theorem c_json_reader_comma (F : Nat) : Ctr TT Tryz.prog 253 (conOf TT s_json_reader_comma (M_json_reader_comma F)) :=
 ctr_of (code := bodyOf 253) Tryz.func253 (by kernel_rfl) (by kernel_rfl) (by kernel_rfl) (by kernel_rfl) (envS_ok (envS_ok (envS_ok envN_ok (c_json_reader_peek F)) (c_json_reader_leave F)) (c_json_reader_fail F)) hm (by kernel_rfl) (fun x r h => ⟨F, (t_json_reader_comma x F).trans h⟩)
end Go.Vm
