/- Models of functions of the program, and that each keeps its contract: for all arguments of its shape. No condition. -/
import Derived.Test.YtocgjbdimjlfhaaGreatDoorKt
import Derived.Test.YtocgjbdimjlfhaaGreatDoorFref4
namespace Go.Vm
open Go.Proofs
set_option linter.unusedVariables false
noncomputable def s_conciergeref04_Bytes : Spec Kd := { params := [(.a (.int .i64))], ret := (.one (.a .str)), pins := [], pl := { nt := 58, cuts := [(7, [(21, ⟨[.tmp 2 (.a .str)], [], []⟩)]), (6, [(16, ⟨[.tmp 2 (.a .str)], [], []⟩)]), (4, [(11, ⟨[.tmp 2 (.a .str)], [], []⟩)])] }, rfrz := [], ts := [2] }
noncomputable def e_conciergeref04_Bytes (F : Nat) : Env El := envN
noncomputable def M_conciergeref04_Bytes (F : Nat) (x : (Int)) : Option (List UInt8) :=
 if decide (x < 128) = true then some [UInt8.ofNat (IntKind.u8.wrap x).toNat]
 else
  if decide (x < 2048) = true then
   some
    [UInt8.ofNat (IntKind.u8.wrap (IntKind.i64.wrap (192 + IntKind.i64.wrap (x.tdiv 64)))).toNat,
     UInt8.ofNat (IntKind.u8.wrap (IntKind.i64.wrap (128 + x.tmod 64))).toNat]
  else
   if decide (x < 65536) = true then
    some
     [UInt8.ofNat (IntKind.u8.wrap (IntKind.i64.wrap (224 + IntKind.i64.wrap (x.tdiv 4096)))).toNat,
      UInt8.ofNat (IntKind.u8.wrap (IntKind.i64.wrap (128 + (IntKind.i64.wrap (x.tdiv 64)).tmod 64))).toNat,
      UInt8.ofNat (IntKind.u8.wrap (IntKind.i64.wrap (128 + x.tmod 64))).toNat]
   else
    some
     [UInt8.ofNat (IntKind.u8.wrap (IntKind.i64.wrap (240 + IntKind.i64.wrap (x.tdiv 262144)))).toNat,
      UInt8.ofNat (IntKind.u8.wrap (IntKind.i64.wrap (128 + (IntKind.i64.wrap (x.tdiv 4096)).tmod 64))).toNat,
      UInt8.ofNat (IntKind.u8.wrap (IntKind.i64.wrap (128 + (IntKind.i64.wrap (x.tdiv 64)).tmod 64))).toNat,
      UInt8.ofNat (IntKind.u8.wrap (IntKind.i64.wrap (128 + x.tmod 64))).toNat]
theorem t_conciergeref04_Bytes (x : (Int)) (F : Nat) : fnRun TT Tryz.prog (e_conciergeref04_Bytes F) s_conciergeref04_Bytes (bodyOf 98) F x = M_conciergeref04_Bytes F x := by kernel_rfl
theorem c_conciergeref04_Bytes (F : Nat) : Ctr TT Tryz.prog 98 (conOf TT s_conciergeref04_Bytes (M_conciergeref04_Bytes F)) :=
 ctr_of (code := bodyOf 98) Tryz.func98 (by kernel_rfl) (by kernel_rfl) (by kernel_rfl) (by kernel_rfl) envN_ok hm (by kernel_rfl) (fun x r h => ⟨F, (t_conciergeref04_Bytes x F).trans h⟩)
noncomputable def s_conciergeref09_Read_bad : Spec Kd := { params := [(.pin 144 [.str, (.int .i64), (.int .i64), (.int .i64)]), (.a (.int .i64))], ret := (.tup []), pins := [[.str, (.int .i64), (.int .i64), (.int .i64)]], pl := { nt := 13 }, rfrz := [], ts := [] }
noncomputable def e_conciergeref09_Read_bad (F : Nat) : Env El := envN
noncomputable def M_conciergeref09_Read_bad (F : Nat) (x : ((List UInt8) × (Int) × (Int) × (Int) × Unit) × (Int)) : Option ((Unit) × ((List UInt8) × (Int) × (Int) × (Int) × Unit)) :=
 if decide (x.1.2.2.2.1 = 0) = true then some ((), x.1.1, x.1.2.1, x.1.2.2.1, x.2, ()) else some ((), x.1.1, x.1.2.1, x.1.2.2.1, x.1.2.2.2.1, ())
theorem t_conciergeref09_Read_bad (x : ((List UInt8) × (Int) × (Int) × (Int) × Unit) × (Int)) (F : Nat) : fnRun TT Tryz.prog (e_conciergeref09_Read_bad F) s_conciergeref09_Read_bad (bodyOf 120) F x = M_conciergeref09_Read_bad F x := by kernel_rfl
theorem c_conciergeref09_Read_bad (F : Nat) : Ctr TT Tryz.prog 120 (conOf TT s_conciergeref09_Read_bad (M_conciergeref09_Read_bad F)) :=
 ctr_of (code := bodyOf 120) Tryz.func120 (by kernel_rfl) (by kernel_rfl) (by kernel_rfl) (by kernel_rfl) envN_ok hm (by kernel_rfl) (fun x r h => ⟨F, (t_conciergeref09_Read_bad x F).trans h⟩)
noncomputable def s_conciergeref09_Read_blanks : Spec Kd := { params := [(.pin 144 [.str, (.int .i64), (.int .i64), (.int .i64)])], ret := (.tup []), pins := [[.str, (.int .i64), (.int .i64), (.int .i64)]], pl := { nt := 67, loops := [(0, ⟨[.tmp 0 (.a (.ptr 1 0)), .box 1 (.cells 144 [.str, (.int .i64), (.int .i64), (.int .i64)])], [], []⟩, (.exit 0, ⟨[.tmp 0 (.a (.ptr 1 0)), .box 1 (.cells 144 [.str, (.int .i64), (.int .i64), (.int .i64)])], [], []⟩), [])], ends := [(0, ⟨[.tmp 0 (.a (.ptr 1 0)), .tmp 59 (.a .bool), .box 1 (.cells 144 [.str, (.int .i64), (.int .i64), (.int .i64)])], [], []⟩)] }, rfrz := [], ts := [] }
noncomputable def e_conciergeref09_Read_blanks (F : Nat) : Env El := envN
noncomputable def M_conciergeref09_Read_blanks_l0 (F : Nat) (v0 : (Unit × (List UInt8 × Int × Int × Int × Unit) × Unit)) : Option ((Unit × (List UInt8 × Int × Int × Int × Unit) × Unit) ⊕ (Unit × (List UInt8 × Int × Int × Int × Unit) × Unit)) :=
 (if decide (v0.2.1.2.1 < (↑v0.2.1.1.length : Int)) = true then
             (idx v0.2.1.1 v0.2.1.2.1).bind fun v1 =>
               if decide ((↑v1.toNat : Int) = 32) = false then
                 (idx v0.2.1.1 v0.2.1.2.1).bind fun v2 =>
                   if decide ((↑v2.toNat : Int) = 9) = false then
                     (idx v0.2.1.1 v0.2.1.2.1).bind fun v3 =>
                       if decide ((↑v3.toNat : Int) = 10) = false then
                         (idx v0.2.1.1 v0.2.1.2.1).bind fun v4 =>
                           some ((), decide ((↑v4.toNat : Int) = 13), (v0.2.1.1, v0.2.1.2.1, v0.2.1.2.2.1, v0.2.1.2.2.2.1, ()), ())
                       else some ((), true, (v0.2.1.1, v0.2.1.2.1, v0.2.1.2.2.1, v0.2.1.2.2.2.1, ()), ())
                   else some ((), true, (v0.2.1.1, v0.2.1.2.1, v0.2.1.2.2.1, v0.2.1.2.2.2.1, ()), ())
               else some ((), true, (v0.2.1.1, v0.2.1.2.1, v0.2.1.2.2.1, v0.2.1.2.2.2.1, ()), ())
      else some ((), false, (v0.2.1.1, v0.2.1.2.1, v0.2.1.2.2.1, v0.2.1.2.2.2.1, ()), ())).bind
     fun v5 =>
     if v5.2.1 = true then some (Sum.inl ((), (v5.2.2.1.1, IntKind.i64.wrap (v5.2.2.1.2.1 + 1), v5.2.2.1.2.2.1, v5.2.2.1.2.2.2.1, ()), ()))
     else some (Sum.inr ((), (v5.2.2.1.1, v5.2.2.1.2.1, v5.2.2.1.2.2.1, v5.2.2.1.2.2.2.1, ()), ()))
noncomputable def M_conciergeref09_Read_blanks (F : Nat) (x : ((List UInt8) × (Int) × (Int) × (Int) × Unit)) : Option ((Unit) × ((List UInt8) × (Int) × (Int) × (Int) × Unit)) :=
 (loopM (M_conciergeref09_Read_blanks_l0 F)
    F ((), (x.1, x.2.1, x.2.2.1, x.2.2.2.1, ()), ())).bind
  fun v6 => some ((), v6.2.1.1, v6.2.1.2.1, v6.2.1.2.2.1, v6.2.1.2.2.2.1, ())
theorem t_conciergeref09_Read_blanks (x : ((List UInt8) × (Int) × (Int) × (Int) × Unit)) (F : Nat) : fnRun TT Tryz.prog (e_conciergeref09_Read_blanks F) s_conciergeref09_Read_blanks (bodyOf 119) F x = M_conciergeref09_Read_blanks F x := by kernel_rfl
theorem c_conciergeref09_Read_blanks (F : Nat) : Ctr TT Tryz.prog 119 (conOf TT s_conciergeref09_Read_blanks (M_conciergeref09_Read_blanks F)) :=
 ctr_of (code := bodyOf 119) Tryz.func119 (by kernel_rfl) (by kernel_rfl) (by kernel_rfl) (by kernel_rfl) envN_ok hm (by kernel_rfl) (fun x r h => ⟨F, (t_conciergeref09_Read_blanks x F).trans h⟩)
noncomputable def s_conciergeref09_Read_is : Spec Kd := { params := [(.pin 144 [.str, (.int .i64), (.int .i64), (.int .i64)]), (.a (.int .u8))], ret := (.one (.a .bool)), pins := [[.str, (.int .i64), (.int .i64), (.int .i64)]], pl := { nt := 35, ends := [(1, ⟨[.tmp 0 (.a (.ptr 1 0)), .tmp 4 (.a .bool), .box 1 (.cells 144 [.str, (.int .i64), (.int .i64), (.int .i64)])], [], []⟩)] }, rfrz := [], ts := [4] }
noncomputable def e_conciergeref09_Read_is (F : Nat) : Env El := envN
noncomputable def M_conciergeref09_Read_is (F : Nat) (x : ((List UInt8) × (Int) × (Int) × (Int) × Unit) × (Int)) : Option ((Bool) × ((List UInt8) × (Int) × (Int) × (Int) × Unit)) :=
 (if decide (x.1.2.2.2.1 = 0) = true then
    if decide (x.1.2.1 < (↑x.1.1.length : Int)) = true then
     (idx x.1.1 x.1.2.1).bind fun v0 => some ((), decide ((↑v0.toNat : Int) = x.2), (x.1.1, x.1.2.1, x.1.2.2.1, x.1.2.2.2.1, ()), ())
    else some ((), false, (x.1.1, x.1.2.1, x.1.2.2.1, x.1.2.2.2.1, ()), ())
   else some ((), false, (x.1.1, x.1.2.1, x.1.2.2.1, x.1.2.2.2.1, ()), ())).bind
  fun v1 => some (v1.2.1, v1.2.2.1.1, v1.2.2.1.2.1, v1.2.2.1.2.2.1, v1.2.2.1.2.2.2.1, ())
theorem t_conciergeref09_Read_is (x : ((List UInt8) × (Int) × (Int) × (Int) × Unit) × (Int)) (F : Nat) : fnRun TT Tryz.prog (e_conciergeref09_Read_is F) s_conciergeref09_Read_is (bodyOf 160) F x = M_conciergeref09_Read_is F x := by kernel_rfl
theorem c_conciergeref09_Read_is (F : Nat) : Ctr TT Tryz.prog 160 (conOf TT s_conciergeref09_Read_is (M_conciergeref09_Read_is F)) :=
 ctr_of (code := bodyOf 160) Tryz.func160 (by kernel_rfl) (by kernel_rfl) (by kernel_rfl) (by kernel_rfl) envN_ok hm (by kernel_rfl) (fun x r h => ⟨F, (t_conciergeref09_Read_is x F).trans h⟩)
noncomputable def s_conciergeref09_Read_word : Spec Kd := { params := [(.pin 144 [.str, (.int .i64), (.int .i64), (.int .i64)]), (.a .str)], ret := (.one (.a .bool)), pins := [[.str, (.int .i64), (.int .i64), (.int .i64)]], pl := { nt := 48, cuts := [(3, [(11, ⟨[.tmp 0 (.a (.ptr 1 0)), .box 1 (.cells 144 [.str, (.int .i64), (.int .i64), (.int .i64)])], [], []⟩)])], ends := [(1, ⟨[.tmp 0 (.a (.ptr 1 0)), .tmp 1 (.a .str), .tmp 37 (.a .bool), .box 1 (.cells 144 [.str, (.int .i64), (.int .i64), (.int .i64)])], [], []⟩)] }, rfrz := [], ts := [4] }
noncomputable def e_conciergeref09_Read_word (F : Nat) : Env El := envN
noncomputable def M_conciergeref09_Read_word (F : Nat) (x : ((List UInt8) × (Int) × (Int) × (Int) × Unit) × (List UInt8)) : Option ((Bool) × ((List UInt8) × (Int) × (Int) × (Int) × Unit)) :=
 (if decide (IntKind.i64.wrap ((↑x.1.1.length : Int) - x.1.2.1) < (↑x.2.length : Int)) = false then
    (sub x.1.1 x.1.2.1 (IntKind.i64.wrap (x.1.2.1 + (↑x.2.length : Int)))).bind fun v0 =>
     some ((), x.2, !decide (v0 = x.2), (x.1.1, x.1.2.1, x.1.2.2.1, x.1.2.2.2.1, ()), ())
   else some ((), x.2, true, (x.1.1, x.1.2.1, x.1.2.2.1, x.1.2.2.2.1, ()), ())).bind
  fun v1 =>
  if v1.2.2.1 = true then some (false, v1.2.2.2.1.1, v1.2.2.2.1.2.1, v1.2.2.2.1.2.2.1, v1.2.2.2.1.2.2.2.1, ())
  else some (true, v1.2.2.2.1.1, IntKind.i64.wrap (v1.2.2.2.1.2.1 + (↑v1.2.1.length : Int)), v1.2.2.2.1.2.2.1, v1.2.2.2.1.2.2.2.1, ())
theorem t_conciergeref09_Read_word (x : ((List UInt8) × (Int) × (Int) × (Int) × Unit) × (List UInt8)) (F : Nat) : fnRun TT Tryz.prog (e_conciergeref09_Read_word F) s_conciergeref09_Read_word (bodyOf 164) F x = M_conciergeref09_Read_word F x := by kernel_rfl
theorem c_conciergeref09_Read_word (F : Nat) : Ctr TT Tryz.prog 164 (conOf TT s_conciergeref09_Read_word (M_conciergeref09_Read_word F)) :=
 ctr_of (code := bodyOf 164) Tryz.func164 (by kernel_rfl) (by kernel_rfl) (by kernel_rfl) (by kernel_rfl) envN_ok hm (by kernel_rfl) (fun x r h => ⟨F, (t_conciergeref09_Read_word x F).trans h⟩)
noncomputable def s_conciergeref09_Hex : Spec Kd := { params := [(.a .str), (.a (.int .i64))], ret := (.one (.a (.int .i64))), pins := [], pl := { nt := 62, bjoins := [(1, (.norm, ⟨[.tmp 0 (.a .str), .tmp 1 (.a (.int .i64)), .tmp 5 (.a (.int .i64)), .tmp 6 (.a (.int .i64))], [], []⟩), [(.ret, ⟨[.tmp 4 (.a (.int .i64))], [], []⟩)])], loops := [(0, ⟨[.tmp 0 (.a .str), .tmp 1 (.a (.int .i64)), .tmp 5 (.a (.int .i64)), .tmp 6 (.a (.int .i64))], [], []⟩, (.exit 0, ⟨[.tmp 5 (.a (.int .i64))], [], []⟩), [(.ret, ⟨[.tmp 4 (.a (.int .i64))], [], []⟩)])], cuts := [(12, [(6, ⟨[.tmp 0 (.a .str), .tmp 1 (.a (.int .i64)), .tmp 5 (.a (.int .i64)), .tmp 6 (.a (.int .i64)), .tmp 7 (.a (.int .u8)), .tmp 53 (.a .bool)], [], []⟩)]), (10, [(6, ⟨[.tmp 0 (.a .str), .tmp 1 (.a (.int .i64)), .tmp 5 (.a (.int .i64)), .tmp 6 (.a (.int .i64)), .tmp 7 (.a (.int .u8)), .tmp 40 (.a .bool)], [], []⟩)]), (8, [(6, ⟨[.tmp 0 (.a .str), .tmp 1 (.a (.int .i64)), .tmp 5 (.a (.int .i64)), .tmp 6 (.a (.int .i64)), .tmp 7 (.a (.int .u8)), .tmp 28 (.a .bool)], [], []⟩)])] }, rfrz := [], ts := [4] }
noncomputable def e_conciergeref09_Hex (F : Nat) : Env El := envN
noncomputable def M_conciergeref09_Hex_l0 (F : Nat) (v0 : (List UInt8 × Int × Int × Int × Unit)) : Option ((List UInt8 × Int × Int × Int × Unit) ⊕ (Int × Unit ⊕ Int × Unit)) :=
 if decide (v0.2.2.2.1 < IntKind.i64.wrap (v0.2.1 + 4)) = true then
      ((idx v0.1 v0.2.2.2.1).bind fun v1 =>
         (if decide (48 ≤ (↑v1.toNat : Int)) = true then
            some (v0.1, v0.2.1, v0.2.2.1, v0.2.2.2.1, (↑v1.toNat : Int), decide ((↑v1.toNat : Int) ≤ 57), ())
           else some (v0.1, v0.2.1, v0.2.2.1, v0.2.2.2.1, (↑v1.toNat : Int), false, ())).bind
          fun v2 =>
          if v2.2.2.2.2.2.1 = true then
           some
            (Sum.inl
             (v2.1, v2.2.1, IntKind.i64.wrap (IntKind.i64.wrap (IntKind.i64.wrap (v2.2.2.1 * 16) + IntKind.i64.wrap v2.2.2.2.2.1) - 48),
              v2.2.2.2.1, ()))
          else
           (if decide (97 ≤ v2.2.2.2.2.1) = true then some (v2.1, v2.2.1, v2.2.2.1, v2.2.2.2.1, v2.2.2.2.2.1, decide (v2.2.2.2.2.1 ≤ 102), ())
             else some (v2.1, v2.2.1, v2.2.2.1, v2.2.2.2.1, v2.2.2.2.2.1, false, ())).bind
            fun v3 =>
            if v3.2.2.2.2.2.1 = true then
             some
              (Sum.inl
               (v3.1, v3.2.1,
                IntKind.i64.wrap
                 (IntKind.i64.wrap (IntKind.i64.wrap (IntKind.i64.wrap (v3.2.2.1 * 16) + IntKind.i64.wrap v3.2.2.2.2.1) - 97) + 10),
                v3.2.2.2.1, ()))
            else
             (if decide (65 ≤ v3.2.2.2.2.1) = true then some (v3.1, v3.2.1, v3.2.2.1, v3.2.2.2.1, v3.2.2.2.2.1, decide (v3.2.2.2.2.1 ≤ 70), ())
               else some (v3.1, v3.2.1, v3.2.2.1, v3.2.2.2.1, v3.2.2.2.2.1, false, ())).bind
              fun v4 =>
              if v4.2.2.2.2.2.1 = true then
               some
                (Sum.inl
                 (v4.1, v4.2.1,
                  IntKind.i64.wrap
                   (IntKind.i64.wrap (IntKind.i64.wrap (IntKind.i64.wrap (v4.2.2.1 * 16) + IntKind.i64.wrap v4.2.2.2.2.1) - 65) + 10),
                  v4.2.2.2.1, ()))
              else some (Sum.inr (-1, ()))).bind
       fun v5 =>
       sumC v5 (fun v6 => some (Sum.inl (v6.1, v6.2.1, v6.2.2.1, IntKind.i64.wrap (v6.2.2.2.1 + 1), ()))) fun v7 => some (Sum.inr (Sum.inr (v7.1, ())))
     else some (Sum.inr (Sum.inl (v0.2.2.1, ())))
noncomputable def M_conciergeref09_Hex (F : Nat) (x : (List UInt8) × (Int)) : Option (Int) :=
 if decide ((↑x.1.length : Int) < IntKind.i64.wrap (x.2 + 4)) = true then some (-1)
 else
  (loopM (M_conciergeref09_Hex_l0 F)
     F (x.1, x.2, 0, x.2, ())).bind
   fun v8 => sumC v8 (fun v9 => some v9.1) fun v10 => some v10.1
theorem t_conciergeref09_Hex (x : (List UInt8) × (Int)) (F : Nat) : fnRun TT Tryz.prog (e_conciergeref09_Hex F) s_conciergeref09_Hex (bodyOf 226) F x = M_conciergeref09_Hex F x := by kernel_rfl
theorem c_conciergeref09_Hex (F : Nat) : Ctr TT Tryz.prog 226 (conOf TT s_conciergeref09_Hex (M_conciergeref09_Hex F)) :=
 ctr_of (code := bodyOf 226) Tryz.func226 (by kernel_rfl) (by kernel_rfl) (by kernel_rfl) (by kernel_rfl) envN_ok hm (by kernel_rfl) (fun x r h => ⟨F, (t_conciergeref09_Hex x F).trans h⟩)
noncomputable def s_conciergeref09_Read_escape : Spec Kd := { params := [(.pin 144 [.str, (.int .i64), (.int .i64), (.int .i64)])], ret := (.one (.a .str)), pins := [[.str, (.int .i64), (.int .i64), (.int .i64)]], pl := { nt := 120, joins := [(2100093, (.norm, ⟨[.tmp 0 (.a (.ptr 1 0)), .box 1 (.cells 144 [.str, (.int .i64), (.int .i64), (.int .i64)])], [], []⟩), [(.ret, ⟨[.tmp 0 (.a (.ptr 1 0)), .tmp 2 (.a .str), .box 1 (.cells 144 [.str, (.int .i64), (.int .i64), (.int .i64)])], [], []⟩)]), (1600050, (.norm, ⟨[.tmp 0 (.a (.ptr 1 0)), .tmp 3 (.a .str), .tmp 7 (.a (.int .i64)), .box 1 (.cells 144 [.str, (.int .i64), (.int .i64), (.int .i64)])], [], []⟩), [])], loops := [(0, ⟨[.tmp 0 (.a (.ptr 1 0)), .tmp 3 (.a .str), .tmp 4 (.a .str), .tmp 5 (.a .str), .tmp 6 (.a (.int .i64)), .box 1 (.cells 144 [.str, (.int .i64), (.int .i64), (.int .i64)])], [], []⟩, (.exit 0, ⟨[.tmp 0 (.a (.ptr 1 0)), .tmp 3 (.a .str), .box 1 (.cells 144 [.str, (.int .i64), (.int .i64), (.int .i64)])], [], []⟩), [(.ret, ⟨[.tmp 0 (.a (.ptr 1 0)), .tmp 2 (.a .str), .box 1 (.cells 144 [.str, (.int .i64), (.int .i64), (.int .i64)])], [], []⟩)])], cuts := [(21, [(6, ⟨[.tmp 0 (.a (.ptr 1 0)), .tmp 7 (.a (.int .i64)), .tmp 8 (.a (.int .i64)), .tmp 101 (.a .bool), .box 1 (.cells 144 [.str, (.int .i64), (.int .i64), (.int .i64)])], [], []⟩)]), (19, [(6, ⟨[.tmp 0 (.a (.ptr 1 0)), .tmp 3 (.a .str), .tmp 7 (.a (.int .i64)), .tmp 78 (.a .bool), .box 1 (.cells 144 [.str, (.int .i64), (.int .i64), (.int .i64)])], [], []⟩), (5, ⟨[.tmp 0 (.a (.ptr 1 0)), .tmp 3 (.a .str), .tmp 7 (.a (.int .i64)), .tmp 83 (.a .bool), .box 1 (.cells 144 [.str, (.int .i64), (.int .i64), (.int .i64)])], [], []⟩), (5, ⟨[.tmp 0 (.a (.ptr 1 0)), .tmp 3 (.a .str), .tmp 7 (.a (.int .i64)), .tmp 88 (.a .bool), .box 1 (.cells 144 [.str, (.int .i64), (.int .i64), (.int .i64)])], [], []⟩), (5, ⟨[.tmp 0 (.a (.ptr 1 0)), .tmp 3 (.a .str), .tmp 7 (.a (.int .i64)), .tmp 93 (.a .bool), .box 1 (.cells 144 [.str, (.int .i64), (.int .i64), (.int .i64)])], [], []⟩)]), (16, [(10, ⟨[.tmp 0 (.a (.ptr 1 0)), .tmp 3 (.a .str), .tmp 7 (.a (.int .i64)), .tmp 62 (.a .bool), .box 1 (.cells 144 [.str, (.int .i64), (.int .i64), (.int .i64)])], [], []⟩)])], ends := [(1, ⟨[.tmp 0 (.a (.ptr 1 0)), .tmp 3 (.a .str), .box 1 (.cells 144 [.str, (.int .i64), (.int .i64), (.int .i64)])], [], []⟩)] }, rfrz := [], ts := [2] }
noncomputable def e_conciergeref09_Read_escape (F : Nat) : Env El := (envS 98 (conOf TT s_conciergeref04_Bytes (M_conciergeref04_Bytes F)) (envS 226 (conOf TT s_conciergeref09_Hex (M_conciergeref09_Hex F)) (envS 120 (conOf TT s_conciergeref09_Read_bad (M_conciergeref09_Read_bad F)) envN)))
noncomputable def M_conciergeref09_Read_escape_l0 (F : Nat) (v3 : (Unit × List UInt8 × List UInt8 × List UInt8 × Int × (List UInt8 × Int × Int × Int × Unit) × Unit)) : Option ((Unit × List UInt8 × List UInt8 × List UInt8 × Int × (List UInt8 × Int × Int × Int × Unit) × Unit) ⊕ (Unit × List UInt8 × (List UInt8 × Int × Int × Int × Unit) × Unit ⊕ Unit × List UInt8 × (List UInt8 × Int × Int × Int × Unit) × Unit)) :=
 if decide (v3.2.2.2.2.1 < (↑v3.2.2.1.length : Int)) = true then
       (idx v3.2.1 1).bind fun v4 =>
        (idx v3.2.2.1 v3.2.2.2.2.1).bind fun v5 =>
         if decide ((↑v4.toNat : Int) = (↑v5.toNat : Int)) = true then
          (sub v3.2.2.2.1 v3.2.2.2.2.1 (IntKind.i64.wrap (v3.2.2.2.2.1 + 1))).bind fun v6 =>
           some
            (Sum.inr
             (Sum.inr
              ((), v6, (v3.2.2.2.2.2.1.1, IntKind.i64.wrap (v3.2.2.2.2.2.1.2.1 + 2), v3.2.2.2.2.2.1.2.2.1, v3.2.2.2.2.2.1.2.2.2.1, ()), ())))
         else
          some
           (Sum.inl
            ((), v3.2.1, v3.2.2.1, v3.2.2.2.1, IntKind.i64.wrap (v3.2.2.2.2.1 + 1),
              (v3.2.2.2.2.2.1.1, v3.2.2.2.2.2.1.2.1, v3.2.2.2.2.2.1.2.2.1, v3.2.2.2.2.2.1.2.2.2.1, ()), ()))
      else some (Sum.inr (Sum.inl ((), v3.2.1, (v3.2.2.2.2.2.1.1, v3.2.2.2.2.2.1.2.1, v3.2.2.2.2.2.1.2.2.1, v3.2.2.2.2.2.1.2.2.2.1, ()), ())))
noncomputable def M_conciergeref09_Read_escape (F : Nat) (x : ((List UInt8) × (Int) × (Int) × (Int) × Unit)) : Option ((List UInt8) × ((List UInt8) × (Int) × (Int) × (Int) × Unit)) :=
 ((sub x.1 x.2.1 (↑x.1.length : Int)).bind fun v0 => some ((), v0, (x.1, x.2.1, x.2.2.1, x.2.2.2.1, ()), ())).bind fun v1 =>
   if decide ((↑v1.2.1.length : Int) < 2) = true then
     (M_conciergeref09_Read_bad F ((v1.2.2.1.1, v1.2.2.1.2.1, v1.2.2.1.2.2.1, v1.2.2.1.2.2.2.1, ()), 3)).bind fun v2 =>
       some ([], v2.2.1, v2.2.2.1, v2.2.2.2.1, v2.2.2.2.2.1, ())
   else
     (loopM (M_conciergeref09_Read_escape_l0 F)
           F
           ((), v1.2.1, [34, 92, 47, 98, 102, 110, 114, 116], [34, 92, 47, 8, 12, 10, 13, 9], 0,
             (v1.2.2.1.1, v1.2.2.1.2.1, v1.2.2.1.2.2.1, v1.2.2.1.2.2.2.1, ()), ())).bind
       fun v7 =>
       sumC v7
         (fun v8 =>
           (idx v8.2.1 1).bind fun v9 =>
             (if decide ((↑v9.toNat : Int) = 117) = true then
                   (M_conciergeref09_Hex F (v8.2.1, 2)).bind fun v10 =>
                     some ((), v8.2.1, v10, (v8.2.2.1.1, v8.2.2.1.2.1, v8.2.2.1.2.2.1, v8.2.2.1.2.2.2.1, ()), ())
                 else some ((), v8.2.1, -1, (v8.2.2.1.1, v8.2.2.1.2.1, v8.2.2.1.2.2.1, v8.2.2.1.2.2.2.1, ()), ())).bind
               fun v11 =>
               (if decide (0 ≤ v11.2.2.1) = true then
                     if decide (v11.2.2.1 < 55296) = false then
                       some
                         ((), v11.2.1, v11.2.2.1, decide (57343 < v11.2.2.1), (v11.2.2.2.1.1, v11.2.2.2.1.2.1, v11.2.2.2.1.2.2.1, v11.2.2.2.1.2.2.2.1, ()), ())
                     else some ((), v11.2.1, v11.2.2.1, true, (v11.2.2.2.1.1, v11.2.2.2.1.2.1, v11.2.2.2.1.2.2.1, v11.2.2.2.1.2.2.2.1, ()), ())
                   else some ((), v11.2.1, v11.2.2.1, false, (v11.2.2.2.1.1, v11.2.2.2.1.2.1, v11.2.2.2.1.2.2.1, v11.2.2.2.1.2.2.2.1, ()), ())).bind
                 fun v12 =>
                 if v12.2.2.2.1 = true then
                   (M_conciergeref04_Bytes F v12.2.2.1).bind fun v13 =>
                     some (v13, v12.2.2.2.2.1.1, IntKind.i64.wrap (v12.2.2.2.2.1.2.1 + 6), v12.2.2.2.2.1.2.2.1, v12.2.2.2.2.1.2.2.2.1, ())
                 else
                   (if decide (55296 ≤ v12.2.2.1) = true then
                         some
                           ((), v12.2.1, v12.2.2.1, decide (v12.2.2.1 < 56320),
                             (v12.2.2.2.2.1.1, v12.2.2.2.2.1.2.1, v12.2.2.2.2.1.2.2.1, v12.2.2.2.2.1.2.2.2.1, ()), ())
                       else some ((), v12.2.1, v12.2.2.1, false, (v12.2.2.2.2.1.1, v12.2.2.2.2.1.2.1, v12.2.2.2.2.1.2.2.1, v12.2.2.2.2.1.2.2.2.1, ()), ())).bind
                     fun v14 =>
                     (if v14.2.2.2.1 = true then
                           some
                             ((), v14.2.1, v14.2.2.1, decide (8 ≤ (↑v14.2.1.length : Int)),
                               (v14.2.2.2.2.1.1, v14.2.2.2.2.1.2.1, v14.2.2.2.2.1.2.2.1, v14.2.2.2.2.1.2.2.2.1, ()), ())
                         else
                           some ((), v14.2.1, v14.2.2.1, false, (v14.2.2.2.2.1.1, v14.2.2.2.2.1.2.1, v14.2.2.2.2.1.2.2.1, v14.2.2.2.2.1.2.2.2.1, ()), ())).bind
                       fun v15 =>
                       (if v15.2.2.2.1 = true then
                             (idx v15.2.1 6).bind fun v16 =>
                               some
                                 ((), v15.2.1, v15.2.2.1, decide ((↑v16.toNat : Int) = 92),
                                   (v15.2.2.2.2.1.1, v15.2.2.2.2.1.2.1, v15.2.2.2.2.1.2.2.1, v15.2.2.2.2.1.2.2.2.1, ()), ())
                           else
                             some ((), v15.2.1, v15.2.2.1, false, (v15.2.2.2.2.1.1, v15.2.2.2.2.1.2.1, v15.2.2.2.2.1.2.2.1, v15.2.2.2.2.1.2.2.2.1, ()), ())).bind
                         fun v17 =>
                         (if v17.2.2.2.1 = true then
                               (idx v17.2.1 7).bind fun v18 =>
                                 some
                                   ((), v17.2.1, v17.2.2.1, decide ((↑v18.toNat : Int) = 117),
                                     (v17.2.2.2.2.1.1, v17.2.2.2.2.1.2.1, v17.2.2.2.2.1.2.2.1, v17.2.2.2.2.1.2.2.2.1, ()), ())
                             else
                               some
                                 ((), v17.2.1, v17.2.2.1, false, (v17.2.2.2.2.1.1, v17.2.2.2.2.1.2.1, v17.2.2.2.2.1.2.2.1, v17.2.2.2.2.1.2.2.2.1, ()), ())).bind
                           fun v19 =>
                           (if v19.2.2.2.1 = true then
                                 (M_conciergeref09_Hex F (v19.2.1, 8)).bind fun v20 =>
                                   (if decide (56320 ≤ v20) = true then
                                         some
                                           ((), v19.2.2.1, v20, decide (v20 ≤ 57343),
                                             (v19.2.2.2.2.1.1, v19.2.2.2.2.1.2.1, v19.2.2.2.2.1.2.2.1, v19.2.2.2.2.1.2.2.2.1, ()), ())
                                       else
                                         some
                                           ((), v19.2.2.1, v20, false, (v19.2.2.2.2.1.1, v19.2.2.2.2.1.2.1, v19.2.2.2.2.1.2.2.1, v19.2.2.2.2.1.2.2.2.1, ()),
                                             ())).bind
                                     fun v21 =>
                                     if v21.2.2.2.1 = true then
                                       (M_conciergeref04_Bytes F
                                             (IntKind.i64.wrap
                                               (IntKind.i64.wrap
                                                   (IntKind.i64.wrap (65536 + IntKind.i64.wrap (IntKind.i64.wrap (v21.2.1 - 55296) * 1024)) + v21.2.2.1) -
                                                 56320))).bind
                                         fun v22 =>
                                         some
                                           (Sum.inr
                                             ((), v22,
                                               (v21.2.2.2.2.1.1, IntKind.i64.wrap (v21.2.2.2.2.1.2.1 + 12), v21.2.2.2.2.1.2.2.1, v21.2.2.2.2.1.2.2.2.1, ()), ()))
                                     else some (Sum.inl ((), (v21.2.2.2.2.1.1, v21.2.2.2.2.1.2.1, v21.2.2.2.2.1.2.2.1, v21.2.2.2.2.1.2.2.2.1, ()), ()))
                               else some (Sum.inl ((), (v19.2.2.2.2.1.1, v19.2.2.2.2.1.2.1, v19.2.2.2.2.1.2.2.1, v19.2.2.2.2.1.2.2.2.1, ()), ()))).bind
                             fun v23 =>
                             sumC v23
                               (fun v24 =>
                                 (M_conciergeref09_Read_bad F ((v24.2.1.1, v24.2.1.2.1, v24.2.1.2.2.1, v24.2.1.2.2.2.1, ()), 3)).bind fun v25 =>
                                   some ([], v25.2.1, v25.2.2.1, v25.2.2.2.1, v25.2.2.2.2.1, ()))
                               fun v26 => some (v26.2.1, v26.2.2.1.1, v26.2.2.1.2.1, v26.2.2.1.2.2.1, v26.2.2.1.2.2.2.1, ()))
         fun v27 => some (v27.2.1, v27.2.2.1.1, v27.2.2.1.2.1, v27.2.2.1.2.2.1, v27.2.2.1.2.2.2.1, ())
theorem t_conciergeref09_Read_escape (x : ((List UInt8) × (Int) × (Int) × (Int) × Unit)) (F : Nat) : fnRun TT Tryz.prog (e_conciergeref09_Read_escape F) s_conciergeref09_Read_escape (bodyOf 199) F x = M_conciergeref09_Read_escape F x := by kernel_rfl
theorem c_conciergeref09_Read_escape (F : Nat) : Ctr TT Tryz.prog 199 (conOf TT s_conciergeref09_Read_escape (M_conciergeref09_Read_escape F)) :=
 ctr_of (code := bodyOf 199) Tryz.func199 (by kernel_rfl) (by kernel_rfl) (by kernel_rfl) (by kernel_rfl) (envS_ok (envS_ok (envS_ok envN_ok (c_conciergeref09_Read_bad F)) (c_conciergeref09_Hex F)) (c_conciergeref04_Bytes F)) hm (by kernel_rfl) (fun x r h => ⟨F, (t_conciergeref09_Read_escape x F).trans h⟩)
noncomputable def s_conciergeref09_Read_text : Spec Kd := { params := [(.pin 144 [.str, (.int .i64), (.int .i64), (.int .i64)])], ret := (.one (.a .str)), pins := [[.str, (.int .i64), (.int .i64), (.int .i64)]], pl := { nt := 113, loops := [(0, ⟨[.tmp 0 (.a (.ptr 1 0)), .tmp 3 (.a .str), .box 1 (.cells 144 [.str, (.int .i64), (.int .i64), (.int .i64)])], [], []⟩, (.exit 0, ⟨[.tmp 0 (.a (.ptr 1 0)), .box 1 (.cells 144 [.str, (.int .i64), (.int .i64), (.int .i64)])], [], []⟩), [(.ret, ⟨[.tmp 0 (.a (.ptr 1 0)), .tmp 2 (.a .str), .box 1 (.cells 144 [.str, (.int .i64), (.int .i64), (.int .i64)])], [], []⟩)])], cuts := [(13, [(10, ⟨[.tmp 0 (.a (.ptr 1 0)), .tmp 3 (.a .str), .tmp 5 (.a (.int .i64)), .tmp 84 (.a .bool), .box 1 (.cells 144 [.str, (.int .i64), (.int .i64), (.int .i64)])], [], []⟩)])], ends := [(16, ⟨[.tmp 0 (.a (.ptr 1 0)), .tmp 3 (.a .str), .tmp 5 (.a (.int .i64)), .box 1 (.cells 144 [.str, (.int .i64), (.int .i64), (.int .i64)])], [], []⟩), (12, ⟨[.tmp 0 (.a (.ptr 1 0)), .tmp 3 (.a .str), .tmp 4 (.a (.int .i64)), .tmp 5 (.a (.int .i64)), .box 1 (.cells 144 [.str, (.int .i64), (.int .i64), (.int .i64)])], [], []⟩), (10, ⟨[.tmp 0 (.a (.ptr 1 0)), .tmp 3 (.a .str), .tmp 57 (.a .bool), .box 1 (.cells 144 [.str, (.int .i64), (.int .i64), (.int .i64)])], [], []⟩), (7, ⟨[.tmp 0 (.a (.ptr 1 0)), .tmp 3 (.a .str), .tmp 39 (.a .bool), .box 1 (.cells 144 [.str, (.int .i64), (.int .i64), (.int .i64)])], [], []⟩), (4, ⟨[.tmp 0 (.a (.ptr 1 0)), .tmp 3 (.a .str), .tmp 27 (.a .bool), .box 1 (.cells 144 [.str, (.int .i64), (.int .i64), (.int .i64)])], [], []⟩)] }, rfrz := [], ts := [2] }
noncomputable def e_conciergeref09_Read_text (F : Nat) : Env El := (envS 123 (conOf TT s_conciergeref04_First (M_conciergeref04_First F)) (envS 199 (conOf TT s_conciergeref09_Read_escape (M_conciergeref09_Read_escape F)) (envS 120 (conOf TT s_conciergeref09_Read_bad (M_conciergeref09_Read_bad F)) envN)))
noncomputable def M_conciergeref09_Read_text_l0 (F : Nat) (v0 : (Unit × List UInt8 × (List UInt8 × Int × Int × Int × Unit) × Unit)) : Option ((Unit × List UInt8 × (List UInt8 × Int × Int × Int × Unit) × Unit) ⊕ (Unit × (List UInt8 × Int × Int × Int × Unit) × Unit ⊕ Unit × List UInt8 × (List UInt8 × Int × Int × Int × Unit) × Unit)) :=
 if decide (v0.2.2.1.2.2.2.1 = 0) = true then
     if decide ((↑v0.2.2.1.1.length : Int) ≤ v0.2.2.1.2.1) = true then
      (M_conciergeref09_Read_bad F ((v0.2.2.1.1, v0.2.2.1.2.1, v0.2.2.1.2.2.1, v0.2.2.1.2.2.2.1, ()), 3)).bind fun v1 =>
       some (Sum.inr (Sum.inr ((), [], (v1.2.1, v1.2.2.1, v1.2.2.2.1, v1.2.2.2.2.1, ()), ())))
     else
      ((idx v0.2.2.1.1 v0.2.2.1.2.1).bind fun v2 =>
         some ((), v0.2.1, decide ((↑v2.toNat : Int) = 34), (v0.2.2.1.1, v0.2.2.1.2.1, v0.2.2.1.2.2.1, v0.2.2.1.2.2.2.1, ()), ())).bind
       fun v3 =>
       if v3.2.2.1 = true then
        some (Sum.inr (Sum.inr ((), v3.2.1, (v3.2.2.2.1.1, IntKind.i64.wrap (v3.2.2.2.1.2.1 + 1), v3.2.2.2.1.2.2.1, v3.2.2.2.1.2.2.2.1, ()), ())))
       else
        ((idx v3.2.2.2.1.1 v3.2.2.2.1.2.1).bind fun v4 =>
           some ((), v3.2.1, decide ((↑v4.toNat : Int) = 92), (v3.2.2.2.1.1, v3.2.2.2.1.2.1, v3.2.2.2.1.2.2.1, v3.2.2.2.1.2.2.2.1, ()), ())).bind
         fun v5 =>
         if v5.2.2.1 = true then
          (M_conciergeref09_Read_escape F (v5.2.2.2.1.1, v5.2.2.2.1.2.1, v5.2.2.2.1.2.2.1, v5.2.2.2.1.2.2.2.1, ())).bind fun v6 =>
           if decide (v5.2.1.length + v6.1.length ≤ 9223372036854775807) = true then
            some (Sum.inl ((), v5.2.1 ++ v6.1, (v6.2.1, v6.2.2.1, v6.2.2.2.1, v6.2.2.2.2.1, ()), ()))
           else none
         else
          ((sub v5.2.2.2.1.1 v5.2.2.2.1.2.1 (↑v5.2.2.2.1.1.length : Int)).bind fun v7 =>
             (M_conciergeref04_First F v7).bind fun v8 =>
              some ((), v5.2.1, v8.1, v8.2, (v5.2.2.2.1.1, v5.2.2.2.1.2.1, v5.2.2.2.1.2.2.1, v5.2.2.2.1.2.2.2.1, ()), ())).bind
           fun v9 =>
           (if decide (v9.2.2.1 < 32) = false then
              if decide (v9.2.2.1 = 65533) = true then
               some
                ((), v9.2.1, v9.2.2.2.1, decide (v9.2.2.2.1 = 1),
                  (v9.2.2.2.2.1.1, v9.2.2.2.2.1.2.1, v9.2.2.2.2.1.2.2.1, v9.2.2.2.2.1.2.2.2.1, ()), ())
              else some ((), v9.2.1, v9.2.2.2.1, false, (v9.2.2.2.2.1.1, v9.2.2.2.2.1.2.1, v9.2.2.2.2.1.2.2.1, v9.2.2.2.2.1.2.2.2.1, ()), ())
             else some ((), v9.2.1, v9.2.2.2.1, true, (v9.2.2.2.2.1.1, v9.2.2.2.2.1.2.1, v9.2.2.2.2.1.2.2.1, v9.2.2.2.2.1.2.2.2.1, ()), ())).bind
            fun v10 =>
            if v10.2.2.2.1 = true then
             (M_conciergeref09_Read_bad F ((v10.2.2.2.2.1.1, v10.2.2.2.2.1.2.1, v10.2.2.2.2.1.2.2.1, v10.2.2.2.2.1.2.2.2.1, ()), 3)).bind
              fun v11 => some (Sum.inr (Sum.inr ((), [], (v11.2.1, v11.2.2.1, v11.2.2.2.1, v11.2.2.2.2.1, ()), ())))
            else
             ((sub v10.2.2.2.2.1.1 v10.2.2.2.2.1.2.1 (IntKind.i64.wrap (v10.2.2.2.2.1.2.1 + v10.2.2.1))).bind fun v12 =>
                if decide (v10.2.1.length + v12.length ≤ 9223372036854775807) = true then
                 some ((), v10.2.1 ++ v12, v10.2.2.1, (v10.2.2.2.2.1.1, v10.2.2.2.2.1.2.1, v10.2.2.2.2.1.2.2.1, v10.2.2.2.2.1.2.2.2.1, ()), ())
                else none).bind
              fun v13 =>
              some
               (Sum.inl
                ((), v13.2.1, (v13.2.2.2.1.1, IntKind.i64.wrap (v13.2.2.2.1.2.1 + v13.2.2.1), v13.2.2.2.1.2.2.1, v13.2.2.2.1.2.2.2.1, ()), ()))
    else some (Sum.inr (Sum.inl ((), (v0.2.2.1.1, v0.2.2.1.2.1, v0.2.2.1.2.2.1, v0.2.2.1.2.2.2.1, ()), ())))
noncomputable def M_conciergeref09_Read_text (F : Nat) (x : ((List UInt8) × (Int) × (Int) × (Int) × Unit)) : Option ((List UInt8) × ((List UInt8) × (Int) × (Int) × (Int) × Unit)) :=
 (loopM (M_conciergeref09_Read_text_l0 F)
    F ((), [], (x.1, IntKind.i64.wrap (x.2.1 + 1), x.2.2.1, x.2.2.2.1, ()), ())).bind
  fun v14 =>
  sumC v14 (fun v15 => some ([], v15.2.1.1, v15.2.1.2.1, v15.2.1.2.2.1, v15.2.1.2.2.2.1, ())) fun v16 =>
   some (v16.2.1, v16.2.2.1.1, v16.2.2.1.2.1, v16.2.2.1.2.2.1, v16.2.2.1.2.2.2.1, ())
theorem t_conciergeref09_Read_text (x : ((List UInt8) × (Int) × (Int) × (Int) × Unit)) (F : Nat) : fnRun TT Tryz.prog (e_conciergeref09_Read_text F) s_conciergeref09_Read_text (bodyOf 163) F x = M_conciergeref09_Read_text F x := by kernel_rfl
theorem c_conciergeref09_Read_text (F : Nat) : Ctr TT Tryz.prog 163 (conOf TT s_conciergeref09_Read_text (M_conciergeref09_Read_text F)) :=
 ctr_of (code := bodyOf 163) Tryz.func163 (by kernel_rfl) (by kernel_rfl) (by kernel_rfl) (by kernel_rfl) (envS_ok (envS_ok (envS_ok envN_ok (c_conciergeref09_Read_bad F)) (c_conciergeref09_Read_escape F)) (c_conciergeref04_First F)) hm (by kernel_rfl) (fun x r h => ⟨F, (t_conciergeref09_Read_text x F).trans h⟩)
noncomputable def s_conciergeref09_digit : Spec Kd := { params := [(.a (.int .i64))], ret := (.one (.a .str)), pins := [], pl := { nt := 8 }, rfrz := [], ts := [2] }
noncomputable def e_conciergeref09_digit (F : Nat) : Env El := envN
noncomputable def M_conciergeref09_digit (F : Nat) (x : (Int)) : Option (List UInt8) :=
 some [UInt8.ofNat (IntKind.u8.wrap (IntKind.i64.wrap (48 + x))).toNat]
theorem t_conciergeref09_digit (x : (Int)) (F : Nat) : fnRun TT Tryz.prog (e_conciergeref09_digit F) s_conciergeref09_digit (bodyOf 117) F x = M_conciergeref09_digit F x := by kernel_rfl
theorem c_conciergeref09_digit (F : Nat) : Ctr TT Tryz.prog 117 (conOf TT s_conciergeref09_digit (M_conciergeref09_digit F)) :=
 ctr_of (code := bodyOf 117) Tryz.func117 (by kernel_rfl) (by kernel_rfl) (by kernel_rfl) (by kernel_rfl) envN_ok hm (by kernel_rfl) (fun x r h => ⟨F, (t_conciergeref09_digit x F).trans h⟩)
noncomputable def s_conciergeref09_Decimal : Spec Kd := { params := [(.a (.int .i64))], ret := (.one (.a .str)), pins := [], pl := { nt := 25, loops := [(0, ⟨[.tmp 0 (.a (.int .i64)), .tmp 3 (.a .str)], [], []⟩, (.exit 0, ⟨[.tmp 3 (.a .str)], [], []⟩), [])] }, rfrz := [], ts := [2] }
noncomputable def e_conciergeref09_Decimal (F : Nat) (R : tyS El s_conciergeref09_Decimal.params → Option (s_conciergeref09_Decimal.R El)) : Env El := (envS 83 (conOf TT s_conciergeref09_Decimal R) (envS 117 (conOf TT s_conciergeref09_digit (M_conciergeref09_digit F)) envN))
noncomputable def Mb_conciergeref09_Decimal_l0 (F : Nat) (R : (Int) → Option (List UInt8)) (v2 : (Int × List UInt8 × Unit)) : Option ((Int × List UInt8 × Unit) ⊕ (List UInt8 × Unit)) :=
 if decide (0 < v2.1) = true then
       (M_conciergeref09_digit F (v2.1.tmod 10)).bind fun v3 =>
        if decide (v3.length + v2.2.1.length ≤ 9223372036854775807) = true then some (Sum.inl (IntKind.i64.wrap (v2.1.tdiv 10), v3 ++ v2.2.1, ()))
        else none
      else some (Sum.inr (v2.2.1, ()))
noncomputable def Mb_conciergeref09_Decimal (F : Nat) (R : (Int) → Option (List UInt8)) (x : (Int)) : Option (List UInt8) :=
 if decide (x < 0) = true then
  (R (IntKind.i64.wrap (0 - x))).bind fun v0 => if decide ([45].length + v0.length ≤ 9223372036854775807) = true then some ([45] ++ v0) else none
 else
  (M_conciergeref09_digit F (x.tmod 10)).bind fun v1 =>
   (loopM (Mb_conciergeref09_Decimal_l0 F R)
      F (IntKind.i64.wrap (x.tdiv 10), v1, ())).bind
    fun v4 => some v4.1
noncomputable def Mr_conciergeref09_Decimal (F : Nat) : Nat → ((Int)) → Option (List UInt8)
 | 0, _ => none
 | d + 1, x => Mb_conciergeref09_Decimal F (Mr_conciergeref09_Decimal F d) x
noncomputable def M_conciergeref09_Decimal (F : Nat) (x : (Int)) : Option (List UInt8) := Mr_conciergeref09_Decimal F F x
theorem t_conciergeref09_Decimal (x : (Int)) (F : Nat) (R : (Int) → Option (List UInt8)) : fnRun TT Tryz.prog (e_conciergeref09_Decimal F R) s_conciergeref09_Decimal (bodyOf 83) F x = Mb_conciergeref09_Decimal F R x := by kernel_rfl
theorem cr_conciergeref09_Decimal (F : Nat) : ∀ d, Ctr TT Tryz.prog 83 (conOf TT s_conciergeref09_Decimal (Mr_conciergeref09_Decimal F d))
 | 0 => ctr_none _ _ _ _ (fun _ => rfl)
 | d + 1 => ctr_of (code := bodyOf 83) Tryz.func83 (by kernel_rfl) (by kernel_rfl) (by kernel_rfl) (by kernel_rfl) (envS_ok (envS_ok envN_ok (c_conciergeref09_digit F)) (cr_conciergeref09_Decimal F d)) hm (by kernel_rfl) (fun x r h => ⟨F, (t_conciergeref09_Decimal x F (Mr_conciergeref09_Decimal F d)).trans h⟩)
theorem c_conciergeref09_Decimal (F : Nat) : Ctr TT Tryz.prog 83 (conOf TT s_conciergeref09_Decimal (M_conciergeref09_Decimal F)) := cr_conciergeref09_Decimal F F
noncomputable def s_conciergeref09_Read_number : Spec Kd := { params := [(.pin 144 [.str, (.int .i64), (.int .i64), (.int .i64)])], ret := (.one (.agg [(.int .i64), .str, .str, (.int .i64), (.slc .str), (.slc .str)])), pins := [[.str, (.int .i64), (.int .i64), (.int .i64)]], pl := { nt := 96, joins := [(1300085, (.norm, ⟨[.tmp 0 (.a (.ptr 1 0)), .tmp 2 (.a (.ptr 128 0)), .tmp 3 (.a (.int .i64)), .tmp 4 (.a (.int .i64)), .box 1 (.cells 144 [.str, (.int .i64), (.int .i64), (.int .i64)]), .box 128 (.cells 110 [(.int .i64), .str, .str, (.int .i64), (.slc .str), (.slc .str)])], [], [.cellSlc 128 4 .str, .cellSlc 128 5 .str]⟩), []), (400007, (.norm, ⟨[.tmp 0 (.a (.ptr 1 0)), .tmp 2 (.a (.ptr 128 0)), .tmp 3 (.a (.int .i64)), .box 1 (.cells 144 [.str, (.int .i64), (.int .i64), (.int .i64)]), .box 128 (.cells 110 [(.int .i64), .str, .str, (.int .i64), (.slc .str), (.slc .str)])], [], [.cellSlc 128 4 .str, .cellSlc 128 5 .str]⟩), [])], loops := [(0, ⟨[.tmp 0 (.a (.ptr 1 0)), .tmp 2 (.a (.ptr 128 0)), .tmp 3 (.a (.int .i64)), .tmp 4 (.a (.int .i64)), .tmp 5 (.a (.int .i64)), .box 1 (.cells 144 [.str, (.int .i64), (.int .i64), (.int .i64)]), .box 128 (.cells 110 [(.int .i64), .str, .str, (.int .i64), (.slc .str), (.slc .str)])], [], [.cellSlc 128 4 .str, .cellSlc 128 5 .str]⟩, (.exit 0, ⟨[.tmp 0 (.a (.ptr 1 0)), .tmp 2 (.a (.ptr 128 0)), .tmp 3 (.a (.int .i64)), .tmp 4 (.a (.int .i64)), .tmp 5 (.a (.int .i64)), .box 1 (.cells 144 [.str, (.int .i64), (.int .i64), (.int .i64)]), .box 128 (.cells 110 [(.int .i64), .str, .str, (.int .i64), (.slc .str), (.slc .str)])], [], [.cellSlc 128 4 .str, .cellSlc 128 5 .str]⟩), [])], ends := [(8, ⟨[.tmp 0 (.a (.ptr 1 0)), .tmp 2 (.a (.ptr 128 0)), .tmp 3 (.a (.int .i64)), .tmp 4 (.a (.int .i64)), .tmp 5 (.a (.int .i64)), .box 1 (.cells 144 [.str, (.int .i64), (.int .i64), (.int .i64)]), .box 128 (.cells 110 [(.int .i64), .str, .str, (.int .i64), (.slc .str), (.slc .str)])], [], [.cellSlc 128 4 .str, .cellSlc 128 5 .str]⟩), (7, ⟨[.tmp 0 (.a (.ptr 1 0)), .tmp 2 (.a (.ptr 128 0)), .tmp 3 (.a (.int .i64)), .tmp 4 (.a (.int .i64)), .tmp 5 (.a (.int .i64)), .tmp 60 (.a .bool), .box 1 (.cells 144 [.str, (.int .i64), (.int .i64), (.int .i64)]), .box 128 (.cells 110 [(.int .i64), .str, .str, (.int .i64), (.slc .str), (.slc .str)])], [], [.cellSlc 128 4 .str, .cellSlc 128 5 .str]⟩)] }, rfrz := [], ts := [96], rc := [(2, some 110)], rco := [.cellSlc 128 4 .str, .cellSlc 128 5 .str] }
noncomputable def e_conciergeref09_Read_number (F : Nat) : Env El := (envS 83 (conOf TT s_conciergeref09_Decimal (M_conciergeref09_Decimal F)) (envS 120 (conOf TT s_conciergeref09_Read_bad (M_conciergeref09_Read_bad F)) (envS 160 (conOf TT s_conciergeref09_Read_is (M_conciergeref09_Read_is F)) envN)))
noncomputable def M_conciergeref09_Read_number_l0 (F : Nat) (v2 : (Unit ×
      Unit ×
       Int ×
        Int ×
         Int × (List UInt8 × Int × Int × Int × Unit) × (Int × List UInt8 × List UInt8 × Int × List (List UInt8) × List (List UInt8) × Unit) × Unit)) : Option ((Unit ×
      Unit ×
       Int ×
        Int ×
         Int × (List UInt8 × Int × Int × Int × Unit) × (Int × List UInt8 × List UInt8 × Int × List (List UInt8) × List (List UInt8) × Unit) × Unit) ⊕ (Unit ×
      Unit ×
       Int ×
        Int ×
         Int × (List UInt8 × Int × Int × Int × Unit) × (Int × List UInt8 × List UInt8 × Int × List (List UInt8) × List (List UInt8) × Unit) × Unit)) :=
 (if decide (v2.2.2.2.2.1 < 15) = true then
         if decide (v2.2.2.2.2.2.1.2.1 < (↑v2.2.2.2.2.2.1.1.length : Int)) = true then
          (idx v2.2.2.2.2.2.1.1 v2.2.2.2.2.2.1.2.1).bind fun (v3 : UInt8) =>
           if decide (48 ≤ (↑v3.toNat : Int)) = true then
            (idx v2.2.2.2.2.2.1.1 v2.2.2.2.2.2.1.2.1).bind fun (v4 : UInt8) =>
             if decide ((↑v4.toNat : Int) ≤ 57) = true then
              if decide (v2.2.2.2.2.1 = 0) = false then
               some
                ((), (), v2.2.2.1, v2.2.2.2.1, v2.2.2.2.2.1, decide (0 < v2.2.2.2.1),
                  (v2.2.2.2.2.2.1.1, v2.2.2.2.2.2.1.2.1, v2.2.2.2.2.2.1.2.2.1, v2.2.2.2.2.2.1.2.2.2.1, ()), v2.2.2.2.2.2.2.1, ())
              else
               some
                ((), (), v2.2.2.1, v2.2.2.2.1, v2.2.2.2.2.1, true,
                  (v2.2.2.2.2.2.1.1, v2.2.2.2.2.2.1.2.1, v2.2.2.2.2.2.1.2.2.1, v2.2.2.2.2.2.1.2.2.2.1, ()), v2.2.2.2.2.2.2.1, ())
             else
              some
               ((), (), v2.2.2.1, v2.2.2.2.1, v2.2.2.2.2.1, false,
                 (v2.2.2.2.2.2.1.1, v2.2.2.2.2.2.1.2.1, v2.2.2.2.2.2.1.2.2.1, v2.2.2.2.2.2.1.2.2.2.1, ()), v2.2.2.2.2.2.2.1, ())
           else
            some
             ((), (), v2.2.2.1, v2.2.2.2.1, v2.2.2.2.2.1, false,
               (v2.2.2.2.2.2.1.1, v2.2.2.2.2.2.1.2.1, v2.2.2.2.2.2.1.2.2.1, v2.2.2.2.2.2.1.2.2.2.1, ()), v2.2.2.2.2.2.2.1, ())
         else
          some
           ((), (), v2.2.2.1, v2.2.2.2.1, v2.2.2.2.2.1, false,
             (v2.2.2.2.2.2.1.1, v2.2.2.2.2.2.1.2.1, v2.2.2.2.2.2.1.2.2.1, v2.2.2.2.2.2.1.2.2.2.1, ()), v2.2.2.2.2.2.2.1, ())
        else
         some
          ((), (), v2.2.2.1, v2.2.2.2.1, v2.2.2.2.2.1, false,
            (v2.2.2.2.2.2.1.1, v2.2.2.2.2.2.1.2.1, v2.2.2.2.2.2.1.2.2.1, v2.2.2.2.2.2.1.2.2.2.1, ()), v2.2.2.2.2.2.2.1, ())).bind
       fun
        (v5 :
         Unit ×
          Unit ×
           Int ×
            Int ×
             Int ×
              Bool ×
               (List UInt8 × Int × Int × Int × Unit) ×
                (Int × List UInt8 × List UInt8 × Int × List (List UInt8) × List (List UInt8) × Unit) × Unit) =>
       if v5.2.2.2.2.2.1 = true then
        ((idx v5.2.2.2.2.2.2.1.1 v5.2.2.2.2.2.2.1.2.1).bind fun (v6 : UInt8) =>
           some
            ((), (), v5.2.2.1, IntKind.i64.wrap (IntKind.i64.wrap (IntKind.i64.wrap (v5.2.2.2.1 * 10) + IntKind.i64.wrap (↑v6.toNat : Int)) - 48),
              v5.2.2.2.2.1, (v5.2.2.2.2.2.2.1.1, v5.2.2.2.2.2.2.1.2.1, v5.2.2.2.2.2.2.1.2.2.1, v5.2.2.2.2.2.2.1.2.2.2.1, ()), v5.2.2.2.2.2.2.2.1,
              ())).bind
         fun
          (v7 :
           Unit ×
            Unit ×
             Int ×
              Int ×
               Int ×
                (List UInt8 × Int × Int × Int × Unit) ×
                 (Int × List UInt8 × List UInt8 × Int × List (List UInt8) × List (List UInt8) × Unit) × Unit) =>
         some
          (Sum.inl
           ((), (), v7.2.2.1, v7.2.2.2.1, IntKind.i64.wrap (v7.2.2.2.2.1 + 1),
             (v7.2.2.2.2.2.1.1, IntKind.i64.wrap (v7.2.2.2.2.2.1.2.1 + 1), v7.2.2.2.2.2.1.2.2.1, v7.2.2.2.2.2.1.2.2.2.1, ()), v7.2.2.2.2.2.2.1, ()))
       else
        some
         (Sum.inr
          ((), (), v5.2.2.1, v5.2.2.2.1, v5.2.2.2.2.1,
            (v5.2.2.2.2.2.2.1.1, v5.2.2.2.2.2.2.1.2.1, v5.2.2.2.2.2.2.1.2.2.1, v5.2.2.2.2.2.2.1.2.2.2.1, ()), v5.2.2.2.2.2.2.2.1, ()))
noncomputable def M_conciergeref09_Read_number (F : Nat) (x : ((List UInt8) × (Int) × (Int) × (Int) × Unit)) : Option (((Int) × (List UInt8) × (List UInt8) × (Int) × (List (El .str)) × (List (El .str)) × Unit) × ((List UInt8) × (Int) × (Int) × (Int) × Unit)) :=
 (M_conciergeref09_Read_is F ((x.1, x.2.1, x.2.2.1, x.2.2.2.1, ()), 45)).bind fun (v0 : Bool × List UInt8 × Int × Int × Int × Unit) =>
  (if v0.1 = true then some ((), (), -1, (v0.2.1, IntKind.i64.wrap (v0.2.2.1 + 1), v0.2.2.2.1, v0.2.2.2.2.1, ()), (0, [], [], 0, [], [], ()), ())
    else some ((), (), 1, (v0.2.1, v0.2.2.1, v0.2.2.2.1, v0.2.2.2.2.1, ()), (0, [], [], 0, [], [], ()), ())).bind
   fun
    (v1 :
     Unit ×
      Unit ×
       Int × (List UInt8 × Int × Int × Int × Unit) × (Int × List UInt8 × List UInt8 × Int × List (List UInt8) × List (List UInt8) × Unit) × Unit) =>
   (loopM (M_conciergeref09_Read_number_l0 F)
      F ((), (), v1.2.2.1, 0, 0, (v1.2.2.2.1.1, v1.2.2.2.1.2.1, v1.2.2.2.1.2.2.1, v1.2.2.2.1.2.2.2.1, ()), v1.2.2.2.2.1, ())).bind
    fun
     (v8 :
      Unit ×
       Unit ×
        Int ×
         Int ×
          Int ×
           (List UInt8 × Int × Int × Int × Unit) × (Int × List UInt8 × List UInt8 × Int × List (List UInt8) × List (List UInt8) × Unit) × Unit) =>
    (if decide (v8.2.2.2.2.1 = 0) = true then
       (M_conciergeref09_Read_bad F ((v8.2.2.2.2.2.1.1, v8.2.2.2.2.2.1.2.1, v8.2.2.2.2.2.1.2.2.1, v8.2.2.2.2.2.1.2.2.2.1, ()), 3)).bind
        fun (v9 : Unit × List UInt8 × Int × Int × Int × Unit) =>
        some ((), (), v8.2.2.1, v8.2.2.2.1, (v9.2.1, v9.2.2.1, v9.2.2.2.1, v9.2.2.2.2.1, ()), v8.2.2.2.2.2.2.1, ())
      else
       some
        ((), (), v8.2.2.1, v8.2.2.2.1, (v8.2.2.2.2.2.1.1, v8.2.2.2.2.2.1.2.1, v8.2.2.2.2.2.1.2.2.1, v8.2.2.2.2.2.1.2.2.2.1, ()), v8.2.2.2.2.2.2.1,
          ())).bind
     fun
      (v10 :
       Unit ×
        Unit ×
         Int ×
          Int ×
           (List UInt8 × Int × Int × Int × Unit) × (Int × List UInt8 × List UInt8 × Int × List (List UInt8) × List (List UInt8) × Unit) × Unit) =>
     (M_conciergeref09_Decimal F (IntKind.i64.wrap (v10.2.2.1 * v10.2.2.2.1))).bind fun (v11 : List UInt8) =>
      some
       ((3, v11, [], IntKind.i64.wrap (v10.2.2.1 * v10.2.2.2.1), [], [], ()), v10.2.2.2.2.1.1, v10.2.2.2.2.1.2.1, v10.2.2.2.2.1.2.2.1,
         v10.2.2.2.2.1.2.2.2.1, ())
theorem t_conciergeref09_Read_number (x : ((List UInt8) × (Int) × (Int) × (Int) × Unit)) (F : Nat) : fnRun TT Tryz.prog (e_conciergeref09_Read_number F) s_conciergeref09_Read_number (bodyOf 165) F x = M_conciergeref09_Read_number F x := by kernel_rfl
theorem c_conciergeref09_Read_number (F : Nat) : Ctr TT Tryz.prog 165 (conOf TT s_conciergeref09_Read_number (M_conciergeref09_Read_number F)) :=
 ctr_of (code := bodyOf 165) Tryz.func165 (by kernel_rfl) (by kernel_rfl) (by kernel_rfl) (by kernel_rfl) (envS_ok (envS_ok (envS_ok envN_ok (c_conciergeref09_Read_is F)) (c_conciergeref09_Read_bad F)) (c_conciergeref09_Decimal F)) hm (by kernel_rfl) (fun x r h => ⟨F, (t_conciergeref09_Read_number x F).trans h⟩)
noncomputable def s_conciergeref09_Quote : Spec Kd := { params := [(.a .str)], ret := (.one (.a .str)), pins := [], pl := { nt := 79, bjoins := [(1, (.norm, ⟨[.tmp 0 (.a .str), .tmp 3 (.a .str), .tmp 4 (.a .str), .tmp 5 (.a (.int .i64))], [], []⟩), [])], loops := [(0, ⟨[.tmp 0 (.a .str), .tmp 3 (.a .str), .tmp 4 (.a .str), .tmp 5 (.a (.int .i64))], [], []⟩, (.exit 0, ⟨[.tmp 4 (.a .str)], [], []⟩), [])], cuts := [(7, [(6, ⟨[.tmp 0 (.a .str), .tmp 3 (.a .str), .tmp 4 (.a .str), .tmp 5 (.a (.int .i64)), .tmp 6 (.a (.int .u8)), .tmp 21 (.a .bool)], [], []⟩)])] }, rfrz := [], ts := [2] }
noncomputable def e_conciergeref09_Quote (F : Nat) : Env El := envN
noncomputable def M_conciergeref09_Quote_l0 (F : Nat) (v0 : (List UInt8 × List UInt8 × List UInt8 × Int × Unit)) : Option ((List UInt8 × List UInt8 × List UInt8 × Int × Unit) ⊕ (List UInt8 × Unit)) :=
 if decide (v0.2.2.2.1 < (↑v0.1.length : Int)) = true then
     ((idx v0.1 v0.2.2.2.1).bind fun v1 =>
        (if decide ((↑v1.toNat : Int) = 34) = false then
           some (v0.1, v0.2.1, v0.2.2.1, v0.2.2.2.1, (↑v1.toNat : Int), decide ((↑v1.toNat : Int) = 92), ())
          else some (v0.1, v0.2.1, v0.2.2.1, v0.2.2.2.1, (↑v1.toNat : Int), true, ())).bind
         fun v2 =>
         if v2.2.2.2.2.2.1 = true then
          if decide (v2.2.2.1.length + [92].length ≤ 9223372036854775807) = true then
           (sub v2.1 v2.2.2.2.1 (IntKind.i64.wrap (v2.2.2.2.1 + 1))).bind fun v3 =>
            if decide ((v2.2.2.1 ++ [92]).length + v3.length ≤ 9223372036854775807) = true then
             some (v2.1, v2.2.1, v2.2.2.1 ++ [92] ++ v3, v2.2.2.2.1, ())
            else none
          else none
         else
          if decide (v2.2.2.2.2.1 = 8) = true then
           if decide (v2.2.2.1.length + [92, 98].length ≤ 9223372036854775807) = true then some (v2.1, v2.2.1, v2.2.2.1 ++ [92, 98], v2.2.2.2.1, ())
           else none
          else
           if decide (v2.2.2.2.2.1 = 9) = true then
            if decide (v2.2.2.1.length + [92, 116].length ≤ 9223372036854775807) = true then
             some (v2.1, v2.2.1, v2.2.2.1 ++ [92, 116], v2.2.2.2.1, ())
            else none
           else
            if decide (v2.2.2.2.2.1 = 10) = true then
             if decide (v2.2.2.1.length + [92, 110].length ≤ 9223372036854775807) = true then
              some (v2.1, v2.2.1, v2.2.2.1 ++ [92, 110], v2.2.2.2.1, ())
             else none
            else
             if decide (v2.2.2.2.2.1 = 12) = true then
              if decide (v2.2.2.1.length + [92, 102].length ≤ 9223372036854775807) = true then
               some (v2.1, v2.2.1, v2.2.2.1 ++ [92, 102], v2.2.2.2.1, ())
              else none
             else
              if decide (v2.2.2.2.2.1 = 13) = true then
               if decide (v2.2.2.1.length + [92, 114].length ≤ 9223372036854775807) = true then
                some (v2.1, v2.2.1, v2.2.2.1 ++ [92, 114], v2.2.2.2.1, ())
               else none
              else
               if decide (v2.2.2.2.2.1 < 32) = true then
                if decide (v2.2.2.1.length + [92, 117, 48, 48].length ≤ 9223372036854775807) = true then
                 (sub v2.2.1 (IntKind.u8.wrap (v2.2.2.2.2.1.tdiv 16)) (IntKind.u8.wrap (IntKind.u8.wrap (v2.2.2.2.2.1.tdiv 16) + 1))).bind
                  fun v4 =>
                  if decide ((v2.2.2.1 ++ [92, 117, 48, 48]).length + v4.length ≤ 9223372036854775807) = true then
                   (sub v2.2.1 (v2.2.2.2.2.1.tmod 16) (IntKind.u8.wrap (v2.2.2.2.2.1.tmod 16 + 1))).bind fun v5 =>
                    if decide ((v2.2.2.1 ++ [92, 117, 48, 48] ++ v4).length + v5.length ≤ 9223372036854775807) = true then
                     some (v2.1, v2.2.1, v2.2.2.1 ++ [92, 117, 48, 48] ++ v4 ++ v5, v2.2.2.2.1, ())
                    else none
                  else none
                else none
               else
                (sub v2.1 v2.2.2.2.1 (IntKind.i64.wrap (v2.2.2.2.1 + 1))).bind fun v6 =>
                 if decide (v2.2.2.1.length + v6.length ≤ 9223372036854775807) = true then some (v2.1, v2.2.1, v2.2.2.1 ++ v6, v2.2.2.2.1, ())
                 else none).bind
      fun v7 => some (Sum.inl (v7.1, v7.2.1, v7.2.2.1, IntKind.i64.wrap (v7.2.2.2.1 + 1), ()))
    else some (Sum.inr (v0.2.2.1, ()))
noncomputable def M_conciergeref09_Quote (F : Nat) (x : (List UInt8)) : Option (List UInt8) :=
 (loopM (M_conciergeref09_Quote_l0 F)
    F (x, [48, 49, 50, 51, 52, 53, 54, 55, 56, 57, 97, 98, 99, 100, 101, 102], [34], 0, ())).bind
  fun v8 => if decide (v8.1.length + [34].length ≤ 9223372036854775807) = true then some (v8.1 ++ [34]) else none
theorem t_conciergeref09_Quote (x : (List UInt8)) (F : Nat) : fnRun TT Tryz.prog (e_conciergeref09_Quote F) s_conciergeref09_Quote (bodyOf 84) F x = M_conciergeref09_Quote F x := by kernel_rfl
theorem c_conciergeref09_Quote (F : Nat) : Ctr TT Tryz.prog 84 (conOf TT s_conciergeref09_Quote (M_conciergeref09_Quote F)) :=
 ctr_of (code := bodyOf 84) Tryz.func84 (by kernel_rfl) (by kernel_rfl) (by kernel_rfl) (by kernel_rfl) envN_ok hm (by kernel_rfl) (fun x r h => ⟨F, (t_conciergeref09_Quote x F).trans h⟩)
noncomputable def s_conciergeref09_Read_open : Spec Kd := { params := [(.pin 144 [.str, (.int .i64), (.int .i64), (.int .i64)])], ret := (.tup []), pins := [[.str, (.int .i64), (.int .i64), (.int .i64)]], pl := { nt := 25, joins := [(300013, (.norm, ⟨[.tmp 0 (.a (.ptr 1 0)), .box 1 (.cells 144 [.str, (.int .i64), (.int .i64), (.int .i64)])], [], []⟩), [])] }, rfrz := [], ts := [] }
noncomputable def e_conciergeref09_Read_open (F : Nat) : Env El := (envS 119 (conOf TT s_conciergeref09_Read_blanks (M_conciergeref09_Read_blanks F)) (envS 120 (conOf TT s_conciergeref09_Read_bad (M_conciergeref09_Read_bad F)) envN))
noncomputable def M_conciergeref09_Read_open (F : Nat) (x : ((List UInt8) × (Int) × (Int) × (Int) × Unit)) : Option ((Unit) × ((List UInt8) × (Int) × (Int) × (Int) × Unit)) :=
 (if decide (8 < IntKind.i64.wrap (x.2.2.1 + 1)) = true then
    (M_conciergeref09_Read_bad F ((x.1, x.2.1, IntKind.i64.wrap (x.2.2.1 + 1), x.2.2.2.1, ()), 10)).bind fun v0 =>
     some ((), (v0.2.1, v0.2.2.1, v0.2.2.2.1, v0.2.2.2.2.1, ()), ())
   else some ((), (x.1, x.2.1, IntKind.i64.wrap (x.2.2.1 + 1), x.2.2.2.1, ()), ())).bind
  fun v1 => (M_conciergeref09_Read_blanks F (v1.2.1.1, IntKind.i64.wrap (v1.2.1.2.1 + 1), v1.2.1.2.2.1, v1.2.1.2.2.2.1, ())).bind fun v2 => some v2
theorem t_conciergeref09_Read_open (x : ((List UInt8) × (Int) × (Int) × (Int) × Unit)) (F : Nat) : fnRun TT Tryz.prog (e_conciergeref09_Read_open F) s_conciergeref09_Read_open (bodyOf 196) F x = M_conciergeref09_Read_open F x := by kernel_rfl
theorem c_conciergeref09_Read_open (F : Nat) : Ctr TT Tryz.prog 196 (conOf TT s_conciergeref09_Read_open (M_conciergeref09_Read_open F)) :=
 ctr_of (code := bodyOf 196) Tryz.func196 (by kernel_rfl) (by kernel_rfl) (by kernel_rfl) (by kernel_rfl) (envS_ok (envS_ok envN_ok (c_conciergeref09_Read_bad F)) (c_conciergeref09_Read_blanks F)) hm (by kernel_rfl) (fun x r h => ⟨F, (t_conciergeref09_Read_open x F).trans h⟩)
noncomputable def s_conciergeref09_Read_more : Spec Kd := { params := [(.pin 144 [.str, (.int .i64), (.int .i64), (.int .i64)]), (.a (.int .u8))], ret := (.one (.a .bool)), pins := [[.str, (.int .i64), (.int .i64), (.int .i64)]], pl := { nt := 35 }, rfrz := [], ts := [4] }
noncomputable def e_conciergeref09_Read_more (F : Nat) : Env El := (envS 120 (conOf TT s_conciergeref09_Read_bad (M_conciergeref09_Read_bad F)) (envS 160 (conOf TT s_conciergeref09_Read_is (M_conciergeref09_Read_is F)) (envS 119 (conOf TT s_conciergeref09_Read_blanks (M_conciergeref09_Read_blanks F)) envN)))
noncomputable def M_conciergeref09_Read_more (F : Nat) (x : ((List UInt8) × (Int) × (Int) × (Int) × Unit) × (Int)) : Option ((Bool) × ((List UInt8) × (Int) × (Int) × (Int) × Unit)) :=
 (M_conciergeref09_Read_blanks F (x.1.1, x.1.2.1, x.1.2.2.1, x.1.2.2.2.1, ())).bind fun v0 =>
  (M_conciergeref09_Read_is F ((v0.2.1, v0.2.2.1, v0.2.2.2.1, v0.2.2.2.2.1, ()), 44)).bind fun v1 =>
   if v1.1 = true then some (true, v1.2.1, IntKind.i64.wrap (v1.2.2.1 + 1), v1.2.2.2.1, v1.2.2.2.2.1, ())
   else
    (M_conciergeref09_Read_is F ((v1.2.1, v1.2.2.1, v1.2.2.2.1, v1.2.2.2.2.1, ()), x.2)).bind fun v2 =>
     if v2.1 = true then some (false, v2.2.1, IntKind.i64.wrap (v2.2.2.1 + 1), IntKind.i64.wrap (v2.2.2.2.1 - 1), v2.2.2.2.2.1, ())
     else
      (M_conciergeref09_Read_bad F ((v2.2.1, v2.2.2.1, v2.2.2.2.1, v2.2.2.2.2.1, ()), 3)).bind fun v3 =>
       some (false, v3.2.1, v3.2.2.1, v3.2.2.2.1, v3.2.2.2.2.1, ())
theorem t_conciergeref09_Read_more (x : ((List UInt8) × (Int) × (Int) × (Int) × Unit) × (Int)) (F : Nat) : fnRun TT Tryz.prog (e_conciergeref09_Read_more F) s_conciergeref09_Read_more (bodyOf 198) F x = M_conciergeref09_Read_more F x := by kernel_rfl
theorem c_conciergeref09_Read_more (F : Nat) : Ctr TT Tryz.prog 198 (conOf TT s_conciergeref09_Read_more (M_conciergeref09_Read_more F)) :=
 ctr_of (code := bodyOf 198) Tryz.func198 (by kernel_rfl) (by kernel_rfl) (by kernel_rfl) (by kernel_rfl) (envS_ok (envS_ok (envS_ok envN_ok (c_conciergeref09_Read_blanks F)) (c_conciergeref09_Read_is F)) (c_conciergeref09_Read_bad F)) hm (by kernel_rfl) (fun x r h => ⟨F, (t_conciergeref09_Read_more x F).trans h⟩)
noncomputable def s_conciergeref09_place : Spec Kd := { params := [(.a (.slc .str)), (.a .str)], ret := (.tup [(.a (.int .i64)), (.a .bool)]), pins := [], pl := { nt := 28, loops := [(0, ⟨[.tmp 0 (.a (.slc .str)), .tmp 1 (.a .str), .tmp 6 (.a (.int .i64))], [], []⟩, (.exit 0, ⟨[.tmp 0 (.a (.slc .str))], [], []⟩), [(.ret, ⟨[.tmp 4 (.a (.int .i64)), .tmp 5 (.a .bool)], [], []⟩)])], ends := [(5, ⟨[.tmp 4 (.a (.int .i64)), .tmp 5 (.a .bool)], [], []⟩)] }, rfrz := [], ts := [4, 5] }
noncomputable def e_conciergeref09_place (F : Nat) : Env El := envN
noncomputable def M_conciergeref09_place_l0 (F : Nat) (v0 : (List (List UInt8) × List UInt8 × Int × Unit)) : Option ((List (List UInt8) × List UInt8 × Int × Unit) ⊕ (List (List UInt8) × Unit ⊕ Int × Bool × Unit)) :=
 if decide (v0.2.2.1 < (↑v0.1.length : Int)) = true then
     (idx v0.1 v0.2.2.1).bind fun v1 =>
      if (!Op.bytesLess v1 v0.2.1) = true then
       ((idx v0.1 v0.2.2.1).bind fun v2 => some (v0.2.2.1, decide (v2 = v0.2.1), ())).bind fun v3 => some (Sum.inr (Sum.inr (v3.1, v3.2.1, ())))
      else some (Sum.inl (v0.1, v0.2.1, IntKind.i64.wrap (v0.2.2.1 + 1), ()))
    else some (Sum.inr (Sum.inl (v0.1, ())))
noncomputable def M_conciergeref09_place (F : Nat) (x : (List (El .str)) × (List UInt8)) : Option ((Int) × (Bool)) :=
 (loopM (M_conciergeref09_place_l0 F)
    F (x.1, x.2, 0, ())).bind
  fun v4 => sumC v4 (fun v5 => some ((↑v5.1.length : Int), false)) fun v6 => some (v6.1, v6.2.1)
theorem t_conciergeref09_place (x : (List (El .str)) × (List UInt8)) (F : Nat) : fnRun TT Tryz.prog (e_conciergeref09_place F) s_conciergeref09_place (bodyOf 224) F x = M_conciergeref09_place F x := by kernel_rfl
theorem c_conciergeref09_place (F : Nat) : Ctr TT Tryz.prog 224 (conOf TT s_conciergeref09_place (M_conciergeref09_place F)) :=
 ctr_of (code := bodyOf 224) Tryz.func224 (by kernel_rfl) (by kernel_rfl) (by kernel_rfl) (by kernel_rfl) envN_ok hm (by kernel_rfl) (fun x r h => ⟨F, (t_conciergeref09_place x F).trans h⟩)
noncomputable def s_conciergeref09_put : Spec Kd := { params := [(.a (.slc .str)), (.a (.int .i64)), (.a .str)], ret := (.one (.a (.slc .str))), pins := [], pl := { nt := 22, orc := { rv := [7, 8, 12, 13, 16], gv := [] } }, rfrz := [512], ts := [6] }
noncomputable def e_conciergeref09_put (F : Nat) : Env El := envN
noncomputable def M_conciergeref09_put (F : Nat) (x : (List (El .str)) × (Int) × (List UInt8)) : Option (List (El .str)) :=
 (sub x.1 0 x.2.1).bind fun v0 =>
  if decide ((0 + v0.length) * 16 ≤ 140737488355328) = true then
   if decide ((v0.length + [x.2.2].length) * 16 ≤ 140737488355328) = true then
    (sub x.1 x.2.1 (↑x.1.length : Int)).bind fun v1 =>
     if decide (((v0 ++ [x.2.2]).length + v1.length) * 16 ≤ 140737488355328) = true then some (v0 ++ [x.2.2] ++ v1) else none
   else none
  else none
theorem t_conciergeref09_put (x : (List (El .str)) × (Int) × (List UInt8)) (F : Nat) : fnRun TT Tryz.prog (e_conciergeref09_put F) s_conciergeref09_put (bodyOf 225) F x = M_conciergeref09_put F x := by kernel_rfl
theorem c_conciergeref09_put (F : Nat) : Ctr TT Tryz.prog 225 (conOf TT s_conciergeref09_put (M_conciergeref09_put F)) :=
 ctr_of (code := bodyOf 225) Tryz.func225 (by kernel_rfl) (by kernel_rfl) (by kernel_rfl) (by kernel_rfl) envN_ok hm (by kernel_rfl) (fun x r h => ⟨F, (t_conciergeref09_put x F).trans h⟩)
end Go.Vm
