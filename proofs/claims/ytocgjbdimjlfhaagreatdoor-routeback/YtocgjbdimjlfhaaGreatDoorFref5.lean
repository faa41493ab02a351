/- Models of functions of the program, and that each keeps its contract: for all arguments of its shape. No condition. -/
import Derived.Test.YtocgjbdimjlfhaaGreatDoorKt
import Derived.Test.YtocgjbdimjlfhaaGreatDoorFref4
namespace Go.Vm
open Go.Proofs
set_option linter.unusedVariables false
noncomputable def s_conciergeref05_Method : Spec Kd := { params := [(.a .str)], ret := (.tup [(.a .str), (.a .bool)]), pins := [], pl := { nt := 44, joins := [(1000029, (.norm, ⟨[.tmp 0 (.a .str), .tmp 4 (.a .str), .tmp 5 (.a (.int .i64)), .tmp 6 (.a (.int .u8))], [], []⟩), [])], loops := [(0, ⟨[.tmp 0 (.a .str), .tmp 4 (.a .str), .tmp 5 (.a (.int .i64))], [], []⟩, (.exit 0, ⟨[.tmp 4 (.a .str)], [], []⟩), [(.ret, ⟨[.tmp 2 (.a .str), .tmp 3 (.a .bool)], [], []⟩)])], cuts := [(10, [(6, ⟨[.tmp 0 (.a .str), .tmp 4 (.a .str), .tmp 5 (.a (.int .i64)), .tmp 6 (.a (.int .u8)), .tmp 37 (.a .bool)], [], []⟩)]), (8, [(6, ⟨[.tmp 0 (.a .str), .tmp 4 (.a .str), .tmp 5 (.a (.int .i64)), .tmp 6 (.a (.int .u8)), .tmp 29 (.a .bool)], [], []⟩)]), (1, [(8, ⟨[.tmp 0 (.a .str), .tmp 14 (.a .bool)], [], []⟩)])] }, rfrz := [], ts := [2, 3] }
noncomputable def e_conciergeref05_Method (F : Nat) : Env El := envN
noncomputable def M_conciergeref05_Method_l0 (F : Nat) (v1 : (List UInt8 × List UInt8 × Int × Unit)) : Option ((List UInt8 × List UInt8 × Int × Unit) ⊕ (List UInt8 × Unit ⊕ List UInt8 × Bool × Unit)) :=
  if decide (v1.2.2.1 < (↑v1.1.length : Int)) = true then
              (idx v1.1 v1.2.2.1).bind fun v2 =>
                (if decide (97 ≤ (↑v2.toNat : Int)) = true then some (v1.1, v1.2.1, v1.2.2.1, (↑v2.toNat : Int), decide ((↑v2.toNat : Int) ≤ 122), ())
                    else some (v1.1, v1.2.1, v1.2.2.1, (↑v2.toNat : Int), false, ())).bind
                  fun v3 =>
                  (if v3.2.2.2.2.1 = true then some (v3.1, v3.2.1, v3.2.2.1, IntKind.u8.wrap (v3.2.2.2.1 - 32), ())
                      else some (v3.1, v3.2.1, v3.2.2.1, v3.2.2.2.1, ())).bind
                    fun v4 =>
                    (if decide (v4.2.2.2.1 < 65) = false then some (v4.1, v4.2.1, v4.2.2.1, v4.2.2.2.1, decide (90 < v4.2.2.2.1), ())
                        else some (v4.1, v4.2.1, v4.2.2.1, v4.2.2.2.1, true, ())).bind
                      fun v5 =>
                      if v5.2.2.2.2.1 = true then some (Sum.inr (Sum.inr ([], false, ())))
                      else
                        if decide (v5.2.1.length + [UInt8.ofNat v5.2.2.2.1.toNat].length ≤ 9223372036854775807) = true then
                          some (Sum.inl (v5.1, v5.2.1 ++ [UInt8.ofNat v5.2.2.2.1.toNat], IntKind.i64.wrap (v5.2.2.1 + 1), ()))
                        else none
            else some (Sum.inr (Sum.inl (v1.2.1, ())))
noncomputable def M_conciergeref05_Method (F : Nat) (x : (List UInt8)) : Option ((List UInt8) × (Bool)) :=
  (if decide ((↑x.length : Int) < 1) = false then some (x, decide (8 < (↑x.length : Int)), ()) else some (x, true, ())).bind fun v0 =>
    if v0.2.1 = true then some ([], false)
    else
      (loopM (M_conciergeref05_Method_l0 F)
            F (v0.1, [], 0, ())).bind
        fun v6 => sumC v6 (fun v7 => some (v7.1, true)) fun v8 => some (v8.1, v8.2.1)
theorem t_conciergeref05_Method (x : (List UInt8)) (F : Nat) : fnRun TT Tryz.prog (e_conciergeref05_Method F) s_conciergeref05_Method (bodyOf 104) F x = M_conciergeref05_Method F x := by kernel_rfl
theorem c_conciergeref05_Method (F : Nat) : Ctr TT Tryz.prog 104 (conOf TT s_conciergeref05_Method (M_conciergeref05_Method F)) :=
  ctr_of (code := bodyOf 104) Tryz.func104 (by kernel_rfl) (by kernel_rfl) (by kernel_rfl) (by kernel_rfl) envN_ok hm (by kernel_rfl) (fun x r h => ⟨F, (t_conciergeref05_Method x F).trans h⟩)
noncomputable def s_conciergeref05_digit : Spec Kd := { params := [(.a (.int .u8))], ret := (.one (.a (.int .i64))), pins := [], pl := { nt := 32, cuts := [(5, [(6, ⟨[.tmp 0 (.a (.int .u8)), .tmp 27 (.a .bool)], [], []⟩)]), (3, [(6, ⟨[.tmp 0 (.a (.int .u8)), .tmp 17 (.a .bool)], [], []⟩)]), (1, [(6, ⟨[.tmp 0 (.a (.int .u8)), .tmp 8 (.a .bool)], [], []⟩)])] }, rfrz := [], ts := [2] }
noncomputable def e_conciergeref05_digit (F : Nat) : Env El := envN
noncomputable def M_conciergeref05_digit (F : Nat) (x : (Int)) : Option (Int) :=
  (if decide (48 ≤ x) = true then some (x, decide (x ≤ 57), ()) else some (x, false, ())).bind fun v0 =>
    if v0.2.1 = true then some (IntKind.i64.wrap (IntKind.i64.wrap v0.1 - 48))
    else
      (if decide (65 ≤ v0.1) = true then some (v0.1, decide (v0.1 ≤ 70), ()) else some (v0.1, false, ())).bind fun v1 =>
        if v1.2.1 = true then some (IntKind.i64.wrap (IntKind.i64.wrap (IntKind.i64.wrap v1.1 - 65) + 10))
        else
          (if decide (97 ≤ v1.1) = true then some (v1.1, decide (v1.1 ≤ 102), ()) else some (v1.1, false, ())).bind fun v2 =>
            if v2.2.1 = true then some (IntKind.i64.wrap (IntKind.i64.wrap (IntKind.i64.wrap v2.1 - 97) + 10)) else some (-1)
theorem t_conciergeref05_digit (x : (Int)) (F : Nat) : fnRun TT Tryz.prog (e_conciergeref05_digit F) s_conciergeref05_digit (bodyOf 178) F x = M_conciergeref05_digit F x := by kernel_rfl
theorem c_conciergeref05_digit (F : Nat) : Ctr TT Tryz.prog 178 (conOf TT s_conciergeref05_digit (M_conciergeref05_digit F)) :=
  ctr_of (code := bodyOf 178) Tryz.func178 (by kernel_rfl) (by kernel_rfl) (by kernel_rfl) (by kernel_rfl) envN_ok hm (by kernel_rfl) (fun x r h => ⟨F, (t_conciergeref05_digit x F).trans h⟩)
noncomputable def s_conciergeref05_read : Spec Kd := { params := [(.a .str)], ret := (.tup [(.a .str), (.a .bool)]), pins := [], pl := { nt := 70, bjoins := [(1, (.norm, ⟨[.tmp 0 (.a .str), .tmp 4 (.a .str), .tmp 5 (.a (.int .i64))], [], []⟩), [(.ret, ⟨[.tmp 2 (.a .str), .tmp 3 (.a .bool)], [], []⟩)])], loops := [(0, ⟨[.tmp 0 (.a .str), .tmp 4 (.a .str), .tmp 5 (.a (.int .i64))], [], []⟩, (.exit 0, ⟨[.tmp 4 (.a .str)], [], []⟩), [(.ret, ⟨[.tmp 2 (.a .str), .tmp 3 (.a .bool)], [], []⟩)])], cuts := [(11, [(7, ⟨[.tmp 63 (.a .str), .tmp 69 (.a .bool)], [], []⟩)]), (7, [(13, ⟨[.tmp 0 (.a .str), .tmp 4 (.a .str), .tmp 5 (.a (.int .i64)), .tmp 35 (.a .bool)], [], []⟩), (8, ⟨[.tmp 0 (.a .str), .tmp 4 (.a .str), .tmp 5 (.a (.int .i64)), .tmp 43 (.a .bool)], [], []⟩)])], ends := [(9, ⟨[.tmp 0 (.a .str), .tmp 4 (.a .str), .tmp 5 (.a (.int .i64))], [], []⟩)] }, rfrz := [], ts := [2, 3] }
noncomputable def e_conciergeref05_read (F : Nat) : Env El := (envS 53 (conOf TT s_conciergeref04_Right (M_conciergeref04_Right F)) (envS 178 (conOf TT s_conciergeref05_digit (M_conciergeref05_digit F)) envN))
noncomputable def M_conciergeref05_read_l0 (F : Nat) (v0 : (List UInt8 × List UInt8 × Int × Unit)) : Option ((List UInt8 × List UInt8 × Int × Unit) ⊕ (List UInt8 × Unit ⊕ List UInt8 × Bool × Unit)) :=
  if decide (v0.2.2.1 < (↑v0.1.length : Int)) = true then
          ((idx v0.1 v0.2.2.1).bind fun v1 =>
                if (!decide ((↑v1.toNat : Int) = 37)) = true then
                  (sub v0.1 v0.2.2.1 (IntKind.i64.wrap (v0.2.2.1 + 1))).bind fun v2 =>
                    if decide (v0.2.1.length + v2.length ≤ 9223372036854775807) = true then some (Sum.inl (v0.1, v0.2.1 ++ v2, v0.2.2.1, ())) else none
                else
                  (if decide ((↑v0.1.length : Int) ≤ IntKind.i64.wrap (v0.2.2.1 + 2)) = false then
                        (idx v0.1 (IntKind.i64.wrap (v0.2.2.1 + 1))).bind fun v3 =>
                          (M_conciergeref05_digit F (↑v3.toNat : Int)).bind fun v4 => some (v0.1, v0.2.1, v0.2.2.1, decide (v4 < 0), ())
                      else some (v0.1, v0.2.1, v0.2.2.1, true, ())).bind
                    fun v5 =>
                    (if v5.2.2.2.1 = false then
                          (idx v5.1 (IntKind.i64.wrap (v5.2.2.1 + 2))).bind fun v6 =>
                            (M_conciergeref05_digit F (↑v6.toNat : Int)).bind fun v7 => some (v5.1, v5.2.1, v5.2.2.1, decide (v7 < 0), ())
                        else some (v5.1, v5.2.1, v5.2.2.1, true, ())).bind
                      fun v8 =>
                      if v8.2.2.2.1 = true then some (Sum.inr ([], false, ()))
                      else
                        ((idx v8.1 (IntKind.i64.wrap (v8.2.2.1 + 1))).bind fun v9 =>
                              (M_conciergeref05_digit F (↑v9.toNat : Int)).bind fun v10 =>
                                (idx v8.1 (IntKind.i64.wrap (v8.2.2.1 + 2))).bind fun v11 =>
                                  (M_conciergeref05_digit F (↑v11.toNat : Int)).bind fun v12 =>
                                    if
                                        decide
                                            (v8.2.1.length +
                                                [UInt8.ofNat (IntKind.u8.wrap (IntKind.i64.wrap (IntKind.i64.wrap (v10 * 16) + v12))).toNat].length ≤
                                              9223372036854775807) =
                                          true then
                                      some
                                        (v8.1, v8.2.1 ++ [UInt8.ofNat (IntKind.u8.wrap (IntKind.i64.wrap (IntKind.i64.wrap (v10 * 16) + v12))).toNat], v8.2.2.1,
                                          ())
                                    else none).bind
                          fun v13 => some (Sum.inl (v13.1, v13.2.1, IntKind.i64.wrap (v13.2.2.1 + 2), ()))).bind
            fun v14 =>
            sumC v14 (fun v15 => some (Sum.inl (v15.1, v15.2.1, IntKind.i64.wrap (v15.2.2.1 + 1), ()))) fun v16 => some (Sum.inr (Sum.inr (v16.1, v16.2.1, ())))
        else some (Sum.inr (Sum.inl (v0.2.1, ())))
noncomputable def M_conciergeref05_read (F : Nat) (x : (List UInt8)) : Option ((List UInt8) × (Bool)) :=
  (loopM (M_conciergeref05_read_l0 F)
        F (x, [], 0, ())).bind
    fun v17 =>
    sumC v17
      (fun v18 =>
        (if decide (v18.1 = []) = false then (M_conciergeref04_Right F (v18.1, 60)).bind fun v19 => some (v18.1, v19, ()) else some (v18.1, true, ())).bind
          fun v20 => some (v20.1, v20.2.1))
      fun v21 => some (v21.1, v21.2.1)
theorem t_conciergeref05_read (x : (List UInt8)) (F : Nat) : fnRun TT Tryz.prog (e_conciergeref05_read F) s_conciergeref05_read (bodyOf 139) F x = M_conciergeref05_read F x := by kernel_rfl
theorem c_conciergeref05_read (F : Nat) : Ctr TT Tryz.prog 139 (conOf TT s_conciergeref05_read (M_conciergeref05_read F)) :=
  ctr_of (code := bodyOf 139) Tryz.func139 (by kernel_rfl) (by kernel_rfl) (by kernel_rfl) (by kernel_rfl) (envS_ok (envS_ok envN_ok (c_conciergeref05_digit F)) (c_conciergeref04_Right F)) hm (by kernel_rfl) (fun x r h => ⟨F, (t_conciergeref05_read x F).trans h⟩)
noncomputable def s_conciergeref05_hex : Spec Kd := { params := [(.a (.int .i64))], ret := (.one (.a .str)), pins := [], pl := { nt := 16 }, rfrz := [], ts := [2] }
noncomputable def e_conciergeref05_hex (F : Nat) : Env El := envN
noncomputable def M_conciergeref05_hex (F : Nat) (x : (Int)) : Option (List UInt8) :=
  if decide (x < 10) = true then some [UInt8.ofNat (IntKind.u8.wrap (IntKind.i64.wrap (48 + x))).toNat]
  else some [UInt8.ofNat (IntKind.u8.wrap (IntKind.i64.wrap (IntKind.i64.wrap (65 + x) - 10))).toNat]
theorem t_conciergeref05_hex (x : (Int)) (F : Nat) : fnRun TT Tryz.prog (e_conciergeref05_hex F) s_conciergeref05_hex (bodyOf 179) F x = M_conciergeref05_hex F x := by kernel_rfl
theorem c_conciergeref05_hex (F : Nat) : Ctr TT Tryz.prog 179 (conOf TT s_conciergeref05_hex (M_conciergeref05_hex F)) :=
  ctr_of (code := bodyOf 179) Tryz.func179 (by kernel_rfl) (by kernel_rfl) (by kernel_rfl) (by kernel_rfl) envN_ok hm (by kernel_rfl) (fun x r h => ⟨F, (t_conciergeref05_hex x F).trans h⟩)
noncomputable def s_conciergeref05_write : Spec Kd := { params := [(.a .str)], ret := (.one (.a .str)), pins := [], pl := { nt := 73, bjoins := [(1, (.norm, ⟨[.tmp 0 (.a .str), .tmp 3 (.a .str), .tmp 4 (.a (.int .i64))], [], []⟩), [])], loops := [(0, ⟨[.tmp 0 (.a .str), .tmp 3 (.a .str), .tmp 4 (.a (.int .i64))], [], []⟩, (.exit 0, ⟨[.tmp 3 (.a .str)], [], []⟩), [])], cuts := [(6, [(6, ⟨[.tmp 0 (.a .str), .tmp 3 (.a .str), .tmp 4 (.a (.int .i64)), .tmp 5 (.a (.int .u8)), .tmp 20 (.a .bool)], [], []⟩), (8, ⟨[.tmp 0 (.a .str), .tmp 3 (.a .str), .tmp 4 (.a (.int .i64)), .tmp 5 (.a (.int .u8)), .tmp 28 (.a .bool)], [], []⟩), (8, ⟨[.tmp 0 (.a .str), .tmp 3 (.a .str), .tmp 4 (.a (.int .i64)), .tmp 5 (.a (.int .u8)), .tmp 36 (.a .bool)], [], []⟩), (4, ⟨[.tmp 0 (.a .str), .tmp 3 (.a .str), .tmp 4 (.a (.int .i64)), .tmp 5 (.a (.int .u8)), .tmp 40 (.a .bool)], [], []⟩), (4, ⟨[.tmp 0 (.a .str), .tmp 3 (.a .str), .tmp 4 (.a (.int .i64)), .tmp 5 (.a (.int .u8)), .tmp 44 (.a .bool)], [], []⟩), (4, ⟨[.tmp 0 (.a .str), .tmp 3 (.a .str), .tmp 4 (.a (.int .i64)), .tmp 5 (.a (.int .u8)), .tmp 48 (.a .bool)], [], []⟩), (4, ⟨[.tmp 0 (.a .str), .tmp 3 (.a .str), .tmp 4 (.a (.int .i64)), .tmp 5 (.a (.int .u8)), .tmp 52 (.a .bool)], [], []⟩)])] }, rfrz := [], ts := [2] }
noncomputable def e_conciergeref05_write (F : Nat) : Env El := (envS 179 (conOf TT s_conciergeref05_hex (M_conciergeref05_hex F)) envN)
noncomputable def M_conciergeref05_write_l0 (F : Nat) (v0 : (List UInt8 × List UInt8 × Int × Unit)) : Option ((List UInt8 × List UInt8 × Int × Unit) ⊕ (List UInt8 × Unit)) :=
  if decide (v0.2.2.1 < (↑v0.1.length : Int)) = true then
          ((idx v0.1 v0.2.2.1).bind fun v1 =>
                (if decide (65 ≤ (↑v1.toNat : Int)) = true then some (v0.1, v0.2.1, v0.2.2.1, (↑v1.toNat : Int), decide ((↑v1.toNat : Int) ≤ 90), ())
                    else some (v0.1, v0.2.1, v0.2.2.1, (↑v1.toNat : Int), false, ())).bind
                  fun v2 =>
                  (if v2.2.2.2.2.1 = false then
                        if decide (97 ≤ v2.2.2.2.1) = true then some (v2.1, v2.2.1, v2.2.2.1, v2.2.2.2.1, decide (v2.2.2.2.1 ≤ 122), ())
                        else some (v2.1, v2.2.1, v2.2.2.1, v2.2.2.2.1, false, ())
                      else some (v2.1, v2.2.1, v2.2.2.1, v2.2.2.2.1, true, ())).bind
                    fun v3 =>
                    (if v3.2.2.2.2.1 = false then
                          if decide (48 ≤ v3.2.2.2.1) = true then some (v3.1, v3.2.1, v3.2.2.1, v3.2.2.2.1, decide (v3.2.2.2.1 ≤ 57), ())
                          else some (v3.1, v3.2.1, v3.2.2.1, v3.2.2.2.1, false, ())
                        else some (v3.1, v3.2.1, v3.2.2.1, v3.2.2.2.1, true, ())).bind
                      fun v4 =>
                      (if v4.2.2.2.2.1 = false then some (v4.1, v4.2.1, v4.2.2.1, v4.2.2.2.1, decide (v4.2.2.2.1 = 45), ())
                          else some (v4.1, v4.2.1, v4.2.2.1, v4.2.2.2.1, true, ())).bind
                        fun v5 =>
                        (if v5.2.2.2.2.1 = false then some (v5.1, v5.2.1, v5.2.2.1, v5.2.2.2.1, decide (v5.2.2.2.1 = 46), ())
                            else some (v5.1, v5.2.1, v5.2.2.1, v5.2.2.2.1, true, ())).bind
                          fun v6 =>
                          (if v6.2.2.2.2.1 = false then some (v6.1, v6.2.1, v6.2.2.1, v6.2.2.2.1, decide (v6.2.2.2.1 = 95), ())
                              else some (v6.1, v6.2.1, v6.2.2.1, v6.2.2.2.1, true, ())).bind
                            fun v7 =>
                            (if v7.2.2.2.2.1 = false then some (v7.1, v7.2.1, v7.2.2.1, v7.2.2.2.1, decide (v7.2.2.2.1 = 126), ())
                                else some (v7.1, v7.2.1, v7.2.2.1, v7.2.2.2.1, true, ())).bind
                              fun v8 =>
                              if v8.2.2.2.2.1 = true then
                                (sub v8.1 v8.2.2.1 (IntKind.i64.wrap (v8.2.2.1 + 1))).bind fun v9 =>
                                  if decide (v8.2.1.length + v9.length ≤ 9223372036854775807) = true then some (v8.1, v8.2.1 ++ v9, v8.2.2.1, ()) else none
                              else
                                if decide (v8.2.1.length + [37].length ≤ 9223372036854775807) = true then
                                  (M_conciergeref05_hex F (IntKind.i64.wrap ((IntKind.i64.wrap v8.2.2.2.1).tdiv 16))).bind fun v10 =>
                                    if decide ((v8.2.1 ++ [37]).length + v10.length ≤ 9223372036854775807) = true then
                                      (M_conciergeref05_hex F ((IntKind.i64.wrap v8.2.2.2.1).tmod 16)).bind fun v11 =>
                                        if decide ((v8.2.1 ++ [37] ++ v10).length + v11.length ≤ 9223372036854775807) = true then
                                          some (v8.1, v8.2.1 ++ [37] ++ v10 ++ v11, v8.2.2.1, ())
                                        else none
                                    else none
                                else none).bind
            fun v12 => some (Sum.inl (v12.1, v12.2.1, IntKind.i64.wrap (v12.2.2.1 + 1), ()))
        else some (Sum.inr (v0.2.1, ()))
noncomputable def M_conciergeref05_write (F : Nat) (x : (List UInt8)) : Option (List UInt8) :=
  (loopM (M_conciergeref05_write_l0 F)
        F (x, [], 0, ())).bind
    fun v13 => some v13.1
theorem t_conciergeref05_write (x : (List UInt8)) (F : Nat) : fnRun TT Tryz.prog (e_conciergeref05_write F) s_conciergeref05_write (bodyOf 140) F x = M_conciergeref05_write F x := by kernel_rfl
theorem c_conciergeref05_write (F : Nat) : Ctr TT Tryz.prog 140 (conOf TT s_conciergeref05_write (M_conciergeref05_write F)) :=
  ctr_of (code := bodyOf 140) Tryz.func140 (by kernel_rfl) (by kernel_rfl) (by kernel_rfl) (by kernel_rfl) (envS_ok envN_ok (c_conciergeref05_hex F)) hm (by kernel_rfl) (fun x r h => ⟨F, (t_conciergeref05_write x F).trans h⟩)
noncomputable def s_conciergeref05_Path : Spec Kd := { params := [(.a .str)], ret := (.tup [(.a .str), (.a .bool)]), pins := [], pl := { nt := 93, orc := { rv := [4, 68, 69, 72], gv := [] }, joins := [(2600088, (.norm, ⟨[.tmp 9 (.a .str)], [], []⟩), [])], loops := [(4, ⟨[.tmp 4 (.a (.rowp 256)), .tmp 9 (.a .str), .tmp 10 (.a (.int .i64)), .box 256 (.row 9 .str)], [], [.tmpRow 4 256 9 .str]⟩, (.exit 4, ⟨[.tmp 9 (.a .str)], [], []⟩), []), (2, ⟨[.tmp 0 (.a .str), .tmp 4 (.a (.rowp 256)), .tmp 5 (.a (.int .i64)), .tmp 6 (.a (.int .i64)), .box 256 (.row 9 .str)], [], [.tmpRow 4 256 9 .str]⟩, (.exit 2, ⟨[.tmp 0 (.a .str), .tmp 4 (.a (.rowp 256)), .tmp 5 (.a (.int .i64)), .tmp 6 (.a (.int .i64)), .box 256 (.row 9 .str)], [], [.tmpRow 4 256 9 .str]⟩), []), (0, ⟨[.tmp 0 (.a .str), .tmp 4 (.a (.rowp 256)), .tmp 5 (.a (.int .i64)), .box 256 (.row 9 .str)], [], [.tmpRow 4 256 9 .str]⟩, (.exit 0, ⟨[.tmp 4 (.a (.rowp 256)), .box 256 (.row 9 .str)], [], [.tmpRow 4 256 9 .str]⟩), [(.ret, ⟨[.tmp 2 (.a .str), .tmp 3 (.a .bool)], [], []⟩)])], cuts := [(13, [(6, ⟨[.tmp 0 (.a .str), .tmp 4 (.a (.rowp 256)), .tmp 5 (.a (.int .i64)), .tmp 7 (.a .str), .tmp 58 (.a .bool), .box 256 (.row 9 .str)], [], [.tmpRow 4 256 9 .str]⟩)]), (9, [(10, ⟨[.tmp 0 (.a .str), .tmp 4 (.a (.rowp 256)), .tmp 6 (.a (.int .i64)), .tmp 7 (.a .str), .tmp 8 (.a .bool), .box 256 (.row 9 .str)], [], [.tmpRow 4 256 9 .str]⟩)]), (7, [(10, ⟨[.tmp 0 (.a .str), .tmp 4 (.a (.rowp 256)), .tmp 5 (.a (.int .i64)), .tmp 6 (.a (.int .i64)), .tmp 38 (.a .bool), .box 256 (.row 9 .str)], [], [.tmpRow 4 256 9 .str]⟩)]), (1, [(8, ⟨[.tmp 0 (.a .str), .tmp 18 (.a .bool)], [], []⟩), (5, ⟨[.tmp 0 (.a .str), .tmp 23 (.a .bool)], [], []⟩)])] }, rfrz := [], ts := [2, 3] }
noncomputable def e_conciergeref05_Path (F : Nat) : Env El := (envS 140 (conOf TT s_conciergeref05_write (M_conciergeref05_write F)) (envS 139 (conOf TT s_conciergeref05_read (M_conciergeref05_read F)) envN))
noncomputable def M_conciergeref05_Path_l0 (F : Nat) (v4 : (List UInt8 × Unit × Int × Int × List (List UInt8) × Unit)) : Option ((List UInt8 × Unit × Int × Int × List (List UInt8) × Unit) ⊕ (List UInt8 × Unit × Int × Int × List (List UInt8) × Unit)) :=
  (if decide (v4.2.2.2.1 < (↑v4.1.length : Int)) = true then
                              (idx v4.1 v4.2.2.2.1).bind fun v5 => some (v4.1, (), v4.2.2.1, v4.2.2.2.1, !decide ((↑v5.toNat : Int) = 47), v4.2.2.2.2.1, ())
                            else some (v4.1, (), v4.2.2.1, v4.2.2.2.1, false, v4.2.2.2.2.1, ())).bind
                          fun v6 =>
                          if v6.2.2.2.2.1 = true then some (Sum.inl (v6.1, (), v6.2.2.1, IntKind.i64.wrap (v6.2.2.2.1 + 1), v6.2.2.2.2.2.1, ()))
                          else some (Sum.inr (v6.1, (), v6.2.2.1, v6.2.2.2.1, v6.2.2.2.2.2.1, ()))
noncomputable def M_conciergeref05_Path_l1 (F : Nat) (v3 : (List UInt8 × Unit × Int × List (List UInt8) × Unit)) : Option ((List UInt8 × Unit × Int × List (List UInt8) × Unit) ⊕ (Unit × List (List UInt8) × Unit ⊕ List UInt8 × Bool × Unit)) :=
  if decide (v3.2.2.1 ≤ (↑v3.1.length : Int)) = true then
                (loopM (M_conciergeref05_Path_l0 F)
                      F (v3.1, (), v3.2.2.1, v3.2.2.1, v3.2.2.2.1, ())).bind
                  fun v7 =>
                  ((sub v7.1 v7.2.2.1 v7.2.2.2.1).bind fun v8 =>
                        (M_conciergeref05_read F v8).bind fun v9 => some (v7.1, (), v7.2.2.2.1, v9.1, v9.2, v7.2.2.2.2.1, ())).bind
                    fun v10 =>
                    if (!v10.2.2.2.2.1) = true then some (Sum.inr (Sum.inr ([], false, ())))
                    else
                      (if decide (v10.2.2.2.1 = []) = false then
                            some (v10.1, (), IntKind.i64.wrap (v10.2.2.1 + 1), v10.2.2.2.1, decide (v10.2.2.2.1 = [46]), v10.2.2.2.2.2.1, ())
                          else some (v10.1, (), IntKind.i64.wrap (v10.2.2.1 + 1), v10.2.2.2.1, true, v10.2.2.2.2.2.1, ())).bind
                        fun v11 =>
                        if v11.2.2.2.2.1 = true then some (Sum.inl (v11.1, (), v11.2.2.1, v11.2.2.2.2.2.1, ()))
                        else
                          if decide (v11.2.2.2.1 = [46, 46]) = true then
                            if decide ((↑v11.2.2.2.2.2.1.length : Int) = 0) = true then some (Sum.inr (Sum.inr ([], false, ())))
                            else
                              if
                                  (decide (0 ≤ IntKind.i64.wrap ((↑v11.2.2.2.2.2.1.length : Int) - 1)) &&
                                      decide (IntKind.i64.wrap ((↑v11.2.2.2.2.2.1.length : Int) - 1) ≤ (↑v11.2.2.2.2.2.1.length : Int))) =
                                    true then
                                some
                                  (Sum.inl (v11.1, (), v11.2.2.1, List.take (IntKind.i64.wrap ((↑v11.2.2.2.2.2.1.length : Int) - 1)).toNat v11.2.2.2.2.2.1, ()))
                              else none
                          else
                            if decide ((v11.2.2.2.2.2.1.length + [v11.2.2.2.1].length) * 16 ≤ 140737488355328) = true then
                              some (Sum.inl (v11.1, (), v11.2.2.1, v11.2.2.2.2.2.1 ++ [v11.2.2.2.1], ()))
                            else none
              else some (Sum.inr (Sum.inl ((), v3.2.2.2.1, ())))
noncomputable def M_conciergeref05_Path_l2 (F : Nat) (v14 : (Unit × List UInt8 × Int × List (List UInt8) × Unit)) : Option ((Unit × List UInt8 × Int × List (List UInt8) × Unit) ⊕ (List UInt8 × Unit)) :=
  if decide (v14.2.2.1 < (↑v14.2.2.2.1.length : Int)) = true then
                      if decide (v14.2.1.length + [47].length ≤ 9223372036854775807) = true then
                        (idx v14.2.2.2.1 v14.2.2.1).bind fun v15 =>
                          (M_conciergeref05_write F v15).bind fun v16 =>
                            if decide ((v14.2.1 ++ [47]).length + v16.length ≤ 9223372036854775807) = true then
                              some (Sum.inl ((), v14.2.1 ++ [47] ++ v16, IntKind.i64.wrap (v14.2.2.1 + 1), v14.2.2.2.1, ()))
                            else none
                      else none
                    else some (Sum.inr (v14.2.1, ()))
noncomputable def M_conciergeref05_Path (F : Nat) (x : (List UInt8)) : Option ((List UInt8) × (Bool)) :=
  (if decide ((↑x.length : Int) < 1) = false then some (x, decide (60 < (↑x.length : Int)), ()) else some (x, true, ())).bind fun v0 =>
    (if v0.2.1 = false then (idx v0.1 0).bind fun v1 => some (v0.1, !decide ((↑v1.toNat : Int) = 47), ()) else some (v0.1, true, ())).bind fun v2 =>
      if v2.2.1 = true then some ([], false)
      else
        (loopM (M_conciergeref05_Path_l1 F)
              F (v2.1, (), 1, [], ())).bind
          fun v12 =>
          sumC v12
            (fun v13 =>
              (loopM (M_conciergeref05_Path_l2 F)
                    F ((), [], 0, v13.2.1, ())).bind
                fun v17 =>
                (if decide (v17.1 = []) = true then some ([47], ()) else some (v17.1, ())).bind fun v18 =>
                  if decide (60 < (↑v18.1.length : Int)) = true then some ([], false) else some (v18.1, true))
            fun v19 => some (v19.1, v19.2.1)
theorem t_conciergeref05_Path (x : (List UInt8)) (F : Nat) : fnRun TT Tryz.prog (e_conciergeref05_Path F) s_conciergeref05_Path (bodyOf 101) F x = M_conciergeref05_Path F x := by kernel_rfl
theorem c_conciergeref05_Path (F : Nat) : Ctr TT Tryz.prog 101 (conOf TT s_conciergeref05_Path (M_conciergeref05_Path F)) :=
  ctr_of (code := bodyOf 101) Tryz.func101 (by kernel_rfl) (by kernel_rfl) (by kernel_rfl) (by kernel_rfl) (envS_ok (envS_ok envN_ok (c_conciergeref05_read F)) (c_conciergeref05_write F)) hm (by kernel_rfl) (fun x r h => ⟨F, (t_conciergeref05_Path x F).trans h⟩)
end Go.Vm
