/- Models of functions of the program, and that each keeps its contract: for all arguments of its shape. No condition. -/
import Derived.Test.YtmbnnjpdpginlaaGreatDoorKt
import Derived.Test.YtmbnnjpdpginlaaGreatDoorFref5
namespace Go.Vm
open Go.Proofs
set_option linter.unusedVariables false
noncomputable def s_conciergeref14_named : Spec Kd := { params := [(.agg [(.int .i64), .str, (.int .i64), (.int .i64), (.int .i64), (.int .i64), .str, (.int .i64), (.int .i64), (.int .i64), .str, .str, .str, .str])], ret := (.one (.a .bool)), pins := [], pl := { nt := 16, cuts := [(1, [(8, ⟨[.tmp 1 (.a (.ptr 64 0)), .tmp 10 (.a .bool), .box 64 (.cells 40 [(.int .i64), .str, (.int .i64), (.int .i64), (.int .i64), (.int .i64), .str, (.int .i64), (.int .i64), (.int .i64), .str, .str, .str, .str])], [], []⟩), (5, ⟨[.tmp 15 (.a .bool)], [], []⟩)])] }, rfrz := [], ts := [2] }
noncomputable def e_conciergeref14_named (F : Nat) : Env El := (envS 78 (conOf TT s_conciergeref05_Key (M_conciergeref05_Key F)) envN)
/-- concierge/conciergeref14.named -/
noncomputable def M_conciergeref14_named (F : Nat) (x : ((Int) × (List UInt8) × (Int) × (Int) × (Int) × (Int) × (List UInt8) × (Int) × (Int) × (Int) × (List UInt8) × (List UInt8) × (List UInt8) × (List UInt8) × Unit)) : Option (Bool) :=
  (if decide (0 ≤ x.1) = true then some ((), decide (x.1 ≤ 3), x, ()) else some ((), false, x, ())).bind fun v0 =>
    (if v0.2.1 = true then (M_conciergeref05_Key F v0.2.2.1.2.1).bind fun v1 => some (v1, ()) else some (false, ())).bind fun v2 => some v2.1
theorem t_conciergeref14_named (x : ((Int) × (List UInt8) × (Int) × (Int) × (Int) × (Int) × (List UInt8) × (Int) × (Int) × (Int) × (List UInt8) × (List UInt8) × (List UInt8) × (List UInt8) × Unit)) (F : Nat) : fnRun TT Tryz.prog (e_conciergeref14_named F) s_conciergeref14_named (bodyOf 46) F x = M_conciergeref14_named F x := by kernel_rfl
theorem c_conciergeref14_named (F : Nat) : Ctr TT Tryz.prog 46 (conOf TT s_conciergeref14_named (M_conciergeref14_named F)) :=
  ctr_of (code := bodyOf 46) Tryz.func46 (by kernel_rfl) (by kernel_rfl) (by kernel_rfl) (by kernel_rfl) (envS_ok envN_ok (c_conciergeref05_Key F)) hm (by kernel_rfl) (fun x r h => ⟨F, (t_conciergeref14_named x F).trans h⟩)
theorem mo_conciergeref14_named {F F' : Nat} (h : F ≤ F') : ∀ v, Le (M_conciergeref14_named F v) (M_conciergeref14_named F' v) := by
  intro v
  unfold M_conciergeref14_named
  with_reducible repeat (first | (intro v) | exact Le.refl _ | exact h | exact mo_conciergeref05_Key h _ | apply Le.bind | apply Le.ite | apply Le.loop | apply Le.sumC)
noncomputable def s_conciergeref14_May : Spec Kd := { params := [(.agg [(.int .i64), .str, (.int .i64), (.int .i64), (.int .i64), (.int .i64), .str, (.int .i64), (.int .i64), (.int .i64), .str, .str, .str, .str])], ret := (.one (.a .bool)), pins := [], pl := { nt := 164, cuts := [(13, [(8, ⟨[.tmp 1 (.a (.ptr 64 0)), .tmp 158 (.a .bool), .box 64 (.cells 40 [(.int .i64), .str, (.int .i64), (.int .i64), (.int .i64), (.int .i64), .str, (.int .i64), (.int .i64), (.int .i64), .str, .str, .str, .str])], [], []⟩), (5, ⟨[.tmp 163 (.a .bool)], [], []⟩)]), (12, [(8, ⟨[.tmp 1 (.a (.ptr 64 0)), .tmp 139 (.a .bool), .box 64 (.cells 40 [(.int .i64), .str, (.int .i64), (.int .i64), (.int .i64), (.int .i64), .str, (.int .i64), (.int .i64), (.int .i64), .str, .str, .str, .str])], [], []⟩), (5, ⟨[.tmp 1 (.a (.ptr 64 0)), .tmp 144 (.a .bool), .box 64 (.cells 40 [(.int .i64), .str, (.int .i64), (.int .i64), (.int .i64), (.int .i64), .str, (.int .i64), (.int .i64), (.int .i64), .str, .str, .str, .str])], [], []⟩), (6, ⟨[.tmp 150 (.a .bool)], [], []⟩)]), (9, [(8, ⟨[.tmp 1 (.a (.ptr 64 0)), .tmp 118 (.a .bool), .box 64 (.cells 40 [(.int .i64), .str, (.int .i64), (.int .i64), (.int .i64), (.int .i64), .str, (.int .i64), (.int .i64), (.int .i64), .str, .str, .str, .str])], [], []⟩), (5, ⟨[.tmp 1 (.a (.ptr 64 0)), .tmp 123 (.a .bool), .box 64 (.cells 40 [(.int .i64), .str, (.int .i64), (.int .i64), (.int .i64), (.int .i64), .str, (.int .i64), (.int .i64), (.int .i64), .str, .str, .str, .str])], [], []⟩), (5, ⟨[.tmp 1 (.a (.ptr 64 0)), .tmp 128 (.a .bool), .box 64 (.cells 40 [(.int .i64), .str, (.int .i64), (.int .i64), (.int .i64), (.int .i64), .str, (.int .i64), (.int .i64), (.int .i64), .str, .str, .str, .str])], [], []⟩)]), (8, [(4, ⟨[.tmp 1 (.a (.ptr 64 0)), .tmp 3 (.a .str), .tmp 5 (.a .str), .tmp 82 (.a .bool), .box 64 (.cells 40 [(.int .i64), .str, (.int .i64), (.int .i64), (.int .i64), (.int .i64), .str, (.int .i64), (.int .i64), (.int .i64), .str, .str, .str, .str])], [], []⟩), (6, ⟨[.tmp 1 (.a (.ptr 64 0)), .tmp 5 (.a .str), .tmp 88 (.a .bool), .box 64 (.cells 40 [(.int .i64), .str, (.int .i64), (.int .i64), (.int .i64), (.int .i64), .str, (.int .i64), (.int .i64), (.int .i64), .str, .str, .str, .str])], [], []⟩), (6, ⟨[.tmp 1 (.a (.ptr 64 0)), .tmp 94 (.a .bool), .box 64 (.cells 40 [(.int .i64), .str, (.int .i64), (.int .i64), (.int .i64), (.int .i64), .str, (.int .i64), (.int .i64), (.int .i64), .str, .str, .str, .str])], [], []⟩), (6, ⟨[.tmp 1 (.a (.ptr 64 0)), .tmp 100 (.a .bool), .box 64 (.cells 40 [(.int .i64), .str, (.int .i64), (.int .i64), (.int .i64), (.int .i64), .str, (.int .i64), (.int .i64), (.int .i64), .str, .str, .str, .str])], [], []⟩), (5, ⟨[.tmp 1 (.a (.ptr 64 0)), .tmp 105 (.a .bool), .box 64 (.cells 40 [(.int .i64), .str, (.int .i64), (.int .i64), (.int .i64), (.int .i64), .str, (.int .i64), (.int .i64), (.int .i64), .str, .str, .str, .str])], [], []⟩), (5, ⟨[.tmp 110 (.a .bool)], [], []⟩)]), (3, [(8, ⟨[.tmp 1 (.a (.ptr 64 0)), .tmp 53 (.a .bool), .box 64 (.cells 40 [(.int .i64), .str, (.int .i64), (.int .i64), (.int .i64), (.int .i64), .str, (.int .i64), (.int .i64), (.int .i64), .str, .str, .str, .str])], [], []⟩), (5, ⟨[.tmp 1 (.a (.ptr 64 0)), .tmp 58 (.a .bool), .box 64 (.cells 40 [(.int .i64), .str, (.int .i64), (.int .i64), (.int .i64), (.int .i64), .str, (.int .i64), (.int .i64), (.int .i64), .str, .str, .str, .str])], [], []⟩), (5, ⟨[.tmp 1 (.a (.ptr 64 0)), .tmp 63 (.a .bool), .box 64 (.cells 40 [(.int .i64), .str, (.int .i64), (.int .i64), (.int .i64), (.int .i64), .str, (.int .i64), (.int .i64), (.int .i64), .str, .str, .str, .str])], [], []⟩)]), (1, [(8, ⟨[.tmp 1 (.a (.ptr 64 0)), .tmp 14 (.a .bool), .box 64 (.cells 40 [(.int .i64), .str, (.int .i64), (.int .i64), (.int .i64), (.int .i64), .str, (.int .i64), (.int .i64), (.int .i64), .str, .str, .str, .str])], [], []⟩), (5, ⟨[.tmp 1 (.a (.ptr 64 0)), .tmp 19 (.a .bool), .box 64 (.cells 40 [(.int .i64), .str, (.int .i64), (.int .i64), (.int .i64), (.int .i64), .str, (.int .i64), (.int .i64), (.int .i64), .str, .str, .str, .str])], [], []⟩), (5, ⟨[.tmp 1 (.a (.ptr 64 0)), .tmp 24 (.a .bool), .box 64 (.cells 40 [(.int .i64), .str, (.int .i64), (.int .i64), (.int .i64), (.int .i64), .str, (.int .i64), (.int .i64), (.int .i64), .str, .str, .str, .str])], [], []⟩), (5, ⟨[.tmp 1 (.a (.ptr 64 0)), .tmp 29 (.a .bool), .box 64 (.cells 40 [(.int .i64), .str, (.int .i64), (.int .i64), (.int .i64), (.int .i64), .str, (.int .i64), (.int .i64), (.int .i64), .str, .str, .str, .str])], [], []⟩), (5, ⟨[.tmp 1 (.a (.ptr 64 0)), .tmp 34 (.a .bool), .box 64 (.cells 40 [(.int .i64), .str, (.int .i64), (.int .i64), (.int .i64), (.int .i64), .str, (.int .i64), (.int .i64), (.int .i64), .str, .str, .str, .str])], [], []⟩), (5, ⟨[.tmp 1 (.a (.ptr 64 0)), .tmp 39 (.a .bool), .box 64 (.cells 40 [(.int .i64), .str, (.int .i64), (.int .i64), (.int .i64), (.int .i64), .str, (.int .i64), (.int .i64), (.int .i64), .str, .str, .str, .str])], [], []⟩), (6, ⟨[.tmp 1 (.a (.ptr 64 0)), .tmp 45 (.a .bool), .box 64 (.cells 40 [(.int .i64), .str, (.int .i64), (.int .i64), (.int .i64), (.int .i64), .str, (.int .i64), (.int .i64), (.int .i64), .str, .str, .str, .str])], [], []⟩)])] }, rfrz := [], ts := [2] }
noncomputable def e_conciergeref14_May (F : Nat) : Env El := (envS 48 (conOf TT s_conciergeref05_Path (M_conciergeref05_Path F)) (envS 47 (conOf TT s_conciergeref05_Method (M_conciergeref05_Method F)) (envS 46 (conOf TT s_conciergeref14_named (M_conciergeref14_named F)) envN)))
/-- concierge/conciergeref14.May -/
noncomputable def M_conciergeref14_May (F : Nat) (x : ((Int) × (List UInt8) × (Int) × (Int) × (Int) × (Int) × (List UInt8) × (Int) × (Int) × (Int) × (List UInt8) × (List UInt8) × (List UInt8) × (List UInt8) × Unit)) : Option (Bool) :=
  ((M_conciergeref14_named F x).bind fun v0 => if (!v0) = false then some ((), decide (x.2.2.2.1 < 1), x, ()) else some ((), true, x, ())).bind fun v1 =>
    (if v1.2.1 = false then some ((), decide (1073741824 < v1.2.2.1.2.2.2.1), v1.2.2.1, ()) else some ((), true, v1.2.2.1, ())).bind fun v2 =>
      (if v2.2.1 = false then some ((), decide (v2.2.2.1.2.2.2.2.1 < 1), v2.2.2.1, ()) else some ((), true, v2.2.2.1, ())).bind fun v3 =>
        (if v3.2.1 = false then some ((), decide (1073741824 < v3.2.2.1.2.2.2.2.1), v3.2.2.1, ()) else some ((), true, v3.2.2.1, ())).bind fun v4 =>
          (if v4.2.1 = false then some ((), decide (v4.2.2.1.2.2.2.2.2.1 < 0), v4.2.2.1, ()) else some ((), true, v4.2.2.1, ())).bind fun v5 =>
            (if v5.2.1 = false then some ((), decide (5 < v5.2.2.1.2.2.2.2.2.1), v5.2.2.1, ()) else some ((), true, v5.2.2.1, ())).bind fun v6 =>
              (if v6.2.1 = false then some ((), !decide ((↑v6.2.2.1.2.2.2.2.2.2.1.length : Int) = 32), v6.2.2.1, ()) else some ((), true, v6.2.2.1, ())).bind
                fun v7 =>
                if v7.2.1 = true then some false
                else
                  (if decide (v7.2.2.1.2.2.2.2.2.2.2.1 < 0) = false then some ((), decide (1099511627776 < v7.2.2.1.2.2.2.2.2.2.2.1), v7.2.2.1, ())
                      else some ((), true, v7.2.2.1, ())).bind
                    fun v8 =>
                    (if v8.2.1 = false then some ((), decide (v8.2.2.1.2.2.2.2.2.2.2.2.1 < 0), v8.2.2.1, ()) else some ((), true, v8.2.2.1, ())).bind fun v9 =>
                      (if v9.2.1 = false then some ((), decide (1099511627776 < v9.2.2.1.2.2.2.2.2.2.2.2.1), v9.2.2.1, ())
                          else some ((), true, v9.2.2.1, ())).bind
                        fun v10 =>
                        if v10.2.1 = true then some false
                        else
                          if decide (v10.2.2.1.2.2.1 = 1) = true then
                            (M_conciergeref05_Method F v10.2.2.1.2.2.2.2.2.2.2.2.2.2.2.1).bind fun v11 =>
                              (M_conciergeref05_Path F v10.2.2.1.2.2.2.2.2.2.2.2.2.2.2.2.1).bind fun v12 =>
                                (if v11.2 = true then some ((), v11.1, v12.1, v12.2, v10.2.2.1, ()) else some ((), v11.1, v12.1, false, v10.2.2.1, ())).bind
                                  fun v13 =>
                                  (if v13.2.2.2.1 = true then some ((), v13.2.2.1, decide (v13.2.1 = v13.2.2.2.2.1.2.2.2.2.2.2.2.2.2.2.2.1), v13.2.2.2.2.1, ())
                                      else some ((), v13.2.2.1, false, v13.2.2.2.2.1, ())).bind
                                    fun v14 =>
                                    (if v14.2.2.1 = true then some ((), decide (v14.2.1 = v14.2.2.2.1.2.2.2.2.2.2.2.2.2.2.2.2.1), v14.2.2.2.1, ())
                                        else some ((), false, v14.2.2.2.1, ())).bind
                                      fun v15 =>
                                      (if v15.2.1 = true then some ((), decide ((↑v15.2.2.1.2.2.2.2.2.2.2.2.2.2.2.2.2.1.length : Int) ≤ 80), v15.2.2.1, ())
                                          else some ((), false, v15.2.2.1, ())).bind
                                        fun v16 =>
                                        (if v16.2.1 = true then some ((), decide (v16.2.2.1.2.2.2.2.2.2.2.2.2.1 = 0), v16.2.2.1, ())
                                            else some ((), false, v16.2.2.1, ())).bind
                                          fun v17 =>
                                          (if v17.2.1 = true then some (decide (v17.2.2.1.2.2.2.2.2.2.2.2.2.2.1 = []), ()) else some (false, ())).bind fun v18 =>
                                            some v18.1
                          else
                            (if (!decide (v10.2.2.1.2.2.2.2.2.2.2.1 = 0)) = false then some ((), !decide (v10.2.2.1.2.2.2.2.2.2.2.2.2.2.2.1 = []), v10.2.2.1, ())
                                else some ((), true, v10.2.2.1, ())).bind
                              fun v19 =>
                              (if v19.2.1 = false then some ((), !decide (v19.2.2.1.2.2.2.2.2.2.2.2.2.2.2.2.1 = []), v19.2.2.1, ())
                                  else some ((), true, v19.2.2.1, ())).bind
                                fun v20 =>
                                (if v20.2.1 = false then some ((), !decide (v20.2.2.1.2.2.2.2.2.2.2.2.2.2.2.2.2.1 = []), v20.2.2.1, ())
                                    else some ((), true, v20.2.2.1, ())).bind
                                  fun v21 =>
                                  if v21.2.1 = true then some false
                                  else
                                    if decide (v21.2.2.1.2.2.1 = 2) = true then
                                      (if decide (v21.2.2.1.2.2.2.2.2.2.2.2.2.1 = 200) = false then
                                            some ((), decide (v21.2.2.1.2.2.2.2.2.2.2.2.2.1 = 201), v21.2.2.1, ())
                                          else some ((), true, v21.2.2.1, ())).bind
                                        fun v22 =>
                                        (if v22.2.1 = false then some ((), decide (v22.2.2.1.2.2.2.2.2.2.2.2.2.1 = 402), v22.2.2.1, ())
                                            else some ((), true, v22.2.2.1, ())).bind
                                          fun v23 =>
                                          (if v23.2.1 = true then some (decide ((↑v23.2.2.1.2.2.2.2.2.2.2.2.2.2.1.length : Int) ≤ 40), ())
                                              else some (false, ())).bind
                                            fun v24 => some v24.1
                                    else
                                      (if decide (v21.2.2.1.2.2.1 = 3) = true then some ((), decide (v21.2.2.1.2.2.2.2.2.2.2.2.2.1 = 0), v21.2.2.1, ())
                                          else some ((), false, v21.2.2.1, ())).bind
                                        fun v25 =>
                                        (if v25.2.1 = true then some (decide (v25.2.2.1.2.2.2.2.2.2.2.2.2.2.1 = []), ()) else some (false, ())).bind fun v26 =>
                                          some v26.1
theorem t_conciergeref14_May (x : ((Int) × (List UInt8) × (Int) × (Int) × (Int) × (Int) × (List UInt8) × (Int) × (Int) × (Int) × (List UInt8) × (List UInt8) × (List UInt8) × (List UInt8) × Unit)) (F : Nat) : fnRun TT Tryz.prog (e_conciergeref14_May F) s_conciergeref14_May (bodyOf 17) F x = M_conciergeref14_May F x := by kernel_rfl
theorem c_conciergeref14_May (F : Nat) : Ctr TT Tryz.prog 17 (conOf TT s_conciergeref14_May (M_conciergeref14_May F)) :=
  ctr_of (code := bodyOf 17) Tryz.func17 (by kernel_rfl) (by kernel_rfl) (by kernel_rfl) (by kernel_rfl) (envS_ok (envS_ok (envS_ok envN_ok (c_conciergeref14_named F)) (c_conciergeref05_Method F)) (c_conciergeref05_Path F)) hm (by kernel_rfl) (fun x r h => ⟨F, (t_conciergeref14_May x F).trans h⟩)
theorem mo_conciergeref14_May {F F' : Nat} (h : F ≤ F') : ∀ v, Le (M_conciergeref14_May F v) (M_conciergeref14_May F' v) := by
  intro v
  unfold M_conciergeref14_May
  with_reducible repeat (first | (intro v) | exact Le.refl _ | exact h | exact mo_conciergeref14_named h _ | exact mo_conciergeref05_Method h _ | exact mo_conciergeref05_Path h _ | apply Le.bind | apply Le.ite | apply Le.loop | apply Le.sumC)
noncomputable def s_conciergeref14_Bytes : Spec Kd := { params := [(.agg [(.int .i64), .str, (.int .i64), (.int .i64), (.int .i64), (.int .i64), .str, (.int .i64), (.int .i64), (.int .i64), .str, .str, .str, .str])], ret := (.one (.a .str)), pins := [], pl := { nt := 67, joins := [(600056, (.norm, ⟨[.tmp 3 (.a .str)], [], []⟩), []), (400040, (.norm, ⟨[.tmp 1 (.a (.ptr 64 0)), .tmp 3 (.a .str), .box 64 (.cells 40 [(.int .i64), .str, (.int .i64), (.int .i64), (.int .i64), (.int .i64), .str, (.int .i64), (.int .i64), (.int .i64), .str, .str, .str, .str])], [], []⟩), [])], ends := [(5, ⟨[.tmp 3 (.a .str)], [], []⟩), (3, ⟨[.tmp 1 (.a (.ptr 64 0)), .tmp 3 (.a .str), .box 64 (.cells 40 [(.int .i64), .str, (.int .i64), (.int .i64), (.int .i64), (.int .i64), .str, (.int .i64), (.int .i64), (.int .i64), .str, .str, .str, .str])], [], []⟩), (1, ⟨[.tmp 1 (.a (.ptr 64 0)), .tmp 3 (.a .str), .box 64 (.cells 40 [(.int .i64), .str, (.int .i64), (.int .i64), (.int .i64), (.int .i64), .str, (.int .i64), (.int .i64), (.int .i64), .str, .str, .str, .str])], [], []⟩)] }, rfrz := [], ts := [2] }
noncomputable def e_conciergeref14_Bytes (F : Nat) : Env El := (envS 49 (conOf TT s_conciergeref01_Text (M_conciergeref01_Text F)) (envS 40 (conOf TT s_conciergeref01_Num (M_conciergeref01_Num F)) envN))
/-- concierge/conciergeref14.Bytes -/
noncomputable def M_conciergeref14_Bytes (F : Nat) (x : ((Int) × (List UInt8) × (Int) × (Int) × (Int) × (Int) × (List UInt8) × (Int) × (Int) × (Int) × (List UInt8) × (List UInt8) × (List UInt8) × (List UInt8) × Unit)) : Option (List UInt8) :=
  ((M_conciergeref01_Num F x.1).bind fun v0 =>
        (M_conciergeref01_Text F x.2.1).bind fun v1 =>
          if decide (v0.length + v1.length ≤ 9223372036854775807) = true then
            (M_conciergeref01_Num F x.2.2.1).bind fun v2 =>
              if decide ((v0 ++ v1).length + v2.length ≤ 9223372036854775807) = true then
                (M_conciergeref01_Num F x.2.2.2.1).bind fun v3 =>
                  if decide ((v0 ++ v1 ++ v2).length + v3.length ≤ 9223372036854775807) = true then
                    (M_conciergeref01_Num F x.2.2.2.2.1).bind fun v4 =>
                      if decide ((v0 ++ v1 ++ v2 ++ v3).length + v4.length ≤ 9223372036854775807) = true then
                        (M_conciergeref01_Num F x.2.2.2.2.2.1).bind fun v5 =>
                          if decide ((v0 ++ v1 ++ v2 ++ v3 ++ v4).length + v5.length ≤ 9223372036854775807) = true then
                            if decide ((v0 ++ v1 ++ v2 ++ v3 ++ v4 ++ v5).length + x.2.2.2.2.2.2.1.length ≤ 9223372036854775807) = true then
                              (M_conciergeref01_Num F x.2.2.2.2.2.2.2.1).bind fun v6 =>
                                if decide ((v0 ++ v1 ++ v2 ++ v3 ++ v4 ++ v5 ++ x.2.2.2.2.2.2.1).length + v6.length ≤ 9223372036854775807) = true then
                                  (M_conciergeref01_Num F x.2.2.2.2.2.2.2.2.1).bind fun v7 =>
                                    if decide ((v0 ++ v1 ++ v2 ++ v3 ++ v4 ++ v5 ++ x.2.2.2.2.2.2.1 ++ v6).length + v7.length ≤ 9223372036854775807) = true then
                                      some ((), v0 ++ v1 ++ v2 ++ v3 ++ v4 ++ v5 ++ x.2.2.2.2.2.2.1 ++ v6 ++ v7, x, ())
                                    else none
                                else none
                            else none
                          else none
                      else none
                  else none
              else none
          else none).bind
    fun v8 =>
    (if decide (v8.2.2.1.2.2.1 = 1) = true then
          ((M_conciergeref01_Text F v8.2.2.1.2.2.2.2.2.2.2.2.2.2.2.1).bind fun v9 =>
                if decide (v8.2.1.length + v9.length ≤ 9223372036854775807) = true then
                  (M_conciergeref01_Text F v8.2.2.1.2.2.2.2.2.2.2.2.2.2.2.2.1).bind fun v10 =>
                    if decide ((v8.2.1 ++ v9).length + v10.length ≤ 9223372036854775807) = true then
                      (M_conciergeref01_Text F v8.2.2.1.2.2.2.2.2.2.2.2.2.2.2.2.2.1).bind fun v11 =>
                        if decide ((v8.2.1 ++ v9 ++ v10).length + v11.length ≤ 9223372036854775807) = true then
                          some ((), v8.2.1 ++ v9 ++ v10 ++ v11, v8.2.2.1, ())
                        else none
                    else none
                else none).bind
            fun v12 => some ((), v12.2.1, v12.2.2.1, ())
        else some ((), v8.2.1, v8.2.2.1, ())).bind
      fun v13 =>
      (if decide (v13.2.2.1.2.2.1 = 2) = true then
            ((M_conciergeref01_Num F v13.2.2.1.2.2.2.2.2.2.2.2.2.1).bind fun v14 =>
                  if decide (v13.2.1.length + v14.length ≤ 9223372036854775807) = true then
                    (M_conciergeref01_Text F v13.2.2.1.2.2.2.2.2.2.2.2.2.2.1).bind fun v15 =>
                      if decide ((v13.2.1 ++ v14).length + v15.length ≤ 9223372036854775807) = true then some (v13.2.1 ++ v14 ++ v15, ()) else none
                  else none).bind
              fun v16 => some (v16.1, ())
          else some (v13.2.1, ())).bind
        fun v17 => some v17.1
theorem t_conciergeref14_Bytes (x : ((Int) × (List UInt8) × (Int) × (Int) × (Int) × (Int) × (List UInt8) × (Int) × (Int) × (Int) × (List UInt8) × (List UInt8) × (List UInt8) × (List UInt8) × Unit)) (F : Nat) : fnRun TT Tryz.prog (e_conciergeref14_Bytes F) s_conciergeref14_Bytes (bodyOf 18) F x = M_conciergeref14_Bytes F x := by kernel_rfl
theorem c_conciergeref14_Bytes (F : Nat) : Ctr TT Tryz.prog 18 (conOf TT s_conciergeref14_Bytes (M_conciergeref14_Bytes F)) :=
  ctr_of (code := bodyOf 18) Tryz.func18 (by kernel_rfl) (by kernel_rfl) (by kernel_rfl) (by kernel_rfl) (envS_ok (envS_ok envN_ok (c_conciergeref01_Num F)) (c_conciergeref01_Text F)) hm (by kernel_rfl) (fun x r h => ⟨F, (t_conciergeref14_Bytes x F).trans h⟩)
theorem mo_conciergeref14_Bytes {F F' : Nat} (h : F ≤ F') : ∀ v, Le (M_conciergeref14_Bytes F v) (M_conciergeref14_Bytes F' v) := by
  intro v
  unfold M_conciergeref14_Bytes
  with_reducible repeat (first | (intro v) | exact Le.refl _ | exact h | exact mo_conciergeref01_Num h _ | exact mo_conciergeref01_Text h _ | apply Le.bind | apply Le.ite | apply Le.loop | apply Le.sumC)
noncomputable def s_conciergeref14_Read_Raw : Spec Kd := { params := [(.pin 108 [.str, .bool]), (.a (.int .i64))], ret := (.one (.a .str)), pins := [[.str, .bool]], pl := { nt := 38, cuts := [(5, [(10, ⟨[.tmp 0 (.a (.ptr 1 0)), .tmp 5 (.a .str), .box 1 (.cells 108 [.str, .bool])], [], []⟩)]), (1, [(13, ⟨[.tmp 0 (.a (.ptr 1 0)), .tmp 1 (.a (.int .i64)), .tmp 18 (.a .bool), .box 1 (.cells 108 [.str, .bool])], [], []⟩)])] }, rfrz := [], ts := [4] }
noncomputable def e_conciergeref14_Read_Raw (F : Nat) : Env El := envN
/-- (*concierge/conciergeref14.Read).Raw -/
noncomputable def M_conciergeref14_Read_Raw (F : Nat) (x : ((List UInt8) × (Bool) × Unit) × (Int)) : Option ((List UInt8) × ((List UInt8) × (Bool) × Unit)) :=
  (if x.1.2.1 = false then some ((), x.2, decide ((↑x.1.1.length : Int) < x.2), (x.1.1, x.1.2.1, ()), ())
      else some ((), x.2, true, (x.1.1, x.1.2.1, ()), ())).bind
    fun v0 =>
    if v0.2.2.1 = true then some ([], v0.2.2.2.1.1, true, ())
    else
      (sub v0.2.2.2.1.1 0 v0.2.1).bind fun v1 =>
        ((sub v0.2.2.2.1.1 v0.2.1 (↑v0.2.2.2.1.1.length : Int)).bind fun v2 => some ((), v1, (v2, v0.2.2.2.1.2.1, ()), ())).bind fun v3 =>
          some (v3.2.1, v3.2.2.1.1, v3.2.2.1.2.1, ())
theorem t_conciergeref14_Read_Raw (x : ((List UInt8) × (Bool) × Unit) × (Int)) (F : Nat) : fnRun TT Tryz.prog (e_conciergeref14_Read_Raw F) s_conciergeref14_Read_Raw (bodyOf 100) F x = M_conciergeref14_Read_Raw F x := by kernel_rfl
theorem c_conciergeref14_Read_Raw (F : Nat) : Ctr TT Tryz.prog 100 (conOf TT s_conciergeref14_Read_Raw (M_conciergeref14_Read_Raw F)) :=
  ctr_of (code := bodyOf 100) Tryz.func100 (by kernel_rfl) (by kernel_rfl) (by kernel_rfl) (by kernel_rfl) envN_ok hm (by kernel_rfl) (fun x r h => ⟨F, (t_conciergeref14_Read_Raw x F).trans h⟩)
theorem mo_conciergeref14_Read_Raw {F F' : Nat} (h : F ≤ F') : ∀ v, Le (M_conciergeref14_Read_Raw F v) (M_conciergeref14_Read_Raw F' v) := by
  intro v
  unfold M_conciergeref14_Read_Raw
  with_reducible repeat (first | (intro v) | exact Le.refl _ | exact h | apply Le.bind | apply Le.ite | apply Le.loop | apply Le.sumC)
noncomputable def s_conciergeref14_Read_Num : Spec Kd := { params := [(.pin 108 [.str, .bool])], ret := (.one (.a (.int .i64))), pins := [[.str, .bool]], pl := { nt := 22, joins := [(400014, (.norm, ⟨[.tmp 0 (.a (.ptr 1 0)), .tmp 3 (.a (.int .i64)), .tmp 4 (.a (.int .i64)), .box 1 (.cells 108 [.str, .bool])], [], []⟩), [])], cuts := [(1, [(10, ⟨[.tmp 0 (.a (.ptr 1 0)), .tmp 3 (.a (.int .i64)), .tmp 4 (.a (.int .i64)), .box 1 (.cells 108 [.str, .bool])], [], []⟩)])] }, rfrz := [], ts := [2] }
noncomputable def e_conciergeref14_Read_Num (F : Nat) : Env El := (envS 100 (conOf TT s_conciergeref14_Read_Raw (M_conciergeref14_Read_Raw F)) (envS 42 (conOf TT s_conciergeref01_First (M_conciergeref01_First F)) envN))
/-- (*concierge/conciergeref14.Read).Num -/
noncomputable def M_conciergeref14_Read_Num (F : Nat) (x : ((List UInt8) × (Bool) × Unit)) : Option ((Int) × ((List UInt8) × (Bool) × Unit)) :=
  ((M_conciergeref01_First F x.1).bind fun v0 => some ((), v0.1, v0.2, (x.1, x.2.1, ()), ())).bind fun v1 =>
    (if decide (v1.2.2.1 = 0) = true then some ((), v1.2.1, v1.2.2.1, (v1.2.2.2.1.1, true, ()), ())
        else some ((), v1.2.1, v1.2.2.1, (v1.2.2.2.1.1, v1.2.2.2.1.2.1, ()), ())).bind
      fun v2 => (M_conciergeref14_Read_Raw F ((v2.2.2.2.1.1, v2.2.2.2.1.2.1, ()), v2.2.2.1)).bind fun v3 => some (v2.2.1, v3.2.1, v3.2.2.1, ())
theorem t_conciergeref14_Read_Num (x : ((List UInt8) × (Bool) × Unit)) (F : Nat) : fnRun TT Tryz.prog (e_conciergeref14_Read_Num F) s_conciergeref14_Read_Num (bodyOf 98) F x = M_conciergeref14_Read_Num F x := by kernel_rfl
theorem c_conciergeref14_Read_Num (F : Nat) : Ctr TT Tryz.prog 98 (conOf TT s_conciergeref14_Read_Num (M_conciergeref14_Read_Num F)) :=
  ctr_of (code := bodyOf 98) Tryz.func98 (by kernel_rfl) (by kernel_rfl) (by kernel_rfl) (by kernel_rfl) (envS_ok (envS_ok envN_ok (c_conciergeref01_First F)) (c_conciergeref14_Read_Raw F)) hm (by kernel_rfl) (fun x r h => ⟨F, (t_conciergeref14_Read_Num x F).trans h⟩)
theorem mo_conciergeref14_Read_Num {F F' : Nat} (h : F ≤ F') : ∀ v, Le (M_conciergeref14_Read_Num F v) (M_conciergeref14_Read_Num F' v) := by
  intro v
  unfold M_conciergeref14_Read_Num
  with_reducible repeat (first | (intro v) | exact Le.refl _ | exact h | exact mo_conciergeref01_First h _ | exact mo_conciergeref14_Read_Raw h _ | apply Le.bind | apply Le.ite | apply Le.loop | apply Le.sumC)
noncomputable def s_conciergeref14_Read_Text : Spec Kd := { params := [(.pin 108 [.str, .bool])], ret := (.one (.a .str)), pins := [[.str, .bool]], pl := { nt := 7 }, rfrz := [], ts := [2] }
noncomputable def e_conciergeref14_Read_Text (F : Nat) : Env El := (envS 100 (conOf TT s_conciergeref14_Read_Raw (M_conciergeref14_Read_Raw F)) (envS 98 (conOf TT s_conciergeref14_Read_Num (M_conciergeref14_Read_Num F)) envN))
/-- (*concierge/conciergeref14.Read).Text -/
noncomputable def M_conciergeref14_Read_Text (F : Nat) (x : ((List UInt8) × (Bool) × Unit)) : Option ((List UInt8) × ((List UInt8) × (Bool) × Unit)) :=
  (M_conciergeref14_Read_Num F (x.1, x.2.1, ())).bind fun v0 =>
    (M_conciergeref14_Read_Raw F ((v0.2.1, v0.2.2.1, ()), v0.1)).bind fun v1 => some (v1.1, v1.2.1, v1.2.2.1, ())
theorem t_conciergeref14_Read_Text (x : ((List UInt8) × (Bool) × Unit)) (F : Nat) : fnRun TT Tryz.prog (e_conciergeref14_Read_Text F) s_conciergeref14_Read_Text (bodyOf 99) F x = M_conciergeref14_Read_Text F x := by kernel_rfl
theorem c_conciergeref14_Read_Text (F : Nat) : Ctr TT Tryz.prog 99 (conOf TT s_conciergeref14_Read_Text (M_conciergeref14_Read_Text F)) :=
  ctr_of (code := bodyOf 99) Tryz.func99 (by kernel_rfl) (by kernel_rfl) (by kernel_rfl) (by kernel_rfl) (envS_ok (envS_ok envN_ok (c_conciergeref14_Read_Num F)) (c_conciergeref14_Read_Raw F)) hm (by kernel_rfl) (fun x r h => ⟨F, (t_conciergeref14_Read_Text x F).trans h⟩)
theorem mo_conciergeref14_Read_Text {F F' : Nat} (h : F ≤ F') : ∀ v, Le (M_conciergeref14_Read_Text F v) (M_conciergeref14_Read_Text F' v) := by
  intro v
  unfold M_conciergeref14_Read_Text
  with_reducible repeat (first | (intro v) | exact Le.refl _ | exact h | exact mo_conciergeref14_Read_Num h _ | exact mo_conciergeref14_Read_Raw h _ | apply Le.bind | apply Le.ite | apply Le.loop | apply Le.sumC)
noncomputable def s_conciergeref14_Read_entry : Spec Kd := { params := [(.pin 108 [.str, .bool])], ret := (.one (.agg [(.int .i64), .str, (.int .i64), (.int .i64), (.int .i64), (.int .i64), .str, (.int .i64), (.int .i64), (.int .i64), .str, .str, .str, .str])), pins := [[.str, .bool]], pl := { nt := 54, joins := [(1700046, (.norm, ⟨[.tmp 0 (.a (.ptr 1 0)), .tmp 2 (.a (.ptr 128 0)), .tmp 3 (.a (.ptr 192 0)), .box 1 (.cells 108 [.str, .bool]), .box 128 (.cells 40 [(.int .i64), .str, (.int .i64), (.int .i64), (.int .i64), (.int .i64), .str, (.int .i64), (.int .i64), (.int .i64), .str, .str, .str, .str]), .box 192 (.cells 40 [(.int .i64), .str, (.int .i64), (.int .i64), (.int .i64), (.int .i64), .str, (.int .i64), (.int .i64), (.int .i64), .str, .str, .str, .str])], [], []⟩), []), (1300034, (.norm, ⟨[.tmp 0 (.a (.ptr 1 0)), .tmp 2 (.a (.ptr 128 0)), .tmp 3 (.a (.ptr 192 0)), .box 1 (.cells 108 [.str, .bool]), .box 128 (.cells 40 [(.int .i64), .str, (.int .i64), (.int .i64), (.int .i64), (.int .i64), .str, (.int .i64), (.int .i64), (.int .i64), .str, .str, .str, .str]), .box 192 (.cells 40 [(.int .i64), .str, (.int .i64), (.int .i64), (.int .i64), (.int .i64), .str, (.int .i64), (.int .i64), (.int .i64), .str, .str, .str, .str])], [], []⟩), [])] }, rfrz := [], ts := [54], rc := [(2, some 40)] }
noncomputable def e_conciergeref14_Read_entry (F : Nat) : Env El := (envS 100 (conOf TT s_conciergeref14_Read_Raw (M_conciergeref14_Read_Raw F)) (envS 99 (conOf TT s_conciergeref14_Read_Text (M_conciergeref14_Read_Text F)) (envS 98 (conOf TT s_conciergeref14_Read_Num (M_conciergeref14_Read_Num F)) envN)))
/-- (*concierge/conciergeref14.Read).entry -/
noncomputable def M_conciergeref14_Read_entry (F : Nat) (x : ((List UInt8) × (Bool) × Unit)) : Option (((Int) × (List UInt8) × (Int) × (Int) × (Int) × (Int) × (List UInt8) × (Int) × (Int) × (Int) × (List UInt8) × (List UInt8) × (List UInt8) × (List UInt8) × Unit) × ((List UInt8) × (Bool) × Unit)) :=
  (M_conciergeref14_Read_Num F (x.1, x.2.1, ())).bind fun (v0 : Int × List UInt8 × Bool × Unit) =>
    (M_conciergeref14_Read_Text F (v0.2.1, v0.2.2.1, ())).bind fun (v1 : List UInt8 × List UInt8 × Bool × Unit) =>
      (M_conciergeref14_Read_Num F (v1.2.1, v1.2.2.1, ())).bind fun (v2 : Int × List UInt8 × Bool × Unit) =>
        (M_conciergeref14_Read_Num F (v2.2.1, v2.2.2.1, ())).bind fun (v3 : Int × List UInt8 × Bool × Unit) =>
          (M_conciergeref14_Read_Num F (v3.2.1, v3.2.2.1, ())).bind fun (v4 : Int × List UInt8 × Bool × Unit) =>
            (M_conciergeref14_Read_Num F (v4.2.1, v4.2.2.1, ())).bind fun (v5 : Int × List UInt8 × Bool × Unit) =>
              (M_conciergeref14_Read_Raw F ((v5.2.1, v5.2.2.1, ()), 32)).bind fun (v6 : List UInt8 × List UInt8 × Bool × Unit) =>
                (M_conciergeref14_Read_Num F (v6.2.1, v6.2.2.1, ())).bind fun (v7 : Int × List UInt8 × Bool × Unit) =>
                  (M_conciergeref14_Read_Num F (v7.2.1, v7.2.2.1, ())).bind fun (v8 : Int × List UInt8 × Bool × Unit) =>
                    (if decide (v2.1 = 1) = true then
                          (M_conciergeref14_Read_Text F (v8.2.1, v8.2.2.1, ())).bind fun (v9 : List UInt8 × List UInt8 × Bool × Unit) =>
                            (M_conciergeref14_Read_Text F (v9.2.1, v9.2.2.1, ())).bind fun (v10 : List UInt8 × List UInt8 × Bool × Unit) =>
                              (M_conciergeref14_Read_Text F (v10.2.1, v10.2.2.1, ())).bind fun (v11 : List UInt8 × List UInt8 × Bool × Unit) =>
                                some
                                  ((), (), (), (v11.2.1, v11.2.2.1, ()), (0, [], 0, 0, 0, 0, [], 0, 0, 0, [], [], [], [], ()),
                                    (v0.1, v1.1, v2.1, v3.1, v4.1, v5.1, v6.1, v7.1, v8.1, 0, [], v9.1, v10.1, v11.1, ()), ())
                        else
                          some
                            ((), (), (), (v8.2.1, v8.2.2.1, ()), (0, [], 0, 0, 0, 0, [], 0, 0, 0, [], [], [], [], ()),
                              (v0.1, v1.1, v2.1, v3.1, v4.1, v5.1, v6.1, v7.1, v8.1, 0, [], [], [], [], ()), ())).bind
                      fun
                        (v12 :
                          Unit ×
                            Unit ×
                              Unit ×
                                (List UInt8 × Bool × Unit) ×
                                  (Int ×
                                      List UInt8 ×
                                        Int × Int × Int × Int × List UInt8 × Int × Int × Int × List UInt8 × List UInt8 × List UInt8 × List UInt8 × Unit) ×
                                    (Int ×
                                        List UInt8 ×
                                          Int × Int × Int × Int × List UInt8 × Int × Int × Int × List UInt8 × List UInt8 × List UInt8 × List UInt8 × Unit) ×
                                      Unit) =>
                      (if decide (v12.2.2.2.2.2.1.2.2.1 = 2) = true then
                            (M_conciergeref14_Read_Num F (v12.2.2.2.1.1, v12.2.2.2.1.2.1, ())).bind fun (v13 : Int × List UInt8 × Bool × Unit) =>
                              (M_conciergeref14_Read_Text F (v13.2.1, v13.2.2.1, ())).bind fun (v14 : List UInt8 × List UInt8 × Bool × Unit) =>
                                some
                                  ((), (), (), (v14.2.1, v14.2.2.1, ()), v12.2.2.2.2.1,
                                    (v12.2.2.2.2.2.1.1, v12.2.2.2.2.2.1.2.1, v12.2.2.2.2.2.1.2.2.1, v12.2.2.2.2.2.1.2.2.2.1, v12.2.2.2.2.2.1.2.2.2.2.1,
                                      v12.2.2.2.2.2.1.2.2.2.2.2.1, v12.2.2.2.2.2.1.2.2.2.2.2.2.1, v12.2.2.2.2.2.1.2.2.2.2.2.2.2.1,
                                      v12.2.2.2.2.2.1.2.2.2.2.2.2.2.2.1, v13.1, v14.1, v12.2.2.2.2.2.1.2.2.2.2.2.2.2.2.2.2.2.1,
                                      v12.2.2.2.2.2.1.2.2.2.2.2.2.2.2.2.2.2.2.1, v12.2.2.2.2.2.1.2.2.2.2.2.2.2.2.2.2.2.2.2.1, ()),
                                    ())
                          else some ((), v12.2)).bind
                        fun
                          (v15 :
                            Unit ×
                              Unit ×
                                Unit ×
                                  (List UInt8 × Bool × Unit) ×
                                    (Int ×
                                        List UInt8 ×
                                          Int × Int × Int × Int × List UInt8 × Int × Int × Int × List UInt8 × List UInt8 × List UInt8 × List UInt8 × Unit) ×
                                      (Int ×
                                          List UInt8 ×
                                            Int × Int × Int × Int × List UInt8 × Int × Int × Int × List UInt8 × List UInt8 × List UInt8 × List UInt8 × Unit) ×
                                        Unit) =>
                        some (v15.2.2.2.2.2.1, v15.2.2.2.1.1, v15.2.2.2.1.2.1, ())
theorem t_conciergeref14_Read_entry (x : ((List UInt8) × (Bool) × Unit)) (F : Nat) : fnRun TT Tryz.prog (e_conciergeref14_Read_entry F) s_conciergeref14_Read_entry (bodyOf 74) F x = M_conciergeref14_Read_entry F x := by kernel_rfl
theorem c_conciergeref14_Read_entry (F : Nat) : Ctr TT Tryz.prog 74 (conOf TT s_conciergeref14_Read_entry (M_conciergeref14_Read_entry F)) :=
  ctr_of (code := bodyOf 74) Tryz.func74 (by kernel_rfl) (by kernel_rfl) (by kernel_rfl) (by kernel_rfl) (envS_ok (envS_ok (envS_ok envN_ok (c_conciergeref14_Read_Num F)) (c_conciergeref14_Read_Text F)) (c_conciergeref14_Read_Raw F)) hm (by kernel_rfl) (fun x r h => ⟨F, (t_conciergeref14_Read_entry x F).trans h⟩)
theorem mo_conciergeref14_Read_entry {F F' : Nat} (h : F ≤ F') : ∀ v, Le (M_conciergeref14_Read_entry F v) (M_conciergeref14_Read_entry F' v) := by
  intro v
  unfold M_conciergeref14_Read_entry
  with_reducible repeat (first | (intro v) | exact Le.refl _ | exact h | exact mo_conciergeref14_Read_Num h _ | exact mo_conciergeref14_Read_Text h _ | exact mo_conciergeref14_Read_Raw h _ | apply Le.bind | apply Le.ite | apply Le.loop | apply Le.sumC)
noncomputable def s_conciergeref14_Open : Spec Kd := { params := [(.a .str)], ret := (.tup [(.agg [(.int .i64), .str, (.int .i64), (.int .i64), (.int .i64), (.int .i64), .str, (.int .i64), (.int .i64), (.int .i64), .str, .str, .str, .str]), (.a .bool)]), pins := [], pl := { nt := 28, cuts := [(3, [(9, ⟨[.tmp 0 (.a .str), .tmp 2 (.a (.ptr 128 0)), .tmp 5 (.a (.ptr 320 0)), .tmp 19 (.a .bool), .box 128 (.cells 40 [(.int .i64), .str, (.int .i64), (.int .i64), (.int .i64), (.int .i64), .str, (.int .i64), (.int .i64), (.int .i64), .str, .str, .str, .str]), .box 320 (.cells 40 [(.int .i64), .str, (.int .i64), (.int .i64), (.int .i64), (.int .i64), .str, (.int .i64), (.int .i64), (.int .i64), .str, .str, .str, .str])], [], []⟩), (6, ⟨[.tmp 2 (.a (.ptr 128 0)), .tmp 5 (.a (.ptr 320 0)), .tmp 25 (.a .bool), .box 128 (.cells 40 [(.int .i64), .str, (.int .i64), (.int .i64), (.int .i64), (.int .i64), .str, (.int .i64), (.int .i64), (.int .i64), .str, .str, .str, .str]), .box 320 (.cells 40 [(.int .i64), .str, (.int .i64), (.int .i64), (.int .i64), (.int .i64), .str, (.int .i64), (.int .i64), (.int .i64), .str, .str, .str, .str])], [], []⟩)])] }, rfrz := [], ts := [28, 29], rc := [(2, some 40), (3, none)] }
noncomputable def e_conciergeref14_Open (F : Nat) : Env El := (envS 18 (conOf TT s_conciergeref14_Bytes (M_conciergeref14_Bytes F)) (envS 17 (conOf TT s_conciergeref14_May (M_conciergeref14_May F)) (envS 74 (conOf TT s_conciergeref14_Read_entry (M_conciergeref14_Read_entry F)) envN)))
/-- concierge/conciergeref14.Open -/
noncomputable def M_conciergeref14_Open (F : Nat) (x : (List UInt8)) : Option (((Int) × (List UInt8) × (Int) × (Int) × (Int) × (Int) × (List UInt8) × (Int) × (Int) × (Int) × (List UInt8) × (List UInt8) × (List UInt8) × (List UInt8) × Unit) × (Bool)) :=
  (M_conciergeref14_Read_entry F (x, false, ())).bind
    fun
      (v0 :
        (Int × List UInt8 × Int × Int × Int × Int × List UInt8 × Int × Int × Int × List UInt8 × List UInt8 × List UInt8 × List UInt8 × Unit) ×
          List UInt8 × Bool × Unit) =>
    (if v0.2.2.1 = false then
          (M_conciergeref14_May F v0.1).bind fun (v1 : Bool) => some (x, (), (), !v1, (0, [], 0, 0, 0, 0, [], 0, 0, 0, [], [], [], [], ()), v0.1, ())
        else some (x, (), (), true, (0, [], 0, 0, 0, 0, [], 0, 0, 0, [], [], [], [], ()), v0.1, ())).bind
      fun
        (v2 :
          List UInt8 ×
            Unit ×
              Unit ×
                Bool ×
                  (Int × List UInt8 × Int × Int × Int × Int × List UInt8 × Int × Int × Int × List UInt8 × List UInt8 × List UInt8 × List UInt8 × Unit) ×
                    (Int × List UInt8 × Int × Int × Int × Int × List UInt8 × Int × Int × Int × List UInt8 × List UInt8 × List UInt8 × List UInt8 × Unit) ×
                      Unit) =>
      (if v2.2.2.2.1 = false then
            (M_conciergeref14_Bytes F v2.2.2.2.2.2.1).bind fun (v3 : List UInt8) => some ((), (), !decide (v3 = v2.1), v2.2.2.2.2.1, v2.2.2.2.2.2.1, ())
          else some ((), (), true, v2.2.2.2.2.1, v2.2.2.2.2.2.1, ())).bind
        fun
          (v4 :
            Unit ×
              Unit ×
                Bool ×
                  (Int × List UInt8 × Int × Int × Int × Int × List UInt8 × Int × Int × Int × List UInt8 × List UInt8 × List UInt8 × List UInt8 × Unit) ×
                    (Int × List UInt8 × Int × Int × Int × Int × List UInt8 × Int × Int × Int × List UInt8 × List UInt8 × List UInt8 × List UInt8 × Unit) ×
                      Unit) =>
        if v4.2.2.1 = true then some ((0, [], 0, 0, 0, 0, [], 0, 0, 0, [], [], [], [], ()), false) else some (v4.2.2.2.2.1, true)
theorem t_conciergeref14_Open (x : (List UInt8)) (F : Nat) : fnRun TT Tryz.prog (e_conciergeref14_Open F) s_conciergeref14_Open (bodyOf 43) F x = M_conciergeref14_Open F x := by kernel_rfl
theorem c_conciergeref14_Open (F : Nat) : Ctr TT Tryz.prog 43 (conOf TT s_conciergeref14_Open (M_conciergeref14_Open F)) :=
  ctr_of (code := bodyOf 43) Tryz.func43 (by kernel_rfl) (by kernel_rfl) (by kernel_rfl) (by kernel_rfl) (envS_ok (envS_ok (envS_ok envN_ok (c_conciergeref14_Read_entry F)) (c_conciergeref14_May F)) (c_conciergeref14_Bytes F)) hm (by kernel_rfl) (fun x r h => ⟨F, (t_conciergeref14_Open x F).trans h⟩)
theorem mo_conciergeref14_Open {F F' : Nat} (h : F ≤ F') : ∀ v, Le (M_conciergeref14_Open F v) (M_conciergeref14_Open F' v) := by
  intro v
  unfold M_conciergeref14_Open
  with_reducible repeat (first | (intro v) | exact Le.refl _ | exact h | exact mo_conciergeref14_Read_entry h _ | exact mo_conciergeref14_May h _ | exact mo_conciergeref14_Bytes h _ | apply Le.bind | apply Le.ite | apply Le.loop | apply Le.sumC)

end Go.Vm
