/- Models of functions of the program, and that each keeps its contract: for all arguments of its shape. No condition. -/
import Derived.Test.YtgeafoacmnlioaaDoorKt
import Derived.Test.YtgeafoacmnlioaaDoorFcanon
import Derived.Test.YtgeafoacmnlioaaDoorFpk
import Derived.Test.YtgeafoacmnlioaaDoorFopn
namespace Go.Vm
open Go.Proofs
set_option linter.unusedVariables false
noncomputable def s_entry_named : Spec Kd := { params := [(.agg [(.int .i64), .str, (.int .i64), (.int .i64), (.int .i64), (.int .i64), .str, (.int .i64), (.int .i64), (.int .i64), .str, .str, .str, .str])], ret := (.one (.a .bool)), pins := [], pl := { nt := 16, cuts := [(1, [(8, ⟨[.tmp 1 (.a (.ptr 64 0)), .tmp 10 (.a .bool), .box 64 (.cells 60 [(.int .i64), .str, (.int .i64), (.int .i64), (.int .i64), (.int .i64), .str, (.int .i64), (.int .i64), (.int .i64), .str, .str, .str, .str])], [], []⟩), (5, ⟨[.tmp 15 (.a .bool)], [], []⟩)])] }, rfrz := [], ts := [2] }
noncomputable def e_entry_named (F : Nat) : Env El := (envS 67 (conOf TT s_canon_Key (M_canon_Key F)) envN)
noncomputable def M_entry_named (F : Nat) (x : ((Int) × (List UInt8) × (Int) × (Int) × (Int) × (Int) × (List UInt8) × (Int) × (Int) × (Int) × (List UInt8) × (List UInt8) × (List UInt8) × (List UInt8) × Unit)) : Option (Bool) :=
  (if decide (0 ≤ x.1) = true then some ((), decide (x.1 < 4), x, ()) else some ((), false, x, ())).bind fun v0 =>
    (if v0.2.1 = true then (M_canon_Key F v0.2.2.1.2.1).bind fun v1 => some (v1, ()) else some (false, ())).bind fun v2 => some v2.1
theorem t_entry_named (x : ((Int) × (List UInt8) × (Int) × (Int) × (Int) × (Int) × (List UInt8) × (Int) × (Int) × (Int) × (List UInt8) × (List UInt8) × (List UInt8) × (List UInt8) × Unit)) (F : Nat) : fnRun TT Tryd.prog (e_entry_named F) s_entry_named (bodyOf 83) F x = M_entry_named F x := by kernel_rfl
theorem c_entry_named (F : Nat) : Ctr TT Tryd.prog 83 (conOf TT s_entry_named (M_entry_named F)) :=
  ctr_of (code := bodyOf 83) Tryd.func83 (by kernel_rfl) (by kernel_rfl) (by kernel_rfl) (by kernel_rfl) (envS_ok envN_ok (c_canon_Key F)) hm (by kernel_rfl) (fun x r h => ⟨F, (t_entry_named x F).trans h⟩)
theorem mo_entry_named {F F' : Nat} (h : F ≤ F') : ∀ v, Le (M_entry_named F v) (M_entry_named F' v) := by
  intro v
  unfold M_entry_named
  with_reducible repeat (first | (intro v) | exact Le.refl _ | exact h | exact mo_canon_Key h _ | apply Le.bind | apply Le.ite | apply Le.loop | apply Le.sumC)
noncomputable def s_entry_number : Spec Kd := { params := [(.a (.int .i64))], ret := (.one (.a .bool)), pins := [], pl := { nt := 9, cuts := [(1, [(6, ⟨[.tmp 8 (.a .bool)], [], []⟩)])] }, rfrz := [], ts := [2] }
noncomputable def e_entry_number (F : Nat) : Env El := envN
noncomputable def M_entry_number (F : Nat) (x : (Int)) : Option (Bool) :=
  (if decide (1 ≤ x) = true then some (decide (x ≤ 1073741824), ()) else some (false, ())).bind fun v0 => some v0.1
theorem t_entry_number (x : (Int)) (F : Nat) : fnRun TT Tryd.prog (e_entry_number F) s_entry_number (bodyOf 84) F x = M_entry_number F x := by kernel_rfl
theorem c_entry_number (F : Nat) : Ctr TT Tryd.prog 84 (conOf TT s_entry_number (M_entry_number F)) :=
  ctr_of (code := bodyOf 84) Tryd.func84 (by kernel_rfl) (by kernel_rfl) (by kernel_rfl) (by kernel_rfl) envN_ok hm (by kernel_rfl) (fun x r h => ⟨F, (t_entry_number x F).trans h⟩)
theorem mo_entry_number {F F' : Nat} (h : F ≤ F') : ∀ v, Le (M_entry_number F v) (M_entry_number F' v) := by
  intro v
  unfold M_entry_number
  with_reducible repeat (first | (intro v) | exact Le.refl _ | exact h | apply Le.bind | apply Le.ite | apply Le.loop | apply Le.sumC)
noncomputable def s_entry_time : Spec Kd := { params := [(.a (.int .i64))], ret := (.one (.a .bool)), pins := [], pl := { nt := 9, cuts := [(1, [(6, ⟨[.tmp 8 (.a .bool)], [], []⟩)])] }, rfrz := [], ts := [2] }
noncomputable def e_entry_time (F : Nat) : Env El := envN
noncomputable def M_entry_time (F : Nat) (x : (Int)) : Option (Bool) :=
  (if decide (0 ≤ x) = true then some (decide (x ≤ 1099511627776), ()) else some (false, ())).bind fun v0 => some v0.1
theorem t_entry_time (x : (Int)) (F : Nat) : fnRun TT Tryd.prog (e_entry_time F) s_entry_time (bodyOf 85) F x = M_entry_time F x := by kernel_rfl
theorem c_entry_time (F : Nat) : Ctr TT Tryd.prog 85 (conOf TT s_entry_time (M_entry_time F)) :=
  ctr_of (code := bodyOf 85) Tryd.func85 (by kernel_rfl) (by kernel_rfl) (by kernel_rfl) (by kernel_rfl) envN_ok hm (by kernel_rfl) (fun x r h => ⟨F, (t_entry_time x F).trans h⟩)
theorem mo_entry_time {F F' : Nat} (h : F ≤ F') : ∀ v, Le (M_entry_time F v) (M_entry_time F' v) := by
  intro v
  unfold M_entry_time
  with_reducible repeat (first | (intro v) | exact Le.refl _ | exact h | apply Le.bind | apply Le.ite | apply Le.loop | apply Le.sumC)
noncomputable def s_entry_asked : Spec Kd := { params := [(.agg [(.int .i64), .str, (.int .i64), (.int .i64), (.int .i64), (.int .i64), .str, (.int .i64), (.int .i64), (.int .i64), .str, .str, .str, .str])], ret := (.one (.a .bool)), pins := [], pl := { nt := 43, cuts := [(3, [(8, ⟨[.tmp 1 (.a (.ptr 64 0)), .tmp 5 (.a .str), .tmp 26 (.a .bool), .box 64 (.cells 60 [(.int .i64), .str, (.int .i64), (.int .i64), (.int .i64), (.int .i64), .str, (.int .i64), (.int .i64), (.int .i64), .str, .str, .str, .str])], [], []⟩), (4, ⟨[.tmp 1 (.a (.ptr 64 0)), .tmp 5 (.a .str), .tmp 30 (.a .bool), .box 64 (.cells 60 [(.int .i64), .str, (.int .i64), (.int .i64), (.int .i64), (.int .i64), .str, (.int .i64), (.int .i64), (.int .i64), .str, .str, .str, .str])], [], []⟩), (6, ⟨[.tmp 1 (.a (.ptr 64 0)), .tmp 36 (.a .bool), .box 64 (.cells 60 [(.int .i64), .str, (.int .i64), (.int .i64), (.int .i64), (.int .i64), .str, (.int .i64), (.int .i64), (.int .i64), .str, .str, .str, .str])], [], []⟩), (6, ⟨[.tmp 42 (.a .bool)], [], []⟩)])] }, rfrz := [], ts := [2] }
noncomputable def e_entry_asked (F : Nat) : Env El := (envS 112 (conOf TT s_canon_Path (M_canon_Path F)) (envS 111 (conOf TT s_canon_Method (M_canon_Method F)) envN))
noncomputable def M_entry_asked (F : Nat) (x : ((Int) × (List UInt8) × (Int) × (Int) × (Int) × (Int) × (List UInt8) × (Int) × (Int) × (Int) × (List UInt8) × (List UInt8) × (List UInt8) × (List UInt8) × Unit)) : Option (Bool) :=
  (M_canon_Method F x.2.2.2.2.2.2.2.2.2.2.2.1).bind fun v0 =>
    (M_canon_Path F x.2.2.2.2.2.2.2.2.2.2.2.2.1).bind fun v1 =>
      (if (!decide (v0.1 = [])) = true then some ((), v1.1, decide (v0.1 = x.2.2.2.2.2.2.2.2.2.2.2.1), x, ()) else some ((), v1.1, false, x, ())).bind fun v2 =>
        (if v2.2.2.1 = true then some ((), v2.2.1, !decide (v2.2.1 = []), v2.2.2.2.1, ()) else some ((), v2.2.1, false, v2.2.2.2.1, ())).bind fun v3 =>
          (if v3.2.2.1 = true then some ((), decide (v3.2.1 = v3.2.2.2.1.2.2.2.2.2.2.2.2.2.2.2.2.1), v3.2.2.2.1, ()) else some ((), false, v3.2.2.2.1, ())).bind
            fun v4 =>
            (if v4.2.1 = true then some (decide ((↑v4.2.2.1.2.2.2.2.2.2.2.2.2.2.2.2.2.1.length : Int) ≤ 80), ()) else some (false, ())).bind fun v5 => some v5.1
theorem t_entry_asked (x : ((Int) × (List UInt8) × (Int) × (Int) × (Int) × (Int) × (List UInt8) × (Int) × (Int) × (Int) × (List UInt8) × (List UInt8) × (List UInt8) × (List UInt8) × Unit)) (F : Nat) : fnRun TT Tryd.prog (e_entry_asked F) s_entry_asked (bodyOf 86) F x = M_entry_asked F x := by kernel_rfl
theorem c_entry_asked (F : Nat) : Ctr TT Tryd.prog 86 (conOf TT s_entry_asked (M_entry_asked F)) :=
  ctr_of (code := bodyOf 86) Tryd.func86 (by kernel_rfl) (by kernel_rfl) (by kernel_rfl) (by kernel_rfl) (envS_ok (envS_ok envN_ok (c_canon_Method F)) (c_canon_Path F)) hm (by kernel_rfl) (fun x r h => ⟨F, (t_entry_asked x F).trans h⟩)
theorem mo_entry_asked {F F' : Nat} (h : F ≤ F') : ∀ v, Le (M_entry_asked F v) (M_entry_asked F' v) := by
  intro v
  unfold M_entry_asked
  with_reducible repeat (first | (intro v) | exact Le.refl _ | exact h | exact mo_canon_Method h _ | exact mo_canon_Path h _ | apply Le.bind | apply Le.ite | apply Le.loop | apply Le.sumC)
noncomputable def s_entry_answered : Spec Kd := { params := [(.agg [(.int .i64), .str, (.int .i64), (.int .i64), (.int .i64), (.int .i64), .str, (.int .i64), (.int .i64), (.int .i64), .str, .str, .str, .str])], ret := (.one (.a .bool)), pins := [], pl := { nt := 13, joins := [(500005, (.norm, ⟨[.tmp 1 (.a (.ptr 64 0)), .tmp 5 (.a .bool), .box 64 (.cells 60 [(.int .i64), .str, (.int .i64), (.int .i64), (.int .i64), (.int .i64), .str, (.int .i64), (.int .i64), (.int .i64), .str, .str, .str, .str])], [], []⟩), []), (400005, (.norm, ⟨[.tmp 1 (.a (.ptr 64 0)), .tmp 5 (.a .bool), .box 64 (.cells 60 [(.int .i64), .str, (.int .i64), (.int .i64), (.int .i64), (.int .i64), .str, (.int .i64), (.int .i64), (.int .i64), .str, .str, .str, .str])], [], []⟩), [])] }, rfrz := [], ts := [2] }
noncomputable def e_entry_answered (F : Nat) : Env El := envN
noncomputable def M_entry_answered (F : Nat) (x : ((Int) × (List UInt8) × (Int) × (Int) × (Int) × (Int) × (List UInt8) × (Int) × (Int) × (Int) × (List UInt8) × (List UInt8) × (List UInt8) × (List UInt8) × Unit)) : Option (Bool) :=
  (if decide (x.2.2.2.2.2.2.2.2.2.1 = 200) = true then some ((), decide (x.2.2.2.2.2.2.2.2.2.1 = 200), x, ())
      else
        (if decide (x.2.2.2.2.2.2.2.2.2.1 = 201) = true then some ((), decide (x.2.2.2.2.2.2.2.2.2.1 = 201), x, ())
            else some ((), decide (x.2.2.2.2.2.2.2.2.2.1 = 402), x, ())).bind
          fun v0 => some ((), v0.2.1, v0.2.2.1, ())).bind
    fun v1 => if v1.2.1 = true then some (decide ((↑v1.2.2.1.2.2.2.2.2.2.2.2.2.2.1.length : Int) ≤ 40)) else some false
theorem t_entry_answered (x : ((Int) × (List UInt8) × (Int) × (Int) × (Int) × (Int) × (List UInt8) × (Int) × (Int) × (Int) × (List UInt8) × (List UInt8) × (List UInt8) × (List UInt8) × Unit)) (F : Nat) : fnRun TT Tryd.prog (e_entry_answered F) s_entry_answered (bodyOf 87) F x = M_entry_answered F x := by kernel_rfl
theorem c_entry_answered (F : Nat) : Ctr TT Tryd.prog 87 (conOf TT s_entry_answered (M_entry_answered F)) :=
  ctr_of (code := bodyOf 87) Tryd.func87 (by kernel_rfl) (by kernel_rfl) (by kernel_rfl) (by kernel_rfl) envN_ok hm (by kernel_rfl) (fun x r h => ⟨F, (t_entry_answered x F).trans h⟩)
theorem mo_entry_answered {F F' : Nat} (h : F ≤ F') : ∀ v, Le (M_entry_answered F v) (M_entry_answered F' v) := by
  intro v
  unfold M_entry_answered
  with_reducible repeat (first | (intro v) | exact Le.refl _ | exact h | apply Le.bind | apply Le.ite | apply Le.loop | apply Le.sumC)
noncomputable def s_entry_May : Spec Kd := { params := [(.agg [(.int .i64), .str, (.int .i64), (.int .i64), (.int .i64), (.int .i64), .str, (.int .i64), (.int .i64), (.int .i64), .str, .str, .str, .str])], ret := (.one (.a .bool)), pins := [], pl := { nt := 92, cuts := [(7, [(5, ⟨[.tmp 78 (.a .bool)], [], []⟩)]), (9, [(5, ⟨[.tmp 85 (.a .bool)], [], []⟩)]), (11, [(4, ⟨[.tmp 91 (.a .bool)], [], []⟩)]), (4, [(14, ⟨[.tmp 1 (.a (.ptr 64 0)), .tmp 3 (.a .bool), .tmp 69 (.a .bool), .box 64 (.cells 60 [(.int .i64), .str, (.int .i64), (.int .i64), (.int .i64), (.int .i64), .str, (.int .i64), (.int .i64), (.int .i64), .str, .str, .str, .str])], [], []⟩)]), (3, [(8, ⟨[.tmp 1 (.a (.ptr 64 0)), .tmp 55 (.a .bool), .box 64 (.cells 60 [(.int .i64), .str, (.int .i64), (.int .i64), (.int .i64), (.int .i64), .str, (.int .i64), (.int .i64), (.int .i64), .str, .str, .str, .str])], [], []⟩)]), (1, [(9, ⟨[.tmp 1 (.a (.ptr 64 0)), .tmp 13 (.a .bool), .box 64 (.cells 60 [(.int .i64), .str, (.int .i64), (.int .i64), (.int .i64), (.int .i64), .str, (.int .i64), (.int .i64), (.int .i64), .str, .str, .str, .str])], [], []⟩), (6, ⟨[.tmp 1 (.a (.ptr 64 0)), .tmp 19 (.a .bool), .box 64 (.cells 60 [(.int .i64), .str, (.int .i64), (.int .i64), (.int .i64), (.int .i64), .str, (.int .i64), (.int .i64), (.int .i64), .str, .str, .str, .str])], [], []⟩), (5, ⟨[.tmp 1 (.a (.ptr 64 0)), .tmp 24 (.a .bool), .box 64 (.cells 60 [(.int .i64), .str, (.int .i64), (.int .i64), (.int .i64), (.int .i64), .str, (.int .i64), (.int .i64), (.int .i64), .str, .str, .str, .str])], [], []⟩), (5, ⟨[.tmp 1 (.a (.ptr 64 0)), .tmp 29 (.a .bool), .box 64 (.cells 60 [(.int .i64), .str, (.int .i64), (.int .i64), (.int .i64), (.int .i64), .str, (.int .i64), (.int .i64), (.int .i64), .str, .str, .str, .str])], [], []⟩), (6, ⟨[.tmp 1 (.a (.ptr 64 0)), .tmp 35 (.a .bool), .box 64 (.cells 60 [(.int .i64), .str, (.int .i64), (.int .i64), (.int .i64), (.int .i64), .str, (.int .i64), (.int .i64), (.int .i64), .str, .str, .str, .str])], [], []⟩), (6, ⟨[.tmp 1 (.a (.ptr 64 0)), .tmp 41 (.a .bool), .box 64 (.cells 60 [(.int .i64), .str, (.int .i64), (.int .i64), (.int .i64), (.int .i64), .str, (.int .i64), (.int .i64), (.int .i64), .str, .str, .str, .str])], [], []⟩), (6, ⟨[.tmp 1 (.a (.ptr 64 0)), .tmp 47 (.a .bool), .box 64 (.cells 60 [(.int .i64), .str, (.int .i64), (.int .i64), (.int .i64), (.int .i64), .str, (.int .i64), (.int .i64), (.int .i64), .str, .str, .str, .str])], [], []⟩)])] }, rfrz := [], ts := [2] }
noncomputable def e_entry_May (F : Nat) : Env El := (envS 87 (conOf TT s_entry_answered (M_entry_answered F)) (envS 86 (conOf TT s_entry_asked (M_entry_asked F)) (envS 85 (conOf TT s_entry_time (M_entry_time F)) (envS 84 (conOf TT s_entry_number (M_entry_number F)) (envS 83 (conOf TT s_entry_named (M_entry_named F)) envN)))))
noncomputable def M_entry_May (F : Nat) (x : ((Int) × (List UInt8) × (Int) × (Int) × (Int) × (Int) × (List UInt8) × (Int) × (Int) × (Int) × (List UInt8) × (List UInt8) × (List UInt8) × (List UInt8) × Unit)) : Option (Bool) :=
  ((M_entry_named F x).bind fun v0 => if (!v0) = false then (M_entry_number F x.2.2.2.1).bind fun v1 => some ((), !v1, x, ()) else some ((), true, x, ())).bind
    fun v2 =>
    (if v2.2.1 = false then (M_entry_number F v2.2.2.1.2.2.2.2.1).bind fun v3 => some ((), !v3, v2.2.2.1, ()) else some ((), true, v2.2.2.1, ())).bind fun v4 =>
      (if v4.2.1 = false then some ((), decide (v4.2.2.1.2.2.2.2.2.1 < 0), v4.2.2.1, ()) else some ((), true, v4.2.2.1, ())).bind fun v5 =>
        (if v5.2.1 = false then some ((), decide (5 < v5.2.2.1.2.2.2.2.2.1), v5.2.2.1, ()) else some ((), true, v5.2.2.1, ())).bind fun v6 =>
          (if v6.2.1 = false then some ((), !decide ((↑v6.2.2.1.2.2.2.2.2.2.1.length : Int) = 32), v6.2.2.1, ()) else some ((), true, v6.2.2.1, ())).bind
            fun v7 =>
            (if v7.2.1 = false then (M_entry_time F v7.2.2.1.2.2.2.2.2.2.2.1).bind fun v8 => some ((), !v8, v7.2.2.1, ()) else some ((), true, v7.2.2.1, ())).bind
              fun v9 =>
              (if v9.2.1 = false then (M_entry_time F v9.2.2.1.2.2.2.2.2.2.2.2.1).bind fun v10 => some ((), !v10, v9.2.2.1, ())
                  else some ((), true, v9.2.2.1, ())).bind
                fun v11 =>
                if v11.2.1 = true then some false
                else
                  (if decide (v11.2.2.1.2.2.2.2.2.2.2.2.2.1 = 0) = true then some ((), decide (v11.2.2.1.2.2.2.2.2.2.2.2.2.2.1 = []), v11.2.2.1, ())
                      else some ((), false, v11.2.2.1, ())).bind
                    fun v12 =>
                    (if decide (v12.2.2.1.2.2.2.2.2.2.2.1 = 0) = true then
                          if decide (v12.2.2.1.2.2.2.2.2.2.2.2.2.2.2.1.length + v12.2.2.1.2.2.2.2.2.2.2.2.2.2.2.2.1.length ≤ 9223372036854775807) = true then
                            if
                                decide
                                    ((v12.2.2.1.2.2.2.2.2.2.2.2.2.2.2.1 ++ v12.2.2.1.2.2.2.2.2.2.2.2.2.2.2.2.1).length +
                                        v12.2.2.1.2.2.2.2.2.2.2.2.2.2.2.2.2.1.length ≤
                                      9223372036854775807) =
                                  true then
                              some
                                ((), v12.2.1,
                                  decide (v12.2.2.1.2.2.2.2.2.2.2.2.2.2.2.1 ++ v12.2.2.1.2.2.2.2.2.2.2.2.2.2.2.2.1 ++ v12.2.2.1.2.2.2.2.2.2.2.2.2.2.2.2.2.1 = []),
                                  v12.2.2.1, ())
                            else none
                          else none
                        else some ((), v12.2.1, false, v12.2.2.1, ())).bind
                      fun v13 =>
                      if decide (v13.2.2.2.1.2.2.1 = 1) = true then
                        (if v13.2.1 = true then (M_entry_asked F v13.2.2.2.1).bind fun v14 => some (v14, ()) else some (false, ())).bind fun v15 => some v15.1
                      else
                        if decide (v13.2.2.2.1.2.2.1 = 2) = true then
                          (if v13.2.2.1 = true then (M_entry_answered F v13.2.2.2.1).bind fun v16 => some (v16, ()) else some (false, ())).bind fun v17 =>
                            some v17.1
                        else
                          if decide (v13.2.2.2.1.2.2.1 = 3) = true then
                            (if v13.2.2.1 = true then some (v13.2.1, ()) else some (false, ())).bind fun v18 => some v18.1
                          else some false
theorem t_entry_May (x : ((Int) × (List UInt8) × (Int) × (Int) × (Int) × (Int) × (List UInt8) × (Int) × (Int) × (Int) × (List UInt8) × (List UInt8) × (List UInt8) × (List UInt8) × Unit)) (F : Nat) : fnRun TT Tryd.prog (e_entry_May F) s_entry_May (bodyOf 54) F x = M_entry_May F x := by kernel_rfl
theorem c_entry_May (F : Nat) : Ctr TT Tryd.prog 54 (conOf TT s_entry_May (M_entry_May F)) :=
  ctr_of (code := bodyOf 54) Tryd.func54 (by kernel_rfl) (by kernel_rfl) (by kernel_rfl) (by kernel_rfl) (envS_ok (envS_ok (envS_ok (envS_ok (envS_ok envN_ok (c_entry_named F)) (c_entry_number F)) (c_entry_time F)) (c_entry_asked F)) (c_entry_answered F)) hm (by kernel_rfl) (fun x r h => ⟨F, (t_entry_May x F).trans h⟩)
theorem mo_entry_May {F F' : Nat} (h : F ≤ F') : ∀ v, Le (M_entry_May F v) (M_entry_May F' v) := by
  intro v
  unfold M_entry_May
  with_reducible repeat (first | (intro v) | exact Le.refl _ | exact h | exact mo_entry_named h _ | exact mo_entry_number h _ | exact mo_entry_time h _ | exact mo_entry_asked h _ | exact mo_entry_answered h _ | apply Le.bind | apply Le.ite | apply Le.loop | apply Le.sumC)
end Go.Vm
