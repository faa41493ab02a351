/- Models of functions of the program, and that each keeps its contract: for all arguments of its shape. No condition. -/
import Derived.Test.YtmbnnjpdpginlaaGreatDoorKt
import Derived.Test.YtmbnnjpdpginlaaGreatDoorFcanon
import Derived.Test.YtmbnnjpdpginlaaGreatDoorFpk
import Derived.Test.YtmbnnjpdpginlaaGreatDoorFopn
namespace Go.Vm
open Go.Proofs
set_option linter.unusedVariables false
noncomputable def s_entry_named : Spec Kd := { params := [(.agg [(.int .i64), .str, (.int .i64), (.int .i64), (.int .i64), (.int .i64), .str, (.int .i64), (.int .i64), (.int .i64), .str, .str, .str, .str])], ret := (.one (.a .bool)), pins := [], pl := { nt := 16, cuts := [(1, [(8, ⟨[.tmp 1 (.a (.ptr 64 0)), .tmp 10 (.a .bool), .box 64 (.cells 40 [(.int .i64), .str, (.int .i64), (.int .i64), (.int .i64), (.int .i64), .str, (.int .i64), (.int .i64), (.int .i64), .str, .str, .str, .str])], [], []⟩), (5, ⟨[.tmp 15 (.a .bool)], [], []⟩)])] }, rfrz := [], ts := [2] }
noncomputable def e_entry_named (F : Nat) : Env El := (envS 113 (conOf TT s_canon_Key (M_canon_Key F)) envN)
/-- concierge/entry.named -/
noncomputable def M_entry_named (F : Nat) (x : ((Int) × (List UInt8) × (Int) × (Int) × (Int) × (Int) × (List UInt8) × (Int) × (Int) × (Int) × (List UInt8) × (List UInt8) × (List UInt8) × (List UInt8) × Unit)) : Option (Bool) :=
  (if decide (0 ≤ x.1) = true then some ((), decide (x.1 < 4), x, ()) else some ((), false, x, ())).bind fun v0 =>
    (if v0.2.1 = true then (M_canon_Key F v0.2.2.1.2.1).bind fun v1 => some (v1, ()) else some (false, ())).bind fun v2 => some v2.1
theorem t_entry_named (x : ((Int) × (List UInt8) × (Int) × (Int) × (Int) × (Int) × (List UInt8) × (Int) × (Int) × (Int) × (List UInt8) × (List UInt8) × (List UInt8) × (List UInt8) × Unit)) (F : Nat) : fnRun TT Tryz.prog (e_entry_named F) s_entry_named (bodyOf 86) F x = M_entry_named F x := by kernel_rfl
theorem c_entry_named (F : Nat) : Ctr TT Tryz.prog 86 (conOf TT s_entry_named (M_entry_named F)) :=
  ctr_of (code := bodyOf 86) Tryz.func86 (by kernel_rfl) (by kernel_rfl) (by kernel_rfl) (by kernel_rfl) (envS_ok envN_ok (c_canon_Key F)) hm (by kernel_rfl) (fun x r h => ⟨F, (t_entry_named x F).trans h⟩)
theorem mo_entry_named {F F' : Nat} (h : F ≤ F') : ∀ v, Le (M_entry_named F v) (M_entry_named F' v) := by
  intro v
  unfold M_entry_named
  with_reducible repeat (first | (intro v) | exact Le.refl _ | exact h | exact mo_canon_Key h _ | apply Le.bind | apply Le.ite | apply Le.loop | apply Le.sumC)
noncomputable def s_entry_number : Spec Kd := { params := [(.a (.int .i64))], ret := (.one (.a .bool)), pins := [], pl := { nt := 9, cuts := [(1, [(6, ⟨[.tmp 8 (.a .bool)], [], []⟩)])] }, rfrz := [], ts := [2] }
noncomputable def e_entry_number (F : Nat) : Env El := envN
/-- concierge/entry.number -/
noncomputable def M_entry_number (F : Nat) (x : (Int)) : Option (Bool) :=
  (if decide (1 ≤ x) = true then some (decide (x ≤ 1073741824), ()) else some (false, ())).bind fun v0 => some v0.1
theorem t_entry_number (x : (Int)) (F : Nat) : fnRun TT Tryz.prog (e_entry_number F) s_entry_number (bodyOf 87) F x = M_entry_number F x := by kernel_rfl
theorem c_entry_number (F : Nat) : Ctr TT Tryz.prog 87 (conOf TT s_entry_number (M_entry_number F)) :=
  ctr_of (code := bodyOf 87) Tryz.func87 (by kernel_rfl) (by kernel_rfl) (by kernel_rfl) (by kernel_rfl) envN_ok hm (by kernel_rfl) (fun x r h => ⟨F, (t_entry_number x F).trans h⟩)
theorem mo_entry_number {F F' : Nat} (h : F ≤ F') : ∀ v, Le (M_entry_number F v) (M_entry_number F' v) := by
  intro v
  unfold M_entry_number
  with_reducible repeat (first | (intro v) | exact Le.refl _ | exact h | apply Le.bind | apply Le.ite | apply Le.loop | apply Le.sumC)
noncomputable def s_entry_time : Spec Kd := { params := [(.a (.int .i64))], ret := (.one (.a .bool)), pins := [], pl := { nt := 9, cuts := [(1, [(6, ⟨[.tmp 8 (.a .bool)], [], []⟩)])] }, rfrz := [], ts := [2] }
noncomputable def e_entry_time (F : Nat) : Env El := envN
/-- concierge/entry.time -/
noncomputable def M_entry_time (F : Nat) (x : (Int)) : Option (Bool) :=
  (if decide (0 ≤ x) = true then some (decide (x ≤ 1099511627776), ()) else some (false, ())).bind fun v0 => some v0.1
theorem t_entry_time (x : (Int)) (F : Nat) : fnRun TT Tryz.prog (e_entry_time F) s_entry_time (bodyOf 88) F x = M_entry_time F x := by kernel_rfl
theorem c_entry_time (F : Nat) : Ctr TT Tryz.prog 88 (conOf TT s_entry_time (M_entry_time F)) :=
  ctr_of (code := bodyOf 88) Tryz.func88 (by kernel_rfl) (by kernel_rfl) (by kernel_rfl) (by kernel_rfl) envN_ok hm (by kernel_rfl) (fun x r h => ⟨F, (t_entry_time x F).trans h⟩)
theorem mo_entry_time {F F' : Nat} (h : F ≤ F') : ∀ v, Le (M_entry_time F v) (M_entry_time F' v) := by
  intro v
  unfold M_entry_time
  with_reducible repeat (first | (intro v) | exact Le.refl _ | exact h | apply Le.bind | apply Le.ite | apply Le.loop | apply Le.sumC)
noncomputable def s_entry_asked : Spec Kd := { params := [(.agg [(.int .i64), .str, (.int .i64), (.int .i64), (.int .i64), (.int .i64), .str, (.int .i64), (.int .i64), (.int .i64), .str, .str, .str, .str])], ret := (.one (.a .bool)), pins := [], pl := { nt := 43, cuts := [(3, [(8, ⟨[.tmp 1 (.a (.ptr 64 0)), .tmp 5 (.a .str), .tmp 26 (.a .bool), .box 64 (.cells 40 [(.int .i64), .str, (.int .i64), (.int .i64), (.int .i64), (.int .i64), .str, (.int .i64), (.int .i64), (.int .i64), .str, .str, .str, .str])], [], []⟩), (4, ⟨[.tmp 1 (.a (.ptr 64 0)), .tmp 5 (.a .str), .tmp 30 (.a .bool), .box 64 (.cells 40 [(.int .i64), .str, (.int .i64), (.int .i64), (.int .i64), (.int .i64), .str, (.int .i64), (.int .i64), (.int .i64), .str, .str, .str, .str])], [], []⟩), (6, ⟨[.tmp 1 (.a (.ptr 64 0)), .tmp 36 (.a .bool), .box 64 (.cells 40 [(.int .i64), .str, (.int .i64), (.int .i64), (.int .i64), (.int .i64), .str, (.int .i64), (.int .i64), (.int .i64), .str, .str, .str, .str])], [], []⟩), (6, ⟨[.tmp 42 (.a .bool)], [], []⟩)])] }, rfrz := [], ts := [2] }
noncomputable def e_entry_asked (F : Nat) : Env El := (envS 115 (conOf TT s_canon_Path (M_canon_Path F)) (envS 114 (conOf TT s_canon_Method (M_canon_Method F)) envN))
/-- concierge/entry.asked -/
noncomputable def M_entry_asked (F : Nat) (x : ((Int) × (List UInt8) × (Int) × (Int) × (Int) × (Int) × (List UInt8) × (Int) × (Int) × (Int) × (List UInt8) × (List UInt8) × (List UInt8) × (List UInt8) × Unit)) : Option (Bool) :=
  (M_canon_Method F x.2.2.2.2.2.2.2.2.2.2.2.1).bind fun v0 =>
    (M_canon_Path F x.2.2.2.2.2.2.2.2.2.2.2.2.1).bind fun v1 =>
      (if (!decide (v0.1 = [])) = true then some ((), v1.1, decide (v0.1 = x.2.2.2.2.2.2.2.2.2.2.2.1), x, ()) else some ((), v1.1, false, x, ())).bind fun v2 =>
        (if v2.2.2.1 = true then some ((), v2.2.1, !decide (v2.2.1 = []), v2.2.2.2.1, ()) else some ((), v2.2.1, false, v2.2.2.2.1, ())).bind fun v3 =>
          (if v3.2.2.1 = true then some ((), decide (v3.2.1 = v3.2.2.2.1.2.2.2.2.2.2.2.2.2.2.2.2.1), v3.2.2.2.1, ()) else some ((), false, v3.2.2.2.1, ())).bind
            fun v4 =>
            (if v4.2.1 = true then some (decide ((↑v4.2.2.1.2.2.2.2.2.2.2.2.2.2.2.2.2.1.length : Int) ≤ 80), ()) else some (false, ())).bind fun v5 => some v5.1
theorem t_entry_asked (x : ((Int) × (List UInt8) × (Int) × (Int) × (Int) × (Int) × (List UInt8) × (Int) × (Int) × (Int) × (List UInt8) × (List UInt8) × (List UInt8) × (List UInt8) × Unit)) (F : Nat) : fnRun TT Tryz.prog (e_entry_asked F) s_entry_asked (bodyOf 89) F x = M_entry_asked F x := by kernel_rfl
theorem c_entry_asked (F : Nat) : Ctr TT Tryz.prog 89 (conOf TT s_entry_asked (M_entry_asked F)) :=
  ctr_of (code := bodyOf 89) Tryz.func89 (by kernel_rfl) (by kernel_rfl) (by kernel_rfl) (by kernel_rfl) (envS_ok (envS_ok envN_ok (c_canon_Method F)) (c_canon_Path F)) hm (by kernel_rfl) (fun x r h => ⟨F, (t_entry_asked x F).trans h⟩)
theorem mo_entry_asked {F F' : Nat} (h : F ≤ F') : ∀ v, Le (M_entry_asked F v) (M_entry_asked F' v) := by
  intro v
  unfold M_entry_asked
  with_reducible repeat (first | (intro v) | exact Le.refl _ | exact h | exact mo_canon_Method h _ | exact mo_canon_Path h _ | apply Le.bind | apply Le.ite | apply Le.loop | apply Le.sumC)
noncomputable def s_entry_answered : Spec Kd := { params := [(.agg [(.int .i64), .str, (.int .i64), (.int .i64), (.int .i64), (.int .i64), .str, (.int .i64), (.int .i64), (.int .i64), .str, .str, .str, .str])], ret := (.one (.a .bool)), pins := [], pl := { nt := 13, joins := [(500005, (.norm, ⟨[.tmp 1 (.a (.ptr 64 0)), .tmp 5 (.a .bool), .box 64 (.cells 40 [(.int .i64), .str, (.int .i64), (.int .i64), (.int .i64), (.int .i64), .str, (.int .i64), (.int .i64), (.int .i64), .str, .str, .str, .str])], [], []⟩), []), (400005, (.norm, ⟨[.tmp 1 (.a (.ptr 64 0)), .tmp 5 (.a .bool), .box 64 (.cells 40 [(.int .i64), .str, (.int .i64), (.int .i64), (.int .i64), (.int .i64), .str, (.int .i64), (.int .i64), (.int .i64), .str, .str, .str, .str])], [], []⟩), [])] }, rfrz := [], ts := [2] }
noncomputable def e_entry_answered (F : Nat) : Env El := envN
/-- concierge/entry.answered -/
noncomputable def M_entry_answered (F : Nat) (x : ((Int) × (List UInt8) × (Int) × (Int) × (Int) × (Int) × (List UInt8) × (Int) × (Int) × (Int) × (List UInt8) × (List UInt8) × (List UInt8) × (List UInt8) × Unit)) : Option (Bool) :=
  (if decide (x.2.2.2.2.2.2.2.2.2.1 = 200) = true then some ((), decide (x.2.2.2.2.2.2.2.2.2.1 = 200), x, ())
      else
        (if decide (x.2.2.2.2.2.2.2.2.2.1 = 201) = true then some ((), decide (x.2.2.2.2.2.2.2.2.2.1 = 201), x, ())
            else some ((), decide (x.2.2.2.2.2.2.2.2.2.1 = 402), x, ())).bind
          fun v0 => some ((), v0.2.1, v0.2.2.1, ())).bind
    fun v1 => if v1.2.1 = true then some (decide ((↑v1.2.2.1.2.2.2.2.2.2.2.2.2.2.1.length : Int) ≤ 40)) else some false
theorem t_entry_answered (x : ((Int) × (List UInt8) × (Int) × (Int) × (Int) × (Int) × (List UInt8) × (Int) × (Int) × (Int) × (List UInt8) × (List UInt8) × (List UInt8) × (List UInt8) × Unit)) (F : Nat) : fnRun TT Tryz.prog (e_entry_answered F) s_entry_answered (bodyOf 90) F x = M_entry_answered F x := by kernel_rfl
theorem c_entry_answered (F : Nat) : Ctr TT Tryz.prog 90 (conOf TT s_entry_answered (M_entry_answered F)) :=
  ctr_of (code := bodyOf 90) Tryz.func90 (by kernel_rfl) (by kernel_rfl) (by kernel_rfl) (by kernel_rfl) envN_ok hm (by kernel_rfl) (fun x r h => ⟨F, (t_entry_answered x F).trans h⟩)
theorem mo_entry_answered {F F' : Nat} (h : F ≤ F') : ∀ v, Le (M_entry_answered F v) (M_entry_answered F' v) := by
  intro v
  unfold M_entry_answered
  with_reducible repeat (first | (intro v) | exact Le.refl _ | exact h | apply Le.bind | apply Le.ite | apply Le.loop | apply Le.sumC)
noncomputable def s_entry_May : Spec Kd := { params := [(.agg [(.int .i64), .str, (.int .i64), (.int .i64), (.int .i64), (.int .i64), .str, (.int .i64), (.int .i64), (.int .i64), .str, .str, .str, .str])], ret := (.one (.a .bool)), pins := [], pl := { nt := 92, cuts := [(7, [(5, ⟨[.tmp 78 (.a .bool)], [], []⟩)]), (9, [(5, ⟨[.tmp 85 (.a .bool)], [], []⟩)]), (11, [(4, ⟨[.tmp 91 (.a .bool)], [], []⟩)]), (4, [(14, ⟨[.tmp 1 (.a (.ptr 64 0)), .tmp 3 (.a .bool), .tmp 69 (.a .bool), .box 64 (.cells 40 [(.int .i64), .str, (.int .i64), (.int .i64), (.int .i64), (.int .i64), .str, (.int .i64), (.int .i64), (.int .i64), .str, .str, .str, .str])], [], []⟩)]), (3, [(8, ⟨[.tmp 1 (.a (.ptr 64 0)), .tmp 55 (.a .bool), .box 64 (.cells 40 [(.int .i64), .str, (.int .i64), (.int .i64), (.int .i64), (.int .i64), .str, (.int .i64), (.int .i64), (.int .i64), .str, .str, .str, .str])], [], []⟩)]), (1, [(9, ⟨[.tmp 1 (.a (.ptr 64 0)), .tmp 13 (.a .bool), .box 64 (.cells 40 [(.int .i64), .str, (.int .i64), (.int .i64), (.int .i64), (.int .i64), .str, (.int .i64), (.int .i64), (.int .i64), .str, .str, .str, .str])], [], []⟩), (6, ⟨[.tmp 1 (.a (.ptr 64 0)), .tmp 19 (.a .bool), .box 64 (.cells 40 [(.int .i64), .str, (.int .i64), (.int .i64), (.int .i64), (.int .i64), .str, (.int .i64), (.int .i64), (.int .i64), .str, .str, .str, .str])], [], []⟩), (5, ⟨[.tmp 1 (.a (.ptr 64 0)), .tmp 24 (.a .bool), .box 64 (.cells 40 [(.int .i64), .str, (.int .i64), (.int .i64), (.int .i64), (.int .i64), .str, (.int .i64), (.int .i64), (.int .i64), .str, .str, .str, .str])], [], []⟩), (5, ⟨[.tmp 1 (.a (.ptr 64 0)), .tmp 29 (.a .bool), .box 64 (.cells 40 [(.int .i64), .str, (.int .i64), (.int .i64), (.int .i64), (.int .i64), .str, (.int .i64), (.int .i64), (.int .i64), .str, .str, .str, .str])], [], []⟩), (6, ⟨[.tmp 1 (.a (.ptr 64 0)), .tmp 35 (.a .bool), .box 64 (.cells 40 [(.int .i64), .str, (.int .i64), (.int .i64), (.int .i64), (.int .i64), .str, (.int .i64), (.int .i64), (.int .i64), .str, .str, .str, .str])], [], []⟩), (6, ⟨[.tmp 1 (.a (.ptr 64 0)), .tmp 41 (.a .bool), .box 64 (.cells 40 [(.int .i64), .str, (.int .i64), (.int .i64), (.int .i64), (.int .i64), .str, (.int .i64), (.int .i64), (.int .i64), .str, .str, .str, .str])], [], []⟩), (6, ⟨[.tmp 1 (.a (.ptr 64 0)), .tmp 47 (.a .bool), .box 64 (.cells 40 [(.int .i64), .str, (.int .i64), (.int .i64), (.int .i64), (.int .i64), .str, (.int .i64), (.int .i64), (.int .i64), .str, .str, .str, .str])], [], []⟩)])] }, rfrz := [], ts := [2] }
noncomputable def e_entry_May (F : Nat) : Env El := (envS 90 (conOf TT s_entry_answered (M_entry_answered F)) (envS 89 (conOf TT s_entry_asked (M_entry_asked F)) (envS 88 (conOf TT s_entry_time (M_entry_time F)) (envS 87 (conOf TT s_entry_number (M_entry_number F)) (envS 86 (conOf TT s_entry_named (M_entry_named F)) envN)))))
/-- concierge/entry.May -/
noncomputable def M_entry_May (F : Nat) (x : ((Int) × (List UInt8) × (Int) × (Int) × (Int) × (Int) × (List UInt8) × (Int) × (Int) × (Int) × (List UInt8) × (List UInt8) × (List UInt8) × (List UInt8) × Unit)) : Option (Bool) :=
  ((M_entry_named F x).bind fun v0 => if (!v0) = false then (M_entry_number F x.2.2.2.1).bind fun v1 => some ((), !v1, x, ()) else some ((), true, x, ())).bind
    fun v2 =>
    (if v2.2.1 = false then (M_entry_number F v2.2.2.1.2.2.2.2.1).bind fun v3 => some ((), !v3, v2.2.2.1, ()) else some ((), true, v2.2.2.1, ())).bind fun v4 =>
      (if v4.2.1 = false then some ((), decide (v4.2.2.1.2.2.2.2.2.1 < 0), v4.2.2.1, ()) else some ((), true, v4.2.2.1, ())).bind fun v5 =>
        (if v5.2.1 = false then some ((), decide (5 < v5.2.2.1.2.2.2.2.2.1), v5.2.2.1, ()) else some ((), true, v5.2.2.1, ())).bind fun v6 =>
          (if v6.2.1 = false then some ((), !decide ((↑v6.2.2.1.2.2.2.2.2.2.1.length : Int) = 32), v6.2.2.1, ()) else some ((), true, v6.2.2.1, ())).bind
            fun v7 =>
            (if v7.2.1 = false then (M_entry_time F v7.2.2.1.2.2.2.2.2.2.2.1).bind fun v8 => some ((), !v8, v7.2.2.1, ()) else some ((), true, v7.2.2.1, ())).bind
              fun v9 =>
              (if v9.2.1 = false then (M_entry_time F v9.2.2.1.2.2.2.2.2.2.2.2.1).bind fun v10 => some ((), !v10, v9.2.2.1, ())
                  else some ((), true, v9.2.2.1, ())).bind
                fun v11 =>
                if v11.2.1 = true then some false
                else
                  (if decide (v11.2.2.1.2.2.2.2.2.2.2.2.2.1 = 0) = true then some ((), decide (v11.2.2.1.2.2.2.2.2.2.2.2.2.2.1 = []), v11.2.2.1, ())
                      else some ((), false, v11.2.2.1, ())).bind
                    fun v12 =>
                    (if decide (v12.2.2.1.2.2.2.2.2.2.2.1 = 0) = true then
                          if decide (v12.2.2.1.2.2.2.2.2.2.2.2.2.2.2.1.length + v12.2.2.1.2.2.2.2.2.2.2.2.2.2.2.2.1.length ≤ 9223372036854775807) = true then
                            if
                                decide
                                    ((v12.2.2.1.2.2.2.2.2.2.2.2.2.2.2.1 ++ v12.2.2.1.2.2.2.2.2.2.2.2.2.2.2.2.1).length +
                                        v12.2.2.1.2.2.2.2.2.2.2.2.2.2.2.2.2.1.length ≤
                                      9223372036854775807) =
                                  true then
                              some
                                ((), v12.2.1,
                                  decide (v12.2.2.1.2.2.2.2.2.2.2.2.2.2.2.1 ++ v12.2.2.1.2.2.2.2.2.2.2.2.2.2.2.2.1 ++ v12.2.2.1.2.2.2.2.2.2.2.2.2.2.2.2.2.1 = []),
                                  v12.2.2.1, ())
                            else none
                          else none
                        else some ((), v12.2.1, false, v12.2.2.1, ())).bind
                      fun v13 =>
                      if decide (v13.2.2.2.1.2.2.1 = 1) = true then
                        (if v13.2.1 = true then (M_entry_asked F v13.2.2.2.1).bind fun v14 => some (v14, ()) else some (false, ())).bind fun v15 => some v15.1
                      else
                        if decide (v13.2.2.2.1.2.2.1 = 2) = true then
                          (if v13.2.2.1 = true then (M_entry_answered F v13.2.2.2.1).bind fun v16 => some (v16, ()) else some (false, ())).bind fun v17 =>
                            some v17.1
                        else
                          if decide (v13.2.2.2.1.2.2.1 = 3) = true then
                            (if v13.2.2.1 = true then some (v13.2.1, ()) else some (false, ())).bind fun v18 => some v18.1
                          else some false
theorem t_entry_May (x : ((Int) × (List UInt8) × (Int) × (Int) × (Int) × (Int) × (List UInt8) × (Int) × (Int) × (Int) × (List UInt8) × (List UInt8) × (List UInt8) × (List UInt8) × Unit)) (F : Nat) : fnRun TT Tryz.prog (e_entry_May F) s_entry_May (bodyOf 60) F x = M_entry_May F x := by kernel_rfl
theorem c_entry_May (F : Nat) : Ctr TT Tryz.prog 60 (conOf TT s_entry_May (M_entry_May F)) :=
  ctr_of (code := bodyOf 60) Tryz.func60 (by kernel_rfl) (by kernel_rfl) (by kernel_rfl) (by kernel_rfl) (envS_ok (envS_ok (envS_ok (envS_ok (envS_ok envN_ok (c_entry_named F)) (c_entry_number F)) (c_entry_time F)) (c_entry_asked F)) (c_entry_answered F)) hm (by kernel_rfl) (fun x r h => ⟨F, (t_entry_May x F).trans h⟩)
theorem mo_entry_May {F F' : Nat} (h : F ≤ F') : ∀ v, Le (M_entry_May F v) (M_entry_May F' v) := by
  intro v
  unfold M_entry_May
  with_reducible repeat (first | (intro v) | exact Le.refl _ | exact h | exact mo_entry_named h _ | exact mo_entry_number h _ | exact mo_entry_time h _ | exact mo_entry_asked h _ | exact mo_entry_answered h _ | apply Le.bind | apply Le.ite | apply Le.loop | apply Le.sumC)
noncomputable def s_entry_lay : Spec Kd := { params := [(.pin 52 [(.row 5 .u8), .bool]), (.agg [(.int .i64), .str, (.int .i64), (.int .i64), (.int .i64), (.int .i64), .str, (.int .i64), (.int .i64), (.int .i64), .str, .str, .str, .str])], ret := (.tup []), pins := [[(.row 5 .u8), .bool]], pl := { nt := 55, ends := [(1, ⟨[.tmp 0 (.a (.ptr 1 0)), .tmp 3 (.a (.ptr 192 0)), .box 1 (.cells 52 [(.rowp 1000064), .bool]), .box 1000064 (.row 5 .u8), .box 192 (.cells 40 [(.int .i64), .str, (.int .i64), (.int .i64), (.int .i64), (.int .i64), .str, (.int .i64), (.int .i64), (.int .i64), .str, .str, .str, .str])], [], [.cellRow 1 0 1000064 5 .u8]⟩)] }, rfrz := [], ts := [] }
noncomputable def e_entry_lay (F : Nat) : Env El := (envS 26 (conOf TT s_pack_Packer_Raw (M_pack_Packer_Raw F)) (envS 93 (conOf TT s_pack_Packer_Text (M_pack_Packer_Text F)) (envS 27 (conOf TT s_pack_Packer_Num (M_pack_Packer_Num F)) envN)))
/-- concierge/entry.lay -/
noncomputable def M_entry_lay (F : Nat) (x : ((List (El .u8)) × (Bool) × Unit) × ((Int) × (List UInt8) × (Int) × (Int) × (Int) × (Int) × (List UInt8) × (Int) × (Int) × (Int) × (List UInt8) × (List UInt8) × (List UInt8) × (List UInt8) × Unit)) : Option ((Unit) × ((List (El .u8)) × (Bool) × Unit)) :=
  ((M_pack_Packer_Num F ((x.1.1, x.1.2.1, ()), x.2.1)).bind fun (v0 : Unit × List UInt8 × Bool × Unit) =>
        (M_pack_Packer_Text F ((v0.2.1, v0.2.2.1, ()), x.2.2.1)).bind fun (v1 : Unit × List UInt8 × Bool × Unit) =>
          (M_pack_Packer_Num F ((v1.2.1, v1.2.2.1, ()), x.2.2.2.1)).bind fun (v2 : Unit × List UInt8 × Bool × Unit) =>
            (M_pack_Packer_Num F ((v2.2.1, v2.2.2.1, ()), x.2.2.2.2.1)).bind fun (v3 : Unit × List UInt8 × Bool × Unit) =>
              (M_pack_Packer_Num F ((v3.2.1, v3.2.2.1, ()), x.2.2.2.2.2.1)).bind fun (v4 : Unit × List UInt8 × Bool × Unit) =>
                (M_pack_Packer_Num F ((v4.2.1, v4.2.2.1, ()), x.2.2.2.2.2.2.1)).bind fun (v5 : Unit × List UInt8 × Bool × Unit) =>
                  (M_pack_Packer_Raw F ((v5.2.1, v5.2.2.1, ()), x.2.2.2.2.2.2.2.1)).bind fun (v6 : Unit × List UInt8 × Bool × Unit) =>
                    (M_pack_Packer_Num F ((v6.2.1, v6.2.2.1, ()), x.2.2.2.2.2.2.2.2.1)).bind fun (v7 : Unit × List UInt8 × Bool × Unit) =>
                      (M_pack_Packer_Num F ((v7.2.1, v7.2.2.1, ()), x.2.2.2.2.2.2.2.2.2.1)).bind fun (v8 : Unit × List UInt8 × Bool × Unit) =>
                        some ((), (), ((), v8.2.2.1, ()), v8.2.1, x.2, ())).bind
    fun
      (v9 :
        Unit ×
          Unit ×
            (Unit × Bool × Unit) ×
              List UInt8 ×
                (Int × List UInt8 × Int × Int × Int × Int × List UInt8 × Int × Int × Int × List UInt8 × List UInt8 × List UInt8 × List UInt8 × Unit) × Unit) =>
    if decide (v9.2.2.2.2.1.2.2.1 = 1) = true then
      (M_pack_Packer_Text F ((v9.2.2.2.1, v9.2.2.1.2.1, ()), v9.2.2.2.2.1.2.2.2.2.2.2.2.2.2.2.2.1)).bind fun (v10 : Unit × List UInt8 × Bool × Unit) =>
        (M_pack_Packer_Text F ((v10.2.1, v10.2.2.1, ()), v9.2.2.2.2.1.2.2.2.2.2.2.2.2.2.2.2.2.1)).bind fun (v11 : Unit × List UInt8 × Bool × Unit) =>
          (M_pack_Packer_Text F ((v11.2.1, v11.2.2.1, ()), v9.2.2.2.2.1.2.2.2.2.2.2.2.2.2.2.2.2.2.1)).bind fun (v12 : Unit × List UInt8 × Bool × Unit) =>
            some ((), v12.2.1, v12.2.2.1, ())
    else
      if decide (v9.2.2.2.2.1.2.2.1 = 2) = true then
        (M_pack_Packer_Num F ((v9.2.2.2.1, v9.2.2.1.2.1, ()), v9.2.2.2.2.1.2.2.2.2.2.2.2.2.2.1)).bind fun (v13 : Unit × List UInt8 × Bool × Unit) =>
          (M_pack_Packer_Text F ((v13.2.1, v13.2.2.1, ()), v9.2.2.2.2.1.2.2.2.2.2.2.2.2.2.2.1)).bind fun (v14 : Unit × List UInt8 × Bool × Unit) =>
            some ((), v14.2.1, v14.2.2.1, ())
      else some ((), v9.2.2.2.1, v9.2.2.1.2.1, ())
theorem t_entry_lay (x : ((List (El .u8)) × (Bool) × Unit) × ((Int) × (List UInt8) × (Int) × (Int) × (Int) × (Int) × (List UInt8) × (Int) × (Int) × (Int) × (List UInt8) × (List UInt8) × (List UInt8) × (List UInt8) × Unit)) (F : Nat) : fnRun TT Tryz.prog (e_entry_lay F) s_entry_lay (bodyOf 65) F x = M_entry_lay F x := by kernel_rfl
theorem c_entry_lay (F : Nat) : Ctr TT Tryz.prog 65 (conOf TT s_entry_lay (M_entry_lay F)) :=
  ctr_of (code := bodyOf 65) Tryz.func65 (by kernel_rfl) (by kernel_rfl) (by kernel_rfl) (by kernel_rfl) (envS_ok (envS_ok (envS_ok envN_ok (c_pack_Packer_Num F)) (c_pack_Packer_Text F)) (c_pack_Packer_Raw F)) hm (by kernel_rfl) (fun x r h => ⟨F, (t_entry_lay x F).trans h⟩)
theorem mo_entry_lay {F F' : Nat} (h : F ≤ F') : ∀ v, Le (M_entry_lay F v) (M_entry_lay F' v) := by
  intro v
  unfold M_entry_lay
  with_reducible repeat (first | (intro v) | exact Le.refl _ | exact h | exact mo_pack_Packer_Num h _ | exact mo_pack_Packer_Text h _ | exact mo_pack_Packer_Raw h _ | apply Le.bind | apply Le.ite | apply Le.loop | apply Le.sumC)
noncomputable def s_entry_read : Spec Kd := { params := [(.pin 101 [.str, .bool])], ret := (.one (.agg [(.int .i64), .str, (.int .i64), (.int .i64), (.int .i64), (.int .i64), .str, (.int .i64), (.int .i64), (.int .i64), .str, .str, .str, .str])), pins := [[.str, .bool]], pl := { nt := 45, bjoins := [(0, (.norm, ⟨[.tmp 0 (.a (.ptr 1 0)), .tmp 2 (.a (.ptr 128 0)), .tmp 3 (.a (.ptr 192 0)), .box 1 (.cells 101 [.str, .bool]), .box 128 (.cells 40 [(.int .i64), .str, (.int .i64), (.int .i64), (.int .i64), (.int .i64), .str, (.int .i64), (.int .i64), (.int .i64), .str, .str, .str, .str]), .box 192 (.cells 40 [(.int .i64), .str, (.int .i64), (.int .i64), (.int .i64), (.int .i64), .str, (.int .i64), (.int .i64), (.int .i64), .str, .str, .str, .str])], [], []⟩), [])], cuts := [(1, [(21, ⟨[.tmp 0 (.a (.ptr 1 0)), .tmp 2 (.a (.ptr 128 0)), .tmp 3 (.a (.ptr 192 0)), .box 1 (.cells 101 [.str, .bool]), .box 128 (.cells 40 [(.int .i64), .str, (.int .i64), (.int .i64), (.int .i64), (.int .i64), .str, (.int .i64), (.int .i64), (.int .i64), .str, .str, .str, .str]), .box 192 (.cells 40 [(.int .i64), .str, (.int .i64), (.int .i64), (.int .i64), (.int .i64), .str, (.int .i64), (.int .i64), (.int .i64), .str, .str, .str, .str])], [], []⟩)])] }, rfrz := [], ts := [45], rc := [(2, some 40)] }
noncomputable def e_entry_read (F : Nat) : Env El := (envS 35 (conOf TT s_pack_Opener_Raw (M_pack_Opener_Raw F)) (envS 96 (conOf TT s_pack_Opener_Text (M_pack_Opener_Text F)) (envS 36 (conOf TT s_pack_Opener_Num (M_pack_Opener_Num F)) envN)))
/-- concierge/entry.read -/
noncomputable def M_entry_read (F : Nat) (x : ((List UInt8) × (Bool) × Unit)) : Option (((Int) × (List UInt8) × (Int) × (Int) × (Int) × (Int) × (List UInt8) × (Int) × (Int) × (Int) × (List UInt8) × (List UInt8) × (List UInt8) × (List UInt8) × Unit) × ((List UInt8) × (Bool) × Unit)) :=
  ((M_pack_Opener_Num F ((x.1, x.2.1, ()), 4)).bind fun (v0 : Int × List UInt8 × Bool × Unit) =>
        (M_pack_Opener_Text F ((v0.2.1, v0.2.2.1, ()), 24)).bind fun (v1 : List UInt8 × List UInt8 × Bool × Unit) =>
          (M_pack_Opener_Num F ((v1.2.1, v1.2.2.1, ()), 3)).bind fun (v2 : Int × List UInt8 × Bool × Unit) =>
            (M_pack_Opener_Num F ((v2.2.1, v2.2.2.1, ()), 1073741824)).bind fun (v3 : Int × List UInt8 × Bool × Unit) =>
              (M_pack_Opener_Num F ((v3.2.1, v3.2.2.1, ()), 1073741824)).bind fun (v4 : Int × List UInt8 × Bool × Unit) =>
                (M_pack_Opener_Num F ((v4.2.1, v4.2.2.1, ()), 5)).bind fun (v5 : Int × List UInt8 × Bool × Unit) =>
                  (M_pack_Opener_Raw F ((v5.2.1, v5.2.2.1, ()), 32)).bind fun (v6 : List UInt8 × List UInt8 × Bool × Unit) =>
                    (M_pack_Opener_Num F ((v6.2.1, v6.2.2.1, ()), 1099511627776)).bind fun (v7 : Int × List UInt8 × Bool × Unit) =>
                      (M_pack_Opener_Num F ((v7.2.1, v7.2.2.1, ()), 1099511627776)).bind fun (v8 : Int × List UInt8 × Bool × Unit) =>
                        some
                          ((), (), (), (v8.2.1, v8.2.2.1, ()), (0, [], 0, 0, 0, 0, [], 0, 0, 0, [], [], [], [], ()),
                            (v0.1, v1.1, v2.1, v3.1, v4.1, v5.1, v6.1, v7.1, v8.1, 0, [], [], [], [], ()), ())).bind
    fun
      (v9 :
        Unit ×
          Unit ×
            Unit ×
              (List UInt8 × Bool × Unit) ×
                (Int × List UInt8 × Int × Int × Int × Int × List UInt8 × Int × Int × Int × List UInt8 × List UInt8 × List UInt8 × List UInt8 × Unit) ×
                  (Int × List UInt8 × Int × Int × Int × Int × List UInt8 × Int × Int × Int × List UInt8 × List UInt8 × List UInt8 × List UInt8 × Unit) ×
                    Unit) =>
    (if decide (v9.2.2.2.2.2.1.2.2.1 = 1) = true then
          (M_pack_Opener_Text F ((v9.2.2.2.1.1, v9.2.2.2.1.2.1, ()), 8)).bind fun (v10 : List UInt8 × List UInt8 × Bool × Unit) =>
            (M_pack_Opener_Text F ((v10.2.1, v10.2.2.1, ()), 60)).bind fun (v11 : List UInt8 × List UInt8 × Bool × Unit) =>
              (M_pack_Opener_Text F ((v11.2.1, v11.2.2.1, ()), 80)).bind fun (v12 : List UInt8 × List UInt8 × Bool × Unit) =>
                some
                  ((), (), (), (v12.2.1, v12.2.2.1, ()), v9.2.2.2.2.1,
                    (v9.2.2.2.2.2.1.1, v9.2.2.2.2.2.1.2.1, v9.2.2.2.2.2.1.2.2.1, v9.2.2.2.2.2.1.2.2.2.1, v9.2.2.2.2.2.1.2.2.2.2.1, v9.2.2.2.2.2.1.2.2.2.2.2.1,
                      v9.2.2.2.2.2.1.2.2.2.2.2.2.1, v9.2.2.2.2.2.1.2.2.2.2.2.2.2.1, v9.2.2.2.2.2.1.2.2.2.2.2.2.2.2.1, v9.2.2.2.2.2.1.2.2.2.2.2.2.2.2.2.1,
                      v9.2.2.2.2.2.1.2.2.2.2.2.2.2.2.2.2.1, v10.1, v11.1, v12.1, ()),
                    ())
        else
          if decide (v9.2.2.2.2.2.1.2.2.1 = 2) = true then
            (M_pack_Opener_Num F ((v9.2.2.2.1.1, v9.2.2.2.1.2.1, ()), 503)).bind fun (v13 : Int × List UInt8 × Bool × Unit) =>
              (M_pack_Opener_Text F ((v13.2.1, v13.2.2.1, ()), 40)).bind fun (v14 : List UInt8 × List UInt8 × Bool × Unit) =>
                some
                  ((), (), (), (v14.2.1, v14.2.2.1, ()), v9.2.2.2.2.1,
                    (v9.2.2.2.2.2.1.1, v9.2.2.2.2.2.1.2.1, v9.2.2.2.2.2.1.2.2.1, v9.2.2.2.2.2.1.2.2.2.1, v9.2.2.2.2.2.1.2.2.2.2.1, v9.2.2.2.2.2.1.2.2.2.2.2.1,
                      v9.2.2.2.2.2.1.2.2.2.2.2.2.1, v9.2.2.2.2.2.1.2.2.2.2.2.2.2.1, v9.2.2.2.2.2.1.2.2.2.2.2.2.2.2.1, v13.1, v14.1,
                      v9.2.2.2.2.2.1.2.2.2.2.2.2.2.2.2.2.2.1, v9.2.2.2.2.2.1.2.2.2.2.2.2.2.2.2.2.2.2.1, v9.2.2.2.2.2.1.2.2.2.2.2.2.2.2.2.2.2.2.2.1, ()),
                    ())
          else some ((), v9.2)).bind
      fun
        (v15 :
          Unit ×
            Unit ×
              Unit ×
                (List UInt8 × Bool × Unit) ×
                  (Int × List UInt8 × Int × Int × Int × Int × List UInt8 × Int × Int × Int × List UInt8 × List UInt8 × List UInt8 × List UInt8 × Unit) ×
                    (Int × List UInt8 × Int × Int × Int × Int × List UInt8 × Int × Int × Int × List UInt8 × List UInt8 × List UInt8 × List UInt8 × Unit) ×
                      Unit) =>
      some (v15.2.2.2.2.2.1, v15.2.2.2.1.1, v15.2.2.2.1.2.1, ())
theorem t_entry_read (x : ((List UInt8) × (Bool) × Unit)) (F : Nat) : fnRun TT Tryz.prog (e_entry_read F) s_entry_read (bodyOf 71) F x = M_entry_read F x := by kernel_rfl
theorem c_entry_read (F : Nat) : Ctr TT Tryz.prog 71 (conOf TT s_entry_read (M_entry_read F)) :=
  ctr_of (code := bodyOf 71) Tryz.func71 (by kernel_rfl) (by kernel_rfl) (by kernel_rfl) (by kernel_rfl) (envS_ok (envS_ok (envS_ok envN_ok (c_pack_Opener_Num F)) (c_pack_Opener_Text F)) (c_pack_Opener_Raw F)) hm (by kernel_rfl) (fun x r h => ⟨F, (t_entry_read x F).trans h⟩)
theorem mo_entry_read {F F' : Nat} (h : F ≤ F') : ∀ v, Le (M_entry_read F v) (M_entry_read F' v) := by
  intro v
  unfold M_entry_read
  with_reducible repeat (first | (intro v) | exact Le.refl _ | exact h | exact mo_pack_Opener_Num h _ | exact mo_pack_Opener_Text h _ | exact mo_pack_Opener_Raw h _ | apply Le.bind | apply Le.ite | apply Le.loop | apply Le.sumC)
noncomputable def s_entry_Pack : Spec Kd := { params := [(.agg [(.int .i64), .str, (.int .i64), (.int .i64), (.int .i64), (.int .i64), .str, (.int .i64), (.int .i64), (.int .i64), .str, .str, .str, .str])], ret := (.tup [(.a .str), (.a (.int .i64))]), pins := [], pl := { nt := 11 }, rfrz := [], ts := [2, 3] }
noncomputable def e_entry_Pack (F : Nat) : Env El := (envS 28 (conOf TT s_pack_Packer_String (M_pack_Packer_String F)) (envS 65 (conOf TT s_entry_lay (M_entry_lay F)) (envS 60 (conOf TT s_entry_May (M_entry_May F)) envN)))
/-- concierge/entry.Pack -/
noncomputable def M_entry_Pack (F : Nat) (x : ((Int) × (List UInt8) × (Int) × (Int) × (Int) × (Int) × (List UInt8) × (Int) × (Int) × (Int) × (List UInt8) × (List UInt8) × (List UInt8) × (List UInt8) × Unit)) : Option ((List UInt8) × (Int)) :=
  (M_entry_May F x).bind fun (v0 : Bool) =>
    if (!v0) = true then some ([], 1)
    else
      (M_entry_lay F (([], false, ()), x)).bind fun (v1 : Unit × List UInt8 × Bool × Unit) =>
        (M_pack_Packer_String F (v1.2.1, v1.2.2.1, ())).bind fun (v2 : List UInt8 × List UInt8 × Bool × Unit) => some (v2.1, 0)
theorem t_entry_Pack (x : ((Int) × (List UInt8) × (Int) × (Int) × (Int) × (Int) × (List UInt8) × (Int) × (Int) × (Int) × (List UInt8) × (List UInt8) × (List UInt8) × (List UInt8) × Unit)) (F : Nat) : fnRun TT Tryz.prog (e_entry_Pack F) s_entry_Pack (bodyOf 30) F x = M_entry_Pack F x := by kernel_rfl
theorem c_entry_Pack (F : Nat) : Ctr TT Tryz.prog 30 (conOf TT s_entry_Pack (M_entry_Pack F)) :=
  ctr_of (code := bodyOf 30) Tryz.func30 (by kernel_rfl) (by kernel_rfl) (by kernel_rfl) (by kernel_rfl) (envS_ok (envS_ok (envS_ok envN_ok (c_entry_May F)) (c_entry_lay F)) (c_pack_Packer_String F)) hm (by kernel_rfl) (fun x r h => ⟨F, (t_entry_Pack x F).trans h⟩)
theorem mo_entry_Pack {F F' : Nat} (h : F ≤ F') : ∀ v, Le (M_entry_Pack F v) (M_entry_Pack F' v) := by
  intro v
  unfold M_entry_Pack
  with_reducible repeat (first | (intro v) | exact Le.refl _ | exact h | exact mo_entry_May h _ | exact mo_entry_lay h _ | exact mo_pack_Packer_String h _ | apply Le.bind | apply Le.ite | apply Le.loop | apply Le.sumC)
noncomputable def s_entry_Open : Spec Kd := { params := [(.a .str)], ret := (.tup [(.agg [(.int .i64), .str, (.int .i64), (.int .i64), (.int .i64), (.int .i64), .str, (.int .i64), (.int .i64), (.int .i64), .str, .str, .str, .str]), (.a (.int .i64))]), pins := [], pl := { nt := 20, cuts := [(3, [(8, ⟨[.tmp 2 (.a (.ptr 128 0)), .tmp 5 (.a (.ptr 320 0)), .tmp 17 (.a .bool), .box 128 (.cells 40 [(.int .i64), .str, (.int .i64), (.int .i64), (.int .i64), (.int .i64), .str, (.int .i64), (.int .i64), (.int .i64), .str, .str, .str, .str]), .box 320 (.cells 40 [(.int .i64), .str, (.int .i64), (.int .i64), (.int .i64), (.int .i64), .str, (.int .i64), (.int .i64), (.int .i64), .str, .str, .str, .str])], [], []⟩)])] }, rfrz := [], ts := [20, 21], rc := [(2, some 40), (3, none)] }
noncomputable def e_entry_Open (F : Nat) : Env El := (envS 60 (conOf TT s_entry_May (M_entry_May F)) (envS 37 (conOf TT s_pack_Opener_Done (M_pack_Opener_Done F)) (envS 71 (conOf TT s_entry_read (M_entry_read F)) (envS 34 (conOf TT s_pack_Open (M_pack_Open F)) envN))))
/-- concierge/entry.Open -/
noncomputable def M_entry_Open (F : Nat) (x : (List UInt8)) : Option (((Int) × (List UInt8) × (Int) × (Int) × (Int) × (Int) × (List UInt8) × (Int) × (Int) × (Int) × (List UInt8) × (List UInt8) × (List UInt8) × (List UInt8) × Unit) × (Int)) :=
  (M_pack_Open F x).bind fun (v0 : List UInt8 × Bool × Unit) =>
    (M_entry_read F (v0.1, v0.2.1, ())).bind
      fun
        (v1 :
          (Int × List UInt8 × Int × Int × Int × Int × List UInt8 × Int × Int × Int × List UInt8 × List UInt8 × List UInt8 × List UInt8 × Unit) ×
            List UInt8 × Bool × Unit) =>
      ((M_pack_Opener_Done F (v1.2.1, v1.2.2.1, ())).bind fun (v2 : Bool × List UInt8 × Bool × Unit) =>
            if (!v2.1) = false then
              (M_entry_May F v1.1).bind fun (v3 : Bool) => some ((), (), !v3, (0, [], 0, 0, 0, 0, [], 0, 0, 0, [], [], [], [], ()), v1.1, ())
            else some ((), (), true, (0, [], 0, 0, 0, 0, [], 0, 0, 0, [], [], [], [], ()), v1.1, ())).bind
        fun
          (v4 :
            Unit ×
              Unit ×
                Bool ×
                  (Int × List UInt8 × Int × Int × Int × Int × List UInt8 × Int × Int × Int × List UInt8 × List UInt8 × List UInt8 × List UInt8 × Unit) ×
                    (Int × List UInt8 × Int × Int × Int × Int × List UInt8 × Int × Int × Int × List UInt8 × List UInt8 × List UInt8 × List UInt8 × Unit) ×
                      Unit) =>
        if v4.2.2.1 = true then some ((0, [], 0, 0, 0, 0, [], 0, 0, 0, [], [], [], [], ()), 3) else some (v4.2.2.2.2.1, 0)
theorem t_entry_Open (x : (List UInt8)) (F : Nat) : fnRun TT Tryz.prog (e_entry_Open F) s_entry_Open (bodyOf 38) F x = M_entry_Open F x := by kernel_rfl
theorem c_entry_Open (F : Nat) : Ctr TT Tryz.prog 38 (conOf TT s_entry_Open (M_entry_Open F)) :=
  ctr_of (code := bodyOf 38) Tryz.func38 (by kernel_rfl) (by kernel_rfl) (by kernel_rfl) (by kernel_rfl) (envS_ok (envS_ok (envS_ok (envS_ok envN_ok (c_pack_Open F)) (c_entry_read F)) (c_pack_Opener_Done F)) (c_entry_May F)) hm (by kernel_rfl) (fun x r h => ⟨F, (t_entry_Open x F).trans h⟩)
theorem mo_entry_Open {F F' : Nat} (h : F ≤ F') : ∀ v, Le (M_entry_Open F v) (M_entry_Open F' v) := by
  intro v
  unfold M_entry_Open
  with_reducible repeat (first | (intro v) | exact Le.refl _ | exact h | exact mo_pack_Open h _ | exact mo_entry_read h _ | exact mo_pack_Opener_Done h _ | exact mo_entry_May h _ | apply Le.bind | apply Le.ite | apply Le.loop | apply Le.sumC)

end Go.Vm
