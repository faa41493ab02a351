import Derived.Test.YtihpjgcbmipdbaaGreatDoorKt
import Derived.Test.YtihpjgcbmipdbaaGreatDoorFcanon
/- Models of functions of the program, and that each keeps its contract: for all arguments of its shape. No condition. -/
namespace Go.Vm
open Go.Proofs
set_option linter.unusedVariables false
noncomputable def s_entry_named : Spec Kd := { params := [(.agg [(.int .i64), .str, (.int .i64), (.int .i64), (.int .i64), (.int .i64), .str, (.int .i64), (.int .i64), (.int .i64), .str, .str, .str, .str])], ret := (.one (.a .bool)), pins := [], pl := { nt := 16, cuts := [(1, [(8, ⟨[.tmp 1 (.a (.ptr 64 0)), .tmp 10 (.a .bool), .box 64 (.cells 35 [(.int .i64), .str, (.int .i64), (.int .i64), (.int .i64), (.int .i64), .str, (.int .i64), (.int .i64), (.int .i64), .str, .str, .str, .str])], [], []⟩), (5, ⟨[.tmp 15 (.a .bool)], [], []⟩)])] }, rfrz := [], ts := [2] }
noncomputable def e_entry_named (F : Nat) : Env El := (envS 105 (conOf TT s_canon_Key (M_canon_Key F)) envN)
noncomputable def M_entry_named (F : Nat) (x : ((Int) × (List UInt8) × (Int) × (Int) × (Int) × (Int) × (List UInt8) × (Int) × (Int) × (Int) × (List UInt8) × (List UInt8) × (List UInt8) × (List UInt8) × Unit)) : Option (Bool) :=
 (if decide (0 ≤ x.1) = true then some ((), decide (x.1 < 4), x, ()) else some ((), false, x, ())).bind fun v0 =>
  (if v0.2.1 = true then (M_canon_Key F v0.2.2.1.2.1).bind fun v1 => some (v1, ()) else some (false, ())).bind fun v2 => some v2.1
theorem t_entry_named (x : ((Int) × (List UInt8) × (Int) × (Int) × (Int) × (Int) × (List UInt8) × (Int) × (Int) × (Int) × (List UInt8) × (List UInt8) × (List UInt8) × (List UInt8) × Unit)) (F : Nat) : fnRun TT Tryz.prog (e_entry_named F) s_entry_named (bodyOf 205) F x = M_entry_named F x := by kernel_rfl
theorem c_entry_named (F : Nat) : Ctr TT Tryz.prog 205 (conOf TT s_entry_named (M_entry_named F)) :=
 ctr_of (code := bodyOf 205) Tryz.func205 (by kernel_rfl) (by kernel_rfl) (by kernel_rfl) (by kernel_rfl) (envS_ok envN_ok (c_canon_Key F)) hm (by kernel_rfl) (fun x r h => ⟨F, (t_entry_named x F).trans h⟩)
noncomputable def s_entry_number : Spec Kd := { params := [(.a (.int .i64))], ret := (.one (.a .bool)), pins := [], pl := { nt := 9, cuts := [(1, [(6, ⟨[.tmp 8 (.a .bool)], [], []⟩)])] }, rfrz := [], ts := [2] }
noncomputable def e_entry_number (F : Nat) : Env El := envN
noncomputable def M_entry_number (F : Nat) (x : (Int)) : Option (Bool) :=
 (if decide (1 ≤ x) = true then some (decide (x ≤ 1073741824), ()) else some (false, ())).bind fun v0 => some v0.1
theorem t_entry_number (x : (Int)) (F : Nat) : fnRun TT Tryz.prog (e_entry_number F) s_entry_number (bodyOf 206) F x = M_entry_number F x := by kernel_rfl
theorem c_entry_number (F : Nat) : Ctr TT Tryz.prog 206 (conOf TT s_entry_number (M_entry_number F)) :=
 ctr_of (code := bodyOf 206) Tryz.func206 (by kernel_rfl) (by kernel_rfl) (by kernel_rfl) (by kernel_rfl) envN_ok hm (by kernel_rfl) (fun x r h => ⟨F, (t_entry_number x F).trans h⟩)
noncomputable def s_entry_time : Spec Kd := { params := [(.a (.int .i64))], ret := (.one (.a .bool)), pins := [], pl := { nt := 9, cuts := [(1, [(6, ⟨[.tmp 8 (.a .bool)], [], []⟩)])] }, rfrz := [], ts := [2] }
noncomputable def e_entry_time (F : Nat) : Env El := envN
noncomputable def M_entry_time (F : Nat) (x : (Int)) : Option (Bool) :=
 (if decide (0 ≤ x) = true then some (decide (x ≤ 1099511627776), ()) else some (false, ())).bind fun v0 => some v0.1
theorem t_entry_time (x : (Int)) (F : Nat) : fnRun TT Tryz.prog (e_entry_time F) s_entry_time (bodyOf 207) F x = M_entry_time F x := by kernel_rfl
theorem c_entry_time (F : Nat) : Ctr TT Tryz.prog 207 (conOf TT s_entry_time (M_entry_time F)) :=
 ctr_of (code := bodyOf 207) Tryz.func207 (by kernel_rfl) (by kernel_rfl) (by kernel_rfl) (by kernel_rfl) envN_ok hm (by kernel_rfl) (fun x r h => ⟨F, (t_entry_time x F).trans h⟩)
noncomputable def s_entry_asked : Spec Kd := { params := [(.agg [(.int .i64), .str, (.int .i64), (.int .i64), (.int .i64), (.int .i64), .str, (.int .i64), (.int .i64), (.int .i64), .str, .str, .str, .str])], ret := (.one (.a .bool)), pins := [], pl := { nt := 43, cuts := [(3, [(8, ⟨[.tmp 1 (.a (.ptr 64 0)), .tmp 5 (.a .str), .tmp 26 (.a .bool), .box 64 (.cells 35 [(.int .i64), .str, (.int .i64), (.int .i64), (.int .i64), (.int .i64), .str, (.int .i64), (.int .i64), (.int .i64), .str, .str, .str, .str])], [], []⟩), (4, ⟨[.tmp 1 (.a (.ptr 64 0)), .tmp 5 (.a .str), .tmp 30 (.a .bool), .box 64 (.cells 35 [(.int .i64), .str, (.int .i64), (.int .i64), (.int .i64), (.int .i64), .str, (.int .i64), (.int .i64), (.int .i64), .str, .str, .str, .str])], [], []⟩), (6, ⟨[.tmp 1 (.a (.ptr 64 0)), .tmp 36 (.a .bool), .box 64 (.cells 35 [(.int .i64), .str, (.int .i64), (.int .i64), (.int .i64), (.int .i64), .str, (.int .i64), (.int .i64), (.int .i64), .str, .str, .str, .str])], [], []⟩), (6, ⟨[.tmp 42 (.a .bool)], [], []⟩)])] }, rfrz := [], ts := [2] }
noncomputable def e_entry_asked (F : Nat) : Env El := (envS 104 (conOf TT s_canon_Path (M_canon_Path F)) (envS 103 (conOf TT s_canon_Method (M_canon_Method F)) envN))
noncomputable def M_entry_asked (F : Nat) (x : ((Int) × (List UInt8) × (Int) × (Int) × (Int) × (Int) × (List UInt8) × (Int) × (Int) × (Int) × (List UInt8) × (List UInt8) × (List UInt8) × (List UInt8) × Unit)) : Option (Bool) :=
 (M_canon_Method F x.2.2.2.2.2.2.2.2.2.2.2.1).bind fun v0 =>
  (M_canon_Path F x.2.2.2.2.2.2.2.2.2.2.2.2.1).bind fun v1 =>
   (if (!decide (v0.1 = [])) = true then some ((), v1.1, decide (v0.1 = x.2.2.2.2.2.2.2.2.2.2.2.1), x, ()) else some ((), v1.1, false, x, ())).bind fun v2 =>
    (if v2.2.2.1 = true then some ((), v2.2.1, !decide (v2.2.1 = []), v2.2.2.2.1, ()) else some ((), v2.2.1, false, v2.2.2.2.1, ())).bind fun v3 =>
     (if v3.2.2.1 = true then some ((), decide (v3.2.1 = v3.2.2.2.1.2.2.2.2.2.2.2.2.2.2.2.2.1), v3.2.2.2.1, ()) else some ((), false, v3.2.2.2.1, ())).bind
      fun v4 =>
      (if v4.2.1 = true then some (decide ((↑v4.2.2.1.2.2.2.2.2.2.2.2.2.2.2.2.2.1.length : Int) ≤ 80), ()) else some (false, ())).bind fun v5 => some v5.1
theorem t_entry_asked (x : ((Int) × (List UInt8) × (Int) × (Int) × (Int) × (Int) × (List UInt8) × (Int) × (Int) × (Int) × (List UInt8) × (List UInt8) × (List UInt8) × (List UInt8) × Unit)) (F : Nat) : fnRun TT Tryz.prog (e_entry_asked F) s_entry_asked (bodyOf 208) F x = M_entry_asked F x := by kernel_rfl
theorem c_entry_asked (F : Nat) : Ctr TT Tryz.prog 208 (conOf TT s_entry_asked (M_entry_asked F)) :=
 ctr_of (code := bodyOf 208) Tryz.func208 (by kernel_rfl) (by kernel_rfl) (by kernel_rfl) (by kernel_rfl) (envS_ok (envS_ok envN_ok (c_canon_Method F)) (c_canon_Path F)) hm (by kernel_rfl) (fun x r h => ⟨F, (t_entry_asked x F).trans h⟩)
noncomputable def s_entry_answered : Spec Kd := { params := [(.agg [(.int .i64), .str, (.int .i64), (.int .i64), (.int .i64), (.int .i64), .str, (.int .i64), (.int .i64), (.int .i64), .str, .str, .str, .str])], ret := (.one (.a .bool)), pins := [], pl := { nt := 13, joins := [(500005, (.norm, ⟨[.tmp 1 (.a (.ptr 64 0)), .tmp 5 (.a .bool), .box 64 (.cells 35 [(.int .i64), .str, (.int .i64), (.int .i64), (.int .i64), (.int .i64), .str, (.int .i64), (.int .i64), (.int .i64), .str, .str, .str, .str])], [], []⟩), []), (400005, (.norm, ⟨[.tmp 1 (.a (.ptr 64 0)), .tmp 5 (.a .bool), .box 64 (.cells 35 [(.int .i64), .str, (.int .i64), (.int .i64), (.int .i64), (.int .i64), .str, (.int .i64), (.int .i64), (.int .i64), .str, .str, .str, .str])], [], []⟩), [])] }, rfrz := [], ts := [2] }
noncomputable def e_entry_answered (F : Nat) : Env El := envN
noncomputable def M_entry_answered (F : Nat) (x : ((Int) × (List UInt8) × (Int) × (Int) × (Int) × (Int) × (List UInt8) × (Int) × (Int) × (Int) × (List UInt8) × (List UInt8) × (List UInt8) × (List UInt8) × Unit)) : Option (Bool) :=
 (if decide (x.2.2.2.2.2.2.2.2.2.1 = 200) = true then some ((), decide (x.2.2.2.2.2.2.2.2.2.1 = 200), x, ())
   else
    (if decide (x.2.2.2.2.2.2.2.2.2.1 = 201) = true then some ((), decide (x.2.2.2.2.2.2.2.2.2.1 = 201), x, ())
      else some ((), decide (x.2.2.2.2.2.2.2.2.2.1 = 402), x, ())).bind
     fun v0 => some ((), v0.2.1, v0.2.2.1, ())).bind
  fun v1 => if v1.2.1 = true then some (decide ((↑v1.2.2.1.2.2.2.2.2.2.2.2.2.2.1.length : Int) ≤ 40)) else some false
theorem t_entry_answered (x : ((Int) × (List UInt8) × (Int) × (Int) × (Int) × (Int) × (List UInt8) × (Int) × (Int) × (Int) × (List UInt8) × (List UInt8) × (List UInt8) × (List UInt8) × Unit)) (F : Nat) : fnRun TT Tryz.prog (e_entry_answered F) s_entry_answered (bodyOf 209) F x = M_entry_answered F x := by kernel_rfl
theorem c_entry_answered (F : Nat) : Ctr TT Tryz.prog 209 (conOf TT s_entry_answered (M_entry_answered F)) :=
 ctr_of (code := bodyOf 209) Tryz.func209 (by kernel_rfl) (by kernel_rfl) (by kernel_rfl) (by kernel_rfl) envN_ok hm (by kernel_rfl) (fun x r h => ⟨F, (t_entry_answered x F).trans h⟩)
noncomputable def s_entry_May : Spec Kd := { params := [(.agg [(.int .i64), .str, (.int .i64), (.int .i64), (.int .i64), (.int .i64), .str, (.int .i64), (.int .i64), (.int .i64), .str, .str, .str, .str])], ret := (.one (.a .bool)), pins := [], pl := { nt := 92, cuts := [(7, [(5, ⟨[.tmp 78 (.a .bool)], [], []⟩)]), (9, [(5, ⟨[.tmp 85 (.a .bool)], [], []⟩)]), (11, [(4, ⟨[.tmp 91 (.a .bool)], [], []⟩)]), (4, [(14, ⟨[.tmp 1 (.a (.ptr 64 0)), .tmp 3 (.a .bool), .tmp 69 (.a .bool), .box 64 (.cells 35 [(.int .i64), .str, (.int .i64), (.int .i64), (.int .i64), (.int .i64), .str, (.int .i64), (.int .i64), (.int .i64), .str, .str, .str, .str])], [], []⟩)]), (3, [(8, ⟨[.tmp 1 (.a (.ptr 64 0)), .tmp 55 (.a .bool), .box 64 (.cells 35 [(.int .i64), .str, (.int .i64), (.int .i64), (.int .i64), (.int .i64), .str, (.int .i64), (.int .i64), (.int .i64), .str, .str, .str, .str])], [], []⟩)]), (1, [(9, ⟨[.tmp 1 (.a (.ptr 64 0)), .tmp 13 (.a .bool), .box 64 (.cells 35 [(.int .i64), .str, (.int .i64), (.int .i64), (.int .i64), (.int .i64), .str, (.int .i64), (.int .i64), (.int .i64), .str, .str, .str, .str])], [], []⟩), (6, ⟨[.tmp 1 (.a (.ptr 64 0)), .tmp 19 (.a .bool), .box 64 (.cells 35 [(.int .i64), .str, (.int .i64), (.int .i64), (.int .i64), (.int .i64), .str, (.int .i64), (.int .i64), (.int .i64), .str, .str, .str, .str])], [], []⟩), (5, ⟨[.tmp 1 (.a (.ptr 64 0)), .tmp 24 (.a .bool), .box 64 (.cells 35 [(.int .i64), .str, (.int .i64), (.int .i64), (.int .i64), (.int .i64), .str, (.int .i64), (.int .i64), (.int .i64), .str, .str, .str, .str])], [], []⟩), (5, ⟨[.tmp 1 (.a (.ptr 64 0)), .tmp 29 (.a .bool), .box 64 (.cells 35 [(.int .i64), .str, (.int .i64), (.int .i64), (.int .i64), (.int .i64), .str, (.int .i64), (.int .i64), (.int .i64), .str, .str, .str, .str])], [], []⟩), (6, ⟨[.tmp 1 (.a (.ptr 64 0)), .tmp 35 (.a .bool), .box 64 (.cells 35 [(.int .i64), .str, (.int .i64), (.int .i64), (.int .i64), (.int .i64), .str, (.int .i64), (.int .i64), (.int .i64), .str, .str, .str, .str])], [], []⟩), (6, ⟨[.tmp 1 (.a (.ptr 64 0)), .tmp 41 (.a .bool), .box 64 (.cells 35 [(.int .i64), .str, (.int .i64), (.int .i64), (.int .i64), (.int .i64), .str, (.int .i64), (.int .i64), (.int .i64), .str, .str, .str, .str])], [], []⟩), (6, ⟨[.tmp 1 (.a (.ptr 64 0)), .tmp 47 (.a .bool), .box 64 (.cells 35 [(.int .i64), .str, (.int .i64), (.int .i64), (.int .i64), (.int .i64), .str, (.int .i64), (.int .i64), (.int .i64), .str, .str, .str, .str])], [], []⟩)])] }, rfrz := [], ts := [2] }
noncomputable def e_entry_May (F : Nat) : Env El := (envS 209 (conOf TT s_entry_answered (M_entry_answered F)) (envS 208 (conOf TT s_entry_asked (M_entry_asked F)) (envS 207 (conOf TT s_entry_time (M_entry_time F)) (envS 206 (conOf TT s_entry_number (M_entry_number F)) (envS 205 (conOf TT s_entry_named (M_entry_named F)) envN)))))
noncomputable def M_entry_May (F : Nat) (x : ((Int) × (List UInt8) × (Int) × (Int) × (Int) × (Int) × (List UInt8) × (Int) × (Int) × (Int) × (List UInt8) × (List UInt8) × (List UInt8) × (List UInt8) × Unit)) : Option (Bool) :=
 ((M_entry_named F x).bind fun v0 => if (!v0) = false then (M_entry_number F x.2.2.2.1).bind fun v1 => some ((), !v1, x, ()) else some ((), true, x, ())).bind
   fun v2 =>
   (if v2.2.1 = false then (M_entry_number F v2.2.2.1.2.2.2.2.1).bind fun v3 => some ((), !v3, v2.2.2.1, ()) else some ((), true, v2.2.2.1, ())).bind fun v4 =>
     (if v4.2.1 = false then some ((), decide (v4.2.2.1.2.2.2.2.2.1 < 0), v4.2.2.1, ()) else some ((), true, v4.2.2.1, ())).bind fun v5 =>
       (if v5.2.1 = false then some ((), decide (5 < v5.2.2.1.2.2.2.2.2.1), v5.2.2.1, ()) else some ((), true, v5.2.2.1, ())).bind fun v6 =>
         (if v6.2.1 = false then some ((), !decide ((↑v6.2.2.1.2.2.2.2.2.2.1.length : Int) = 32), v6.2.2.1, ()) else some ((), true, v6.2.2.1, ())).bind
           fun v7 =>
           (if v7.2.1 = false then (M_entry_time F v7.2.2.1.2.2.2.2.2.2.2.1).bind fun v8 => some ((), !v8, v7.2.2.1, ()) else some ((), true, v7.2.2.1, ())).bind
             fun v9 =>
             (if v9.2.1 = false then (M_entry_time F v9.2.2.1.2.2.2.2.2.2.2.2.1).bind fun v10 => some ((), !v10, v9.2.2.1, ())
                 else some ((), true, v9.2.2.1, ())).bind
               fun v11 =>
               if v11.2.1 = true then some false
               else
                 (if decide (v11.2.2.1.2.2.2.2.2.2.2.2.2.1 = 0) = true then some ((), decide (v11.2.2.1.2.2.2.2.2.2.2.2.2.2.1 = []), v11.2.2.1, ())
                     else some ((), false, v11.2.2.1, ())).bind
                   fun v12 =>
                   (if decide (v12.2.2.1.2.2.2.2.2.2.2.1 = 0) = true then
                         if decide (v12.2.2.1.2.2.2.2.2.2.2.2.2.2.2.1.length + v12.2.2.1.2.2.2.2.2.2.2.2.2.2.2.2.1.length ≤ 9223372036854775807) = true then
                           if
                               decide
                                   ((v12.2.2.1.2.2.2.2.2.2.2.2.2.2.2.1 ++ v12.2.2.1.2.2.2.2.2.2.2.2.2.2.2.2.1).length +
                                       v12.2.2.1.2.2.2.2.2.2.2.2.2.2.2.2.2.1.length ≤
                                     9223372036854775807) =
                                 true then
                             some
                               ((), v12.2.1,
                                 decide (v12.2.2.1.2.2.2.2.2.2.2.2.2.2.2.1 ++ v12.2.2.1.2.2.2.2.2.2.2.2.2.2.2.2.1 ++ v12.2.2.1.2.2.2.2.2.2.2.2.2.2.2.2.2.1 = []),
                                 v12.2.2.1, ())
                           else none
                         else none
                       else some ((), v12.2.1, false, v12.2.2.1, ())).bind
                     fun v13 =>
                     if decide (v13.2.2.2.1.2.2.1 = 1) = true then
                       (if v13.2.1 = true then (M_entry_asked F v13.2.2.2.1).bind fun v14 => some (v14, ()) else some (false, ())).bind fun v15 => some v15.1
                     else
                       if decide (v13.2.2.2.1.2.2.1 = 2) = true then
                         (if v13.2.2.1 = true then (M_entry_answered F v13.2.2.2.1).bind fun v16 => some (v16, ()) else some (false, ())).bind fun v17 =>
                           some v17.1
                       else
                         if decide (v13.2.2.2.1.2.2.1 = 3) = true then
                           (if v13.2.2.1 = true then some (v13.2.1, ()) else some (false, ())).bind fun v18 => some v18.1
                         else some false
theorem t_entry_May (x : ((Int) × (List UInt8) × (Int) × (Int) × (Int) × (Int) × (List UInt8) × (Int) × (Int) × (Int) × (List UInt8) × (List UInt8) × (List UInt8) × (List UInt8) × Unit)) (F : Nat) : fnRun TT Tryz.prog (e_entry_May F) s_entry_May (bodyOf 150) F x = M_entry_May F x := by kernel_rfl
theorem c_entry_May (F : Nat) : Ctr TT Tryz.prog 150 (conOf TT s_entry_May (M_entry_May F)) :=
 ctr_of (code := bodyOf 150) Tryz.func150 (by kernel_rfl) (by kernel_rfl) (by kernel_rfl) (by kernel_rfl) (envS_ok (envS_ok (envS_ok (envS_ok (envS_ok envN_ok (c_entry_named F)) (c_entry_number F)) (c_entry_time F)) (c_entry_asked F)) (c_entry_answered F)) hm (by kernel_rfl) (fun x r h => ⟨F, (t_entry_May x F).trans h⟩)
end Go.Vm
/- Models of functions of the program, and that each keeps its contract: for all arguments of its shape. No condition. -/
namespace Go.Vm
open Go.Proofs
set_option linter.unusedVariables false
noncomputable def s_num_within : Spec Kd := { params := [(.a (.int .i64)), (.a (.int .i64)), (.a (.int .i64))], ret := (.one (.a (.int .i64))), pins := [], pl := { nt := 12 }, rfrz := [], ts := [6] }
noncomputable def e_num_within (F : Nat) : Env El := envN
noncomputable def M_num_within (F : Nat) (x : (Int) × (Int) × (Int)) : Option (Int) :=
 some (if x.2.2 < if x.1 < x.2.1 then x.2.1 else x.1 then x.2.2 else if x.1 < x.2.1 then x.2.1 else x.1)
theorem t_num_within (x : (Int) × (Int) × (Int)) (F : Nat) : fnRun TT Tryz.prog (e_num_within F) s_num_within (bodyOf 180) F x = M_num_within F x := by kernel_rfl
theorem c_num_within (F : Nat) : Ctr TT Tryz.prog 180 (conOf TT s_num_within (M_num_within F)) :=
 ctr_of (code := bodyOf 180) Tryz.func180 (by kernel_rfl) (by kernel_rfl) (by kernel_rfl) (by kernel_rfl) envN_ok hm (by kernel_rfl) (fun x r h => ⟨F, (t_num_within x F).trans h⟩)
noncomputable def s_num_Time : Spec Kd := { params := [(.a (.int .i64))], ret := (.one (.a (.int .i64))), pins := [], pl := { nt := 5 }, rfrz := [], ts := [2] }
noncomputable def e_num_Time (F : Nat) : Env El := (envS 180 (conOf TT s_num_within (M_num_within F)) envN)
noncomputable def M_num_Time (F : Nat) (x : (Int)) : Option (Int) :=
 (M_num_within F (x, 0, 1099511627776)).bind fun (v0 : Int) => some v0
theorem t_num_Time (x : (Int)) (F : Nat) : fnRun TT Tryz.prog (e_num_Time F) s_num_Time (bodyOf 115) F x = M_num_Time F x := by kernel_rfl
theorem c_num_Time (F : Nat) : Ctr TT Tryz.prog 115 (conOf TT s_num_Time (M_num_Time F)) :=
 ctr_of (code := bodyOf 115) Tryz.func115 (by kernel_rfl) (by kernel_rfl) (by kernel_rfl) (by kernel_rfl) (envS_ok envN_ok (c_num_within F)) hm (by kernel_rfl) (fun x r h => ⟨F, (t_num_Time x F).trans h⟩)
noncomputable def s_num_number : Spec Kd := { params := [(.a (.int .i64))], ret := (.one (.a (.int .i64))), pins := [], pl := { nt := 5 }, rfrz := [], ts := [2] }
noncomputable def e_num_number (F : Nat) : Env El := (envS 180 (conOf TT s_num_within (M_num_within F)) envN)
noncomputable def M_num_number (F : Nat) (x : (Int)) : Option (Int) :=
 (M_num_within F (x, 0, 1073741824)).bind fun (v0 : Int) => some v0
theorem t_num_number (x : (Int)) (F : Nat) : fnRun TT Tryz.prog (e_num_number F) s_num_number (bodyOf 204) F x = M_num_number F x := by kernel_rfl
theorem c_num_number (F : Nat) : Ctr TT Tryz.prog 204 (conOf TT s_num_number (M_num_number F)) :=
 ctr_of (code := bodyOf 204) Tryz.func204 (by kernel_rfl) (by kernel_rfl) (by kernel_rfl) (by kernel_rfl) (envS_ok envN_ok (c_num_within F)) hm (by kernel_rfl) (fun x r h => ⟨F, (t_num_number x F).trans h⟩)
noncomputable def s_num_Plus : Spec Kd := { params := [(.a (.int .i64)), (.a (.int .i64))], ret := (.one (.a (.int .i64))), pins := [], pl := { nt := 11 }, rfrz := [], ts := [4] }
noncomputable def e_num_Plus (F : Nat) : Env El := (envS 204 (conOf TT s_num_number (M_num_number F)) (envS 115 (conOf TT s_num_Time (M_num_Time F)) envN))
noncomputable def M_num_Plus (F : Nat) (x : (Int) × (Int)) : Option (Int) :=
 (M_num_Time F x.1).bind fun (v0 : Int) => (M_num_number F x.2).bind fun (v1 : Int) => (M_num_Time F (IntKind.i64.wrap (v0 + v1))).bind fun (v2 : Int) => some v2
theorem t_num_Plus (x : (Int) × (Int)) (F : Nat) : fnRun TT Tryz.prog (e_num_Plus F) s_num_Plus (bodyOf 147) F x = M_num_Plus F x := by kernel_rfl
theorem c_num_Plus (F : Nat) : Ctr TT Tryz.prog 147 (conOf TT s_num_Plus (M_num_Plus F)) :=
 ctr_of (code := bodyOf 147) Tryz.func147 (by kernel_rfl) (by kernel_rfl) (by kernel_rfl) (by kernel_rfl) (envS_ok (envS_ok envN_ok (c_num_Time F)) (c_num_number F)) hm (by kernel_rfl) (fun x r h => ⟨F, (t_num_Plus x F).trans h⟩)
noncomputable def s_num_Config : Spec Kd := { params := [(.agg [(.int .i64), (.int .i64), (.int .i64), (.int .i64), (.int .i64), (.int .i64)])], ret := (.one (.agg [(.int .i64), (.int .i64), (.int .i64), (.int .i64), (.int .i64), (.int .i64)])), pins := [], pl := { nt := 22, ends := [(1, ⟨[.tmp 2 (.a (.ptr 128 0)), .box 128 (.cells 75 [(.int .i64), (.int .i64), (.int .i64), (.int .i64), (.int .i64), (.int .i64)])], [], []⟩)] }, rfrz := [], ts := [22], rc := [(2, some 75)] }
noncomputable def e_num_Config (F : Nat) : Env El := (envS 180 (conOf TT s_num_within (M_num_within F)) envN)
noncomputable def M_num_Config (F : Nat) (x : ((Int) × (Int) × (Int) × (Int) × (Int) × (Int) × Unit)) : Option ((Int) × (Int) × (Int) × (Int) × (Int) × (Int) × Unit) :=
 ((M_num_within F (x.1, 1, 4)).bind fun (v0 : Int) =>
    (M_num_within F (x.2.1, 1, 1073741824)).bind fun (v1 : Int) =>
     (M_num_within F (x.2.2.1, 1, 1073741824)).bind fun (v2 : Int) =>
      (M_num_within F (x.2.2.2.1, 1, 200)).bind fun (v3 : Int) =>
       (M_num_within F (x.2.2.2.2.1, 500, 20000)).bind fun (v4 : Int) =>
        (M_num_within F (x.2.2.2.2.2.1, 1000, 60000)).bind fun (v5 : Int) => some ((), (v0, v1, v2, v3, v4, v5, ()), ())).bind
  fun (v6 : Unit × (Int × Int × Int × Int × Int × Int × Unit) × Unit) => some v6.2.1
theorem t_num_Config (x : ((Int) × (Int) × (Int) × (Int) × (Int) × (Int) × Unit)) (F : Nat) : fnRun TT Tryz.prog (e_num_Config F) s_num_Config (bodyOf 148) F x = M_num_Config F x := by kernel_rfl
theorem c_num_Config (F : Nat) : Ctr TT Tryz.prog 148 (conOf TT s_num_Config (M_num_Config F)) :=
 ctr_of (code := bodyOf 148) Tryz.func148 (by kernel_rfl) (by kernel_rfl) (by kernel_rfl) (by kernel_rfl) (envS_ok envN_ok (c_num_within F)) hm (by kernel_rfl) (fun x r h => ⟨F, (t_num_Config x F).trans h⟩)
end Go.Vm
