import Derived.Test.YtihpjgcbmipdbaaGreatDoorKt
import Derived.Test.YtihpjgcbmipdbaaGreatDoorFentry
/- Models of functions of the program, and that each keeps its contract: for all arguments of its shape. No condition. -/
namespace Go.Vm
open Go.Proofs
set_option linter.unusedVariables false
noncomputable def s_num_within : Spec Kd := { params := [(.a (.int .i64)), (.a (.int .i64)), (.a (.int .i64))], ret := (.one (.a (.int .i64))), pins := [], pl := { nt := 12 }, rfrz := [], ts := [6] }
noncomputable def e_num_within (F : Nat) : Env El := envN
noncomputable def M_num_within (F : Nat) (x : (Int) × (Int) × (Int)) : Option (Int) :=
 some (if x.2.2 < if x.1 < x.2.1 then x.2.1 else x.1 then x.2.2 else if x.1 < x.2.1 then x.2.1 else x.1)
theorem t_num_within (x : (Int) × (Int) × (Int)) (F : Nat) : fnRun TT Tryz.prog (e_num_within F) s_num_within (bodyOf 180) F x = M_num_within F x := by kernel_rfl
theorem c_num_within (F : Nat) : Ctr TT Tryz.prog 180 (conOf TT s_num_within (M_num_within F)) :=
 ctr_of (code := bodyOf 180) Tryz.func180 (by kernel_rfl) (by kernel_rfl) (by kernel_rfl) (by kernel_rfl) envN_ok hm (by kernel_rfl) (fun x r h => ⟨F, (t_num_within x F).trans h⟩)
noncomputable def s_num_Time : Spec Kd := { params := [(.a (.int .i64))], ret := (.one (.a (.int .i64))), pins := [], pl := { nt := 5 }, rfrz := [], ts := [2] }
noncomputable def e_num_Time (F : Nat) : Env El := (envS 180 (conOf TT s_num_within (M_num_within F)) envN)
noncomputable def M_num_Time (F : Nat) (x : (Int)) : Option (Int) :=
 (M_num_within F (x, 0, 1099511627776)).bind fun (v0 : Int) => some v0
theorem t_num_Time (x : (Int)) (F : Nat) : fnRun TT Tryz.prog (e_num_Time F) s_num_Time (bodyOf 115) F x = M_num_Time F x := by kernel_rfl
theorem c_num_Time (F : Nat) : Ctr TT Tryz.prog 115 (conOf TT s_num_Time (M_num_Time F)) :=
 ctr_of (code := bodyOf 115) Tryz.func115 (by kernel_rfl) (by kernel_rfl) (by kernel_rfl) (by kernel_rfl) (envS_ok envN_ok (c_num_within F)) hm (by kernel_rfl) (fun x r h => ⟨F, (t_num_Time x F).trans h⟩)
noncomputable def s_num_number : Spec Kd := { params := [(.a (.int .i64))], ret := (.one (.a (.int .i64))), pins := [], pl := { nt := 5 }, rfrz := [], ts := [2] }
noncomputable def e_num_number (F : Nat) : Env El := (envS 180 (conOf TT s_num_within (M_num_within F)) envN)
noncomputable def M_num_number (F : Nat) (x : (Int)) : Option (Int) :=
 (M_num_within F (x, 0, 1073741824)).bind fun (v0 : Int) => some v0
theorem t_num_number (x : (Int)) (F : Nat) : fnRun TT Tryz.prog (e_num_number F) s_num_number (bodyOf 204) F x = M_num_number F x := by kernel_rfl
theorem c_num_number (F : Nat) : Ctr TT Tryz.prog 204 (conOf TT s_num_number (M_num_number F)) :=
 ctr_of (code := bodyOf 204) Tryz.func204 (by kernel_rfl) (by kernel_rfl) (by kernel_rfl) (by kernel_rfl) (envS_ok envN_ok (c_num_within F)) hm (by kernel_rfl) (fun x r h => ⟨F, (t_num_number x F).trans h⟩)
noncomputable def s_num_Plus : Spec Kd := { params := [(.a (.int .i64)), (.a (.int .i64))], ret := (.one (.a (.int .i64))), pins := [], pl := { nt := 11 }, rfrz := [], ts := [4] }
noncomputable def e_num_Plus (F : Nat) : Env El := (envS 204 (conOf TT s_num_number (M_num_number F)) (envS 115 (conOf TT s_num_Time (M_num_Time F)) envN))
noncomputable def M_num_Plus (F : Nat) (x : (Int) × (Int)) : Option (Int) :=
 (M_num_Time F x.1).bind fun (v0 : Int) => (M_num_number F x.2).bind fun (v1 : Int) => (M_num_Time F (IntKind.i64.wrap (v0 + v1))).bind fun (v2 : Int) => some v2
theorem t_num_Plus (x : (Int) × (Int)) (F : Nat) : fnRun TT Tryz.prog (e_num_Plus F) s_num_Plus (bodyOf 147) F x = M_num_Plus F x := by kernel_rfl
theorem c_num_Plus (F : Nat) : Ctr TT Tryz.prog 147 (conOf TT s_num_Plus (M_num_Plus F)) :=
 ctr_of (code := bodyOf 147) Tryz.func147 (by kernel_rfl) (by kernel_rfl) (by kernel_rfl) (by kernel_rfl) (envS_ok (envS_ok envN_ok (c_num_Time F)) (c_num_number F)) hm (by kernel_rfl) (fun x r h => ⟨F, (t_num_Plus x F).trans h⟩)
noncomputable def s_num_Config : Spec Kd := { params := [(.agg [(.int .i64), (.int .i64), (.int .i64), (.int .i64), (.int .i64), (.int .i64)])], ret := (.one (.agg [(.int .i64), (.int .i64), (.int .i64), (.int .i64), (.int .i64), (.int .i64)])), pins := [], pl := { nt := 22, ends := [(1, ⟨[.tmp 2 (.a (.ptr 128 0)), .box 128 (.cells 75 [(.int .i64), (.int .i64), (.int .i64), (.int .i64), (.int .i64), (.int .i64)])], [], []⟩)] }, rfrz := [], ts := [22], rc := [(2, some 75)] }
noncomputable def e_num_Config (F : Nat) : Env El := (envS 180 (conOf TT s_num_within (M_num_within F)) envN)
noncomputable def M_num_Config (F : Nat) (x : ((Int) × (Int) × (Int) × (Int) × (Int) × (Int) × Unit)) : Option ((Int) × (Int) × (Int) × (Int) × (Int) × (Int) × Unit) :=
 ((M_num_within F (x.1, 1, 4)).bind fun (v0 : Int) =>
    (M_num_within F (x.2.1, 1, 1073741824)).bind fun (v1 : Int) =>
     (M_num_within F (x.2.2.1, 1, 1073741824)).bind fun (v2 : Int) =>
      (M_num_within F (x.2.2.2.1, 1, 200)).bind fun (v3 : Int) =>
       (M_num_within F (x.2.2.2.2.1, 500, 20000)).bind fun (v4 : Int) =>
        (M_num_within F (x.2.2.2.2.2.1, 1000, 60000)).bind fun (v5 : Int) => some ((), (v0, v1, v2, v3, v4, v5, ()), ())).bind
  fun (v6 : Unit × (Int × Int × Int × Int × Int × Int × Unit) × Unit) => some v6.2.1
theorem t_num_Config (x : ((Int) × (Int) × (Int) × (Int) × (Int) × (Int) × Unit)) (F : Nat) : fnRun TT Tryz.prog (e_num_Config F) s_num_Config (bodyOf 148) F x = M_num_Config F x := by kernel_rfl
theorem c_num_Config (F : Nat) : Ctr TT Tryz.prog 148 (conOf TT s_num_Config (M_num_Config F)) :=
 ctr_of (code := bodyOf 148) Tryz.func148 (by kernel_rfl) (by kernel_rfl) (by kernel_rfl) (by kernel_rfl) (envS_ok envN_ok (c_num_within F)) hm (by kernel_rfl) (fun x r h => ⟨F, (t_num_Config x F).trans h⟩)
end Go.Vm
/- Models of functions of the program, and that each keeps its contract: for all arguments of its shape. No condition. -/
namespace Go.Vm
open Go.Proofs
set_option linter.unusedVariables false
noncomputable def s_lease_Held : Spec Kd := { params := [(.agg [(.int .i64), .str, (.int .i64), (.int .i64), (.int .i64), (.int .i64), .str, (.int .i64), (.int .i64), (.int .i64), .str, .str, .str, .str]), (.a (.int .i64))], ret := (.one (.a .bool)), pins := [], pl := { nt := 15, ends := [(1, ⟨[.tmp 4 (.a .bool)], [], []⟩)] }, rfrz := [], ts := [4] }
noncomputable def e_lease_Held (F : Nat) : Env El := (envS 115 (conOf TT s_num_Time (M_num_Time F)) envN)
noncomputable def M_lease_Held (F : Nat) (x : ((Int) × (List UInt8) × (Int) × (Int) × (Int) × (Int) × (List UInt8) × (Int) × (Int) × (Int) × (List UInt8) × (List UInt8) × (List UInt8) × (List UInt8) × Unit) × (Int)) : Option (Bool) :=
 (if decide (x.1.2.2.1 = 1) = true then (M_num_Time F x.2).bind fun (v0 : Int) => some (decide (v0 < x.1.2.2.2.2.2.2.2.1), ()) else some (false, ())).bind
  fun (v1 : Bool × Unit) => some v1.1
theorem t_lease_Held (x : ((Int) × (List UInt8) × (Int) × (Int) × (Int) × (Int) × (List UInt8) × (Int) × (Int) × (Int) × (List UInt8) × (List UInt8) × (List UInt8) × (List UInt8) × Unit) × (Int)) (F : Nat) : fnRun TT Tryz.prog (e_lease_Held F) s_lease_Held (bodyOf 79) F x = M_lease_Held F x := by kernel_rfl
theorem c_lease_Held (F : Nat) : Ctr TT Tryz.prog 79 (conOf TT s_lease_Held (M_lease_Held F)) :=
 ctr_of (code := bodyOf 79) Tryz.func79 (by kernel_rfl) (by kernel_rfl) (by kernel_rfl) (by kernel_rfl) (envS_ok envN_ok (c_num_Time F)) hm (by kernel_rfl) (fun x r h => ⟨F, (t_lease_Held x F).trans h⟩)
noncomputable def s_lease_may : Spec Kd := { params := [(.agg [(.int .i64), .str, (.int .i64), (.int .i64), (.int .i64), (.int .i64), .str, (.int .i64), (.int .i64), (.int .i64), .str, .str, .str, .str])], ret := (.one (.a .bool)), pins := [], pl := { nt := 10, cuts := [(1, [(7, ⟨[.tmp 9 (.a .bool)], [], []⟩)])] }, rfrz := [], ts := [2] }
noncomputable def e_lease_may (F : Nat) : Env El := (envS 150 (conOf TT s_entry_May (M_entry_May F)) envN)
noncomputable def M_lease_may (F : Nat) (x : ((Int) × (List UInt8) × (Int) × (Int) × (Int) × (Int) × (List UInt8) × (Int) × (Int) × (Int) × (List UInt8) × (List UInt8) × (List UInt8) × (List UInt8) × Unit)) : Option (Bool) :=
 (if decide (x.2.2.1 = 1) = true then (M_entry_May F x).bind fun (v0 : Bool) => some (v0, ()) else some (false, ())).bind fun (v1 : Bool × Unit) => some v1.1
theorem t_lease_may (x : ((Int) × (List UInt8) × (Int) × (Int) × (Int) × (Int) × (List UInt8) × (Int) × (Int) × (Int) × (List UInt8) × (List UInt8) × (List UInt8) × (List UInt8) × Unit)) (F : Nat) : fnRun TT Tryz.prog (e_lease_may F) s_lease_may (bodyOf 203) F x = M_lease_may F x := by kernel_rfl
theorem c_lease_may (F : Nat) : Ctr TT Tryz.prog 203 (conOf TT s_lease_may (M_lease_may F)) :=
 ctr_of (code := bodyOf 203) Tryz.func203 (by kernel_rfl) (by kernel_rfl) (by kernel_rfl) (by kernel_rfl) (envS_ok envN_ok (c_entry_May F)) hm (by kernel_rfl) (fun x r h => ⟨F, (t_lease_may x F).trans h⟩)
noncomputable def s_lease_owned : Spec Kd := { params := [(.agg [(.int .i64), .str, (.int .i64), (.int .i64), (.int .i64), (.int .i64), .str, (.int .i64), (.int .i64), (.int .i64), .str, .str, .str, .str]), (.a (.int .i64))], ret := (.one (.a (.int .i64))), pins := [], pl := { nt := 14 }, rfrz := [], ts := [4] }
noncomputable def e_lease_owned (F : Nat) : Env El := (envS 203 (conOf TT s_lease_may (M_lease_may F)) envN)
noncomputable def M_lease_owned (F : Nat) (x : ((Int) × (List UInt8) × (Int) × (Int) × (Int) × (Int) × (List UInt8) × (Int) × (Int) × (Int) × (List UInt8) × (List UInt8) × (List UInt8) × (List UInt8) × Unit) × (Int)) : Option (Int) :=
 (M_lease_may F x.1).bind fun (v0 : Bool) => if (!v0) = true then some 1 else if (!decide (x.1.2.2.2.2.1 = x.2)) = true then some 9 else some 0
theorem t_lease_owned (x : ((Int) × (List UInt8) × (Int) × (Int) × (Int) × (Int) × (List UInt8) × (Int) × (Int) × (Int) × (List UInt8) × (List UInt8) × (List UInt8) × (List UInt8) × Unit) × (Int)) (F : Nat) : fnRun TT Tryz.prog (e_lease_owned F) s_lease_owned (bodyOf 146) F x = M_lease_owned F x := by kernel_rfl
theorem c_lease_owned (F : Nat) : Ctr TT Tryz.prog 146 (conOf TT s_lease_owned (M_lease_owned F)) :=
 ctr_of (code := bodyOf 146) Tryz.func146 (by kernel_rfl) (by kernel_rfl) (by kernel_rfl) (by kernel_rfl) (envS_ok envN_ok (c_lease_may F)) hm (by kernel_rfl) (fun x r h => ⟨F, (t_lease_owned x F).trans h⟩)
noncomputable def s_lease_over : Spec Kd := { params := [(.agg [(.int .i64), .str, (.int .i64), (.int .i64), (.int .i64), (.int .i64), .str, (.int .i64), (.int .i64), (.int .i64), .str, .str, .str, .str]), (.a (.int .i64))], ret := (.one (.agg [(.int .i64), .str, (.int .i64), (.int .i64), (.int .i64), (.int .i64), .str, (.int .i64), (.int .i64), (.int .i64), .str, .str, .str, .str])), pins := [], pl := { nt := 12, cuts := [(1, [(11, ⟨[.tmp 2 (.a (.ptr 128 0)), .tmp 4 (.a (.ptr 256 0)), .box 128 (.cells 35 [(.int .i64), .str, (.int .i64), (.int .i64), (.int .i64), (.int .i64), .str, (.int .i64), (.int .i64), (.int .i64), .str, .str, .str, .str]), .box 256 (.cells 35 [(.int .i64), .str, (.int .i64), (.int .i64), (.int .i64), (.int .i64), .str, (.int .i64), (.int .i64), (.int .i64), .str, .str, .str, .str])], [], []⟩)])] }, rfrz := [], ts := [12], rc := [(4, some 35)] }
noncomputable def e_lease_over (F : Nat) : Env El := envN
noncomputable def M_lease_over (F : Nat) (x : ((Int) × (List UInt8) × (Int) × (Int) × (Int) × (Int) × (List UInt8) × (Int) × (Int) × (Int) × (List UInt8) × (List UInt8) × (List UInt8) × (List UInt8) × Unit) × (Int)) : Option ((Int) × (List UInt8) × (Int) × (Int) × (Int) × (Int) × (List UInt8) × (Int) × (Int) × (Int) × (List UInt8) × (List UInt8) × (List UInt8) × (List UInt8) × Unit) :=
 some
  (x.1.1, x.1.2.1, x.2, x.1.2.2.2.1, x.1.2.2.2.2.1, x.1.2.2.2.2.2.1, x.1.2.2.2.2.2.2.1, 0, x.1.2.2.2.2.2.2.2.2.1, x.1.2.2.2.2.2.2.2.2.2.1,
   x.1.2.2.2.2.2.2.2.2.2.2.1, [], [], [], ())
theorem t_lease_over (x : ((Int) × (List UInt8) × (Int) × (Int) × (Int) × (Int) × (List UInt8) × (Int) × (Int) × (Int) × (List UInt8) × (List UInt8) × (List UInt8) × (List UInt8) × Unit) × (Int)) (F : Nat) : fnRun TT Tryz.prog (e_lease_over F) s_lease_over (bodyOf 149) F x = M_lease_over F x := by kernel_rfl
theorem c_lease_over (F : Nat) : Ctr TT Tryz.prog 149 (conOf TT s_lease_over (M_lease_over F)) :=
 ctr_of (code := bodyOf 149) Tryz.func149 (by kernel_rfl) (by kernel_rfl) (by kernel_rfl) (by kernel_rfl) envN_ok hm (by kernel_rfl) (fun x r h => ⟨F, (t_lease_over x F).trans h⟩)
noncomputable def s_lease_Pass : Spec Kd := { params := [(.agg [(.int .i64), .str, (.int .i64), (.int .i64), (.int .i64), (.int .i64), .str, (.int .i64), (.int .i64), (.int .i64), .str, .str, .str, .str]), (.a (.int .i64)), (.a (.int .i64)), (.agg [(.int .i64), (.int .i64), (.int .i64), (.int .i64), (.int .i64), (.int .i64)])], ret := (.tup [(.agg [(.int .i64), .str, (.int .i64), (.int .i64), (.int .i64), (.int .i64), .str, (.int .i64), (.int .i64), (.int .i64), .str, .str, .str, .str]), (.a (.int .i64))]), pins := [], pl := { nt := 33 }, rfrz := [], ts := [33, 34], rc := [(8, some 35), (9, none)] }
noncomputable def e_lease_Pass (F : Nat) : Env El := (envS 147 (conOf TT s_num_Plus (M_num_Plus F)) (envS 148 (conOf TT s_num_Config (M_num_Config F)) (envS 146 (conOf TT s_lease_owned (M_lease_owned F)) envN)))
noncomputable def M_lease_Pass (F : Nat) (x : ((Int) × (List UInt8) × (Int) × (Int) × (Int) × (Int) × (List UInt8) × (Int) × (Int) × (Int) × (List UInt8) × (List UInt8) × (List UInt8) × (List UInt8) × Unit) × (Int) × (Int) × ((Int) × (Int) × (Int) × (Int) × (Int) × (Int) × Unit)) : Option (((Int) × (List UInt8) × (Int) × (Int) × (Int) × (Int) × (List UInt8) × (Int) × (Int) × (Int) × (List UInt8) × (List UInt8) × (List UInt8) × (List UInt8) × Unit) × (Int)) :=
 (M_lease_owned F (x.1, x.2.1)).bind fun (v0 : Int) =>
  if (!decide (v0 = 0)) = true then some ((0, [], 0, 0, 0, 0, [], 0, 0, 0, [], [], [], [], ()), v0)
  else
   if decide (x.1.2.2.2.2.2.1 = 5) = true then some ((0, [], 0, 0, 0, 0, [], 0, 0, 0, [], [], [], [], ()), 10)
   else
    (M_num_Config F x.2.2.2).bind fun (v1 : Int × Int × Int × Int × Int × Int × Unit) =>
     (M_num_Plus F (x.2.2.1, v1.2.1)).bind fun (v2 : Int) =>
      some ((x.1.1, x.1.2.1, x.1.2.2.1, x.1.2.2.2.1, x.1.2.2.2.2.1, IntKind.i64.wrap (x.1.2.2.2.2.2.1 + 1), x.1.2.2.2.2.2.2.1, v2, x.1.2.2.2.2.2.2.2.2), 0)
theorem t_lease_Pass (x : ((Int) × (List UInt8) × (Int) × (Int) × (Int) × (Int) × (List UInt8) × (Int) × (Int) × (Int) × (List UInt8) × (List UInt8) × (List UInt8) × (List UInt8) × Unit) × (Int) × (Int) × ((Int) × (Int) × (Int) × (Int) × (Int) × (Int) × Unit)) (F : Nat) : fnRun TT Tryz.prog (e_lease_Pass F) s_lease_Pass (bodyOf 81) F x = M_lease_Pass F x := by kernel_rfl
theorem c_lease_Pass (F : Nat) : Ctr TT Tryz.prog 81 (conOf TT s_lease_Pass (M_lease_Pass F)) :=
 ctr_of (code := bodyOf 81) Tryz.func81 (by kernel_rfl) (by kernel_rfl) (by kernel_rfl) (by kernel_rfl) (envS_ok (envS_ok (envS_ok envN_ok (c_lease_owned F)) (c_num_Config F)) (c_num_Plus F)) hm (by kernel_rfl) (fun x r h => ⟨F, (t_lease_Pass x F).trans h⟩)
noncomputable def s_lease_Finish : Spec Kd := { params := [(.agg [(.int .i64), .str, (.int .i64), (.int .i64), (.int .i64), (.int .i64), .str, (.int .i64), (.int .i64), (.int .i64), .str, .str, .str, .str]), (.a (.int .i64)), (.a (.int .i64)), (.a .str), (.a (.int .i64)), (.agg [(.int .i64), (.int .i64), (.int .i64), (.int .i64), (.int .i64), (.int .i64)])], ret := (.tup [(.agg [(.int .i64), .str, (.int .i64), (.int .i64), (.int .i64), (.int .i64), .str, (.int .i64), (.int .i64), (.int .i64), .str, .str, .str, .str]), (.a (.int .i64))]), pins := [], pl := { nt := 39, cuts := [(5, [(13, ⟨[.tmp 6 (.a (.ptr 384 0)), .tmp 12 (.a (.ptr 768 0)), .box 384 (.cells 35 [(.int .i64), .str, (.int .i64), (.int .i64), (.int .i64), (.int .i64), .str, (.int .i64), (.int .i64), (.int .i64), .str, .str, .str, .str]), .box 768 (.cells 35 [(.int .i64), .str, (.int .i64), (.int .i64), (.int .i64), (.int .i64), .str, (.int .i64), (.int .i64), (.int .i64), .str, .str, .str, .str])], [], []⟩)])] }, rfrz := [], ts := [39, 40], rc := [(12, some 35), (13, none)] }
noncomputable def e_lease_Finish (F : Nat) : Env El := (envS 150 (conOf TT s_entry_May (M_entry_May F)) (envS 147 (conOf TT s_num_Plus (M_num_Plus F)) (envS 148 (conOf TT s_num_Config (M_num_Config F)) (envS 149 (conOf TT s_lease_over (M_lease_over F)) (envS 146 (conOf TT s_lease_owned (M_lease_owned F)) envN)))))
noncomputable def M_lease_Finish (F : Nat) (x : ((Int) × (List UInt8) × (Int) × (Int) × (Int) × (Int) × (List UInt8) × (Int) × (Int) × (Int) × (List UInt8) × (List UInt8) × (List UInt8) × (List UInt8) × Unit) × (Int) × (Int) × (List UInt8) × (Int) × ((Int) × (Int) × (Int) × (Int) × (Int) × (Int) × Unit)) : Option (((Int) × (List UInt8) × (Int) × (Int) × (Int) × (Int) × (List UInt8) × (Int) × (Int) × (Int) × (List UInt8) × (List UInt8) × (List UInt8) × (List UInt8) × Unit) × (Int)) :=
 (M_lease_owned F (x.1, x.2.1)).bind fun (v0 : Int) =>
  if (!decide (v0 = 0)) = true then some ((0, [], 0, 0, 0, 0, [], 0, 0, 0, [], [], [], [], ()), v0)
  else
   (M_lease_over F (x.1, 2)).bind
    fun (v1 : Int × List UInt8 × Int × Int × Int × Int × List UInt8 × Int × Int × Int × List UInt8 × List UInt8 × List UInt8 × List UInt8 × Unit) =>
    ((M_num_Config F x.2.2.2.2.2).bind fun (v2 : Int × Int × Int × Int × Int × Int × Unit) =>
       (M_num_Plus F (x.2.2.2.2.1, v2.2.2.1)).bind fun (v3 : Int) =>
        some
         ((), (),
           (v1.1, v1.2.1, v1.2.2.1, v1.2.2.2.1, v1.2.2.2.2.1, v1.2.2.2.2.2.1, v1.2.2.2.2.2.2.1, v1.2.2.2.2.2.2.2.1, v3, x.2.2.1, x.2.2.2.1,
             v1.2.2.2.2.2.2.2.2.2.2.2.1, v1.2.2.2.2.2.2.2.2.2.2.2.2.1, v1.2.2.2.2.2.2.2.2.2.2.2.2.2.1, ()),
           (0, [], 0, 0, 0, 0, [], 0, 0, 0, [], [], [], [], ()), ())).bind
     fun
      (v4 :
       Unit ×
        Unit ×
         (Int × List UInt8 × Int × Int × Int × Int × List UInt8 × Int × Int × Int × List UInt8 × List UInt8 × List UInt8 × List UInt8 × Unit) ×
          (Int × List UInt8 × Int × Int × Int × Int × List UInt8 × Int × Int × Int × List UInt8 × List UInt8 × List UInt8 × List UInt8 × Unit) ×
           Unit) =>
     (M_entry_May F v4.2.2.1).bind fun (v5 : Bool) =>
      if (!v5) = true then some ((0, [], 0, 0, 0, 0, [], 0, 0, 0, [], [], [], [], ()), 1) else some (v4.2.2.1, 0)
theorem t_lease_Finish (x : ((Int) × (List UInt8) × (Int) × (Int) × (Int) × (Int) × (List UInt8) × (Int) × (Int) × (Int) × (List UInt8) × (List UInt8) × (List UInt8) × (List UInt8) × Unit) × (Int) × (Int) × (List UInt8) × (Int) × ((Int) × (Int) × (Int) × (Int) × (Int) × (Int) × Unit)) (F : Nat) : fnRun TT Tryz.prog (e_lease_Finish F) s_lease_Finish (bodyOf 83) F x = M_lease_Finish F x := by kernel_rfl
theorem c_lease_Finish (F : Nat) : Ctr TT Tryz.prog 83 (conOf TT s_lease_Finish (M_lease_Finish F)) :=
 ctr_of (code := bodyOf 83) Tryz.func83 (by kernel_rfl) (by kernel_rfl) (by kernel_rfl) (by kernel_rfl) (envS_ok (envS_ok (envS_ok (envS_ok (envS_ok envN_ok (c_lease_owned F)) (c_lease_over F)) (c_num_Config F)) (c_num_Plus F)) (c_entry_May F)) hm (by kernel_rfl) (fun x r h => ⟨F, (t_lease_Finish x F).trans h⟩)
end Go.Vm
