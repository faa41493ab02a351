/- Models of functions of the program, and that each keeps its contract: for all arguments of its shape. No condition. -/
import Derived.Test.YtihpjgcbmipdbaaGreatDoorKt
import Derived.Test.YtihpjgcbmipdbaaGreatDoorFnums
namespace Go.Vm
open Go.Proofs
set_option linter.unusedVariables false
noncomputable def s_lease_Held : Spec Kd := { params := [(.agg [(.int .i64), .str, (.int .i64), (.int .i64), (.int .i64), (.int .i64), .str, (.int .i64), (.int .i64), (.int .i64), .str, .str, .str, .str]), (.a (.int .i64))], ret := (.one (.a .bool)), pins := [], pl := { nt := 15, ends := [(1, ⟨[.tmp 4 (.a .bool)], [], []⟩)] }, rfrz := [], ts := [4] }
noncomputable def e_lease_Held (F : Nat) : Env El := (envS 115 (conOf TT s_num_Time (M_num_Time F)) envN)
noncomputable def M_lease_Held (F : Nat) (x : ((Int) × (List UInt8) × (Int) × (Int) × (Int) × (Int) × (List UInt8) × (Int) × (Int) × (Int) × (List UInt8) × (List UInt8) × (List UInt8) × (List UInt8) × Unit) × (Int)) : Option (Bool) :=
 (if decide (x.1.2.2.1 = 1) = true then (M_num_Time F x.2).bind fun (v0 : Int) => some (decide (v0 < x.1.2.2.2.2.2.2.2.1), ()) else some (false, ())).bind
  fun (v1 : Bool × Unit) => some v1.1
theorem t_lease_Held (x : ((Int) × (List UInt8) × (Int) × (Int) × (Int) × (Int) × (List UInt8) × (Int) × (Int) × (Int) × (List UInt8) × (List UInt8) × (List UInt8) × (List UInt8) × Unit) × (Int)) (F : Nat) : fnRun TT Tryz.prog (e_lease_Held F) s_lease_Held (bodyOf 79) F x = M_lease_Held F x := by kernel_rfl
theorem c_lease_Held (F : Nat) : Ctr TT Tryz.prog 79 (conOf TT s_lease_Held (M_lease_Held F)) :=
 ctr_of (code := bodyOf 79) Tryz.func79 (by kernel_rfl) (by kernel_rfl) (by kernel_rfl) (by kernel_rfl) (envS_ok envN_ok (c_num_Time F)) hm (by kernel_rfl) (fun x r h => ⟨F, (t_lease_Held x F).trans h⟩)
noncomputable def s_lease_may : Spec Kd := { params := [(.agg [(.int .i64), .str, (.int .i64), (.int .i64), (.int .i64), (.int .i64), .str, (.int .i64), (.int .i64), (.int .i64), .str, .str, .str, .str])], ret := (.one (.a .bool)), pins := [], pl := { nt := 10, cuts := [(1, [(7, ⟨[.tmp 9 (.a .bool)], [], []⟩)])] }, rfrz := [], ts := [2] }
noncomputable def e_lease_may (F : Nat) : Env El := (envS 150 (conOf TT s_entry_May (M_entry_May F)) envN)
noncomputable def M_lease_may (F : Nat) (x : ((Int) × (List UInt8) × (Int) × (Int) × (Int) × (Int) × (List UInt8) × (Int) × (Int) × (Int) × (List UInt8) × (List UInt8) × (List UInt8) × (List UInt8) × Unit)) : Option (Bool) :=
 (if decide (x.2.2.1 = 1) = true then (M_entry_May F x).bind fun (v0 : Bool) => some (v0, ()) else some (false, ())).bind fun (v1 : Bool × Unit) => some v1.1
theorem t_lease_may (x : ((Int) × (List UInt8) × (Int) × (Int) × (Int) × (Int) × (List UInt8) × (Int) × (Int) × (Int) × (List UInt8) × (List UInt8) × (List UInt8) × (List UInt8) × Unit)) (F : Nat) : fnRun TT Tryz.prog (e_lease_may F) s_lease_may (bodyOf 203) F x = M_lease_may F x := by kernel_rfl
theorem c_lease_may (F : Nat) : Ctr TT Tryz.prog 203 (conOf TT s_lease_may (M_lease_may F)) :=
 ctr_of (code := bodyOf 203) Tryz.func203 (by kernel_rfl) (by kernel_rfl) (by kernel_rfl) (by kernel_rfl) (envS_ok envN_ok (c_entry_May F)) hm (by kernel_rfl) (fun x r h => ⟨F, (t_lease_may x F).trans h⟩)
noncomputable def s_lease_owned : Spec Kd := { params := [(.agg [(.int .i64), .str, (.int .i64), (.int .i64), (.int .i64), (.int .i64), .str, (.int .i64), (.int .i64), (.int .i64), .str, .str, .str, .str]), (.a (.int .i64))], ret := (.one (.a (.int .i64))), pins := [], pl := { nt := 14 }, rfrz := [], ts := [4] }
noncomputable def e_lease_owned (F : Nat) : Env El := (envS 203 (conOf TT s_lease_may (M_lease_may F)) envN)
noncomputable def M_lease_owned (F : Nat) (x : ((Int) × (List UInt8) × (Int) × (Int) × (Int) × (Int) × (List UInt8) × (Int) × (Int) × (Int) × (List UInt8) × (List UInt8) × (List UInt8) × (List UInt8) × Unit) × (Int)) : Option (Int) :=
 (M_lease_may F x.1).bind fun (v0 : Bool) => if (!v0) = true then some 1 else if (!decide (x.1.2.2.2.2.1 = x.2)) = true then some 9 else some 0
theorem t_lease_owned (x : ((Int) × (List UInt8) × (Int) × (Int) × (Int) × (Int) × (List UInt8) × (Int) × (Int) × (Int) × (List UInt8) × (List UInt8) × (List UInt8) × (List UInt8) × Unit) × (Int)) (F : Nat) : fnRun TT Tryz.prog (e_lease_owned F) s_lease_owned (bodyOf 146) F x = M_lease_owned F x := by kernel_rfl
theorem c_lease_owned (F : Nat) : Ctr TT Tryz.prog 146 (conOf TT s_lease_owned (M_lease_owned F)) :=
 ctr_of (code := bodyOf 146) Tryz.func146 (by kernel_rfl) (by kernel_rfl) (by kernel_rfl) (by kernel_rfl) (envS_ok envN_ok (c_lease_may F)) hm (by kernel_rfl) (fun x r h => ⟨F, (t_lease_owned x F).trans h⟩)
noncomputable def s_lease_over : Spec Kd := { params := [(.agg [(.int .i64), .str, (.int .i64), (.int .i64), (.int .i64), (.int .i64), .str, (.int .i64), (.int .i64), (.int .i64), .str, .str, .str, .str]), (.a (.int .i64))], ret := (.one (.agg [(.int .i64), .str, (.int .i64), (.int .i64), (.int .i64), (.int .i64), .str, (.int .i64), (.int .i64), (.int .i64), .str, .str, .str, .str])), pins := [], pl := { nt := 12, cuts := [(1, [(11, ⟨[.tmp 2 (.a (.ptr 128 0)), .tmp 4 (.a (.ptr 256 0)), .box 128 (.cells 35 [(.int .i64), .str, (.int .i64), (.int .i64), (.int .i64), (.int .i64), .str, (.int .i64), (.int .i64), (.int .i64), .str, .str, .str, .str]), .box 256 (.cells 35 [(.int .i64), .str, (.int .i64), (.int .i64), (.int .i64), (.int .i64), .str, (.int .i64), (.int .i64), (.int .i64), .str, .str, .str, .str])], [], []⟩)])] }, rfrz := [], ts := [12], rc := [(4, some 35)] }
noncomputable def e_lease_over (F : Nat) : Env El := envN
noncomputable def M_lease_over (F : Nat) (x : ((Int) × (List UInt8) × (Int) × (Int) × (Int) × (Int) × (List UInt8) × (Int) × (Int) × (Int) × (List UInt8) × (List UInt8) × (List UInt8) × (List UInt8) × Unit) × (Int)) : Option ((Int) × (List UInt8) × (Int) × (Int) × (Int) × (Int) × (List UInt8) × (Int) × (Int) × (Int) × (List UInt8) × (List UInt8) × (List UInt8) × (List UInt8) × Unit) :=
 some
  (x.1.1, x.1.2.1, x.2, x.1.2.2.2.1, x.1.2.2.2.2.1, x.1.2.2.2.2.2.1, x.1.2.2.2.2.2.2.1, 0, x.1.2.2.2.2.2.2.2.2.1, x.1.2.2.2.2.2.2.2.2.2.1,
   x.1.2.2.2.2.2.2.2.2.2.2.1, [], [], [], ())
theorem t_lease_over (x : ((Int) × (List UInt8) × (Int) × (Int) × (Int) × (Int) × (List UInt8) × (Int) × (Int) × (Int) × (List UInt8) × (List UInt8) × (List UInt8) × (List UInt8) × Unit) × (Int)) (F : Nat) : fnRun TT Tryz.prog (e_lease_over F) s_lease_over (bodyOf 149) F x = M_lease_over F x := by kernel_rfl
theorem c_lease_over (F : Nat) : Ctr TT Tryz.prog 149 (conOf TT s_lease_over (M_lease_over F)) :=
 ctr_of (code := bodyOf 149) Tryz.func149 (by kernel_rfl) (by kernel_rfl) (by kernel_rfl) (by kernel_rfl) envN_ok hm (by kernel_rfl) (fun x r h => ⟨F, (t_lease_over x F).trans h⟩)
noncomputable def s_lease_Pass : Spec Kd := { params := [(.agg [(.int .i64), .str, (.int .i64), (.int .i64), (.int .i64), (.int .i64), .str, (.int .i64), (.int .i64), (.int .i64), .str, .str, .str, .str]), (.a (.int .i64)), (.a (.int .i64)), (.agg [(.int .i64), (.int .i64), (.int .i64), (.int .i64), (.int .i64), (.int .i64)])], ret := (.tup [(.agg [(.int .i64), .str, (.int .i64), (.int .i64), (.int .i64), (.int .i64), .str, (.int .i64), (.int .i64), (.int .i64), .str, .str, .str, .str]), (.a (.int .i64))]), pins := [], pl := { nt := 33 }, rfrz := [], ts := [33, 34], rc := [(8, some 35), (9, none)] }
noncomputable def e_lease_Pass (F : Nat) : Env El := (envS 147 (conOf TT s_num_Plus (M_num_Plus F)) (envS 148 (conOf TT s_num_Config (M_num_Config F)) (envS 146 (conOf TT s_lease_owned (M_lease_owned F)) envN)))
noncomputable def M_lease_Pass (F : Nat) (x : ((Int) × (List UInt8) × (Int) × (Int) × (Int) × (Int) × (List UInt8) × (Int) × (Int) × (Int) × (List UInt8) × (List UInt8) × (List UInt8) × (List UInt8) × Unit) × (Int) × (Int) × ((Int) × (Int) × (Int) × (Int) × (Int) × (Int) × Unit)) : Option (((Int) × (List UInt8) × (Int) × (Int) × (Int) × (Int) × (List UInt8) × (Int) × (Int) × (Int) × (List UInt8) × (List UInt8) × (List UInt8) × (List UInt8) × Unit) × (Int)) :=
 (M_lease_owned F (x.1, x.2.1)).bind fun (v0 : Int) =>
  if (!decide (v0 = 0)) = true then some ((0, [], 0, 0, 0, 0, [], 0, 0, 0, [], [], [], [], ()), v0)
  else
   if decide (x.1.2.2.2.2.2.1 = 5) = true then some ((0, [], 0, 0, 0, 0, [], 0, 0, 0, [], [], [], [], ()), 10)
   else
    (M_num_Config F x.2.2.2).bind fun (v1 : Int × Int × Int × Int × Int × Int × Unit) =>
     (M_num_Plus F (x.2.2.1, v1.2.1)).bind fun (v2 : Int) =>
      some ((x.1.1, x.1.2.1, x.1.2.2.1, x.1.2.2.2.1, x.1.2.2.2.2.1, IntKind.i64.wrap (x.1.2.2.2.2.2.1 + 1), x.1.2.2.2.2.2.2.1, v2, x.1.2.2.2.2.2.2.2.2), 0)
theorem t_lease_Pass (x : ((Int) × (List UInt8) × (Int) × (Int) × (Int) × (Int) × (List UInt8) × (Int) × (Int) × (Int) × (List UInt8) × (List UInt8) × (List UInt8) × (List UInt8) × Unit) × (Int) × (Int) × ((Int) × (Int) × (Int) × (Int) × (Int) × (Int) × Unit)) (F : Nat) : fnRun TT Tryz.prog (e_lease_Pass F) s_lease_Pass (bodyOf 81) F x = M_lease_Pass F x := by kernel_rfl
theorem c_lease_Pass (F : Nat) : Ctr TT Tryz.prog 81 (conOf TT s_lease_Pass (M_lease_Pass F)) :=
 ctr_of (code := bodyOf 81) Tryz.func81 (by kernel_rfl) (by kernel_rfl) (by kernel_rfl) (by kernel_rfl) (envS_ok (envS_ok (envS_ok envN_ok (c_lease_owned F)) (c_num_Config F)) (c_num_Plus F)) hm (by kernel_rfl) (fun x r h => ⟨F, (t_lease_Pass x F).trans h⟩)
noncomputable def s_lease_Finish : Spec Kd := { params := [(.agg [(.int .i64), .str, (.int .i64), (.int .i64), (.int .i64), (.int .i64), .str, (.int .i64), (.int .i64), (.int .i64), .str, .str, .str, .str]), (.a (.int .i64)), (.a (.int .i64)), (.a .str), (.a (.int .i64)), (.agg [(.int .i64), (.int .i64), (.int .i64), (.int .i64), (.int .i64), (.int .i64)])], ret := (.tup [(.agg [(.int .i64), .str, (.int .i64), (.int .i64), (.int .i64), (.int .i64), .str, (.int .i64), (.int .i64), (.int .i64), .str, .str, .str, .str]), (.a (.int .i64))]), pins := [], pl := { nt := 39, cuts := [(5, [(13, ⟨[.tmp 6 (.a (.ptr 384 0)), .tmp 12 (.a (.ptr 768 0)), .box 384 (.cells 35 [(.int .i64), .str, (.int .i64), (.int .i64), (.int .i64), (.int .i64), .str, (.int .i64), (.int .i64), (.int .i64), .str, .str, .str, .str]), .box 768 (.cells 35 [(.int .i64), .str, (.int .i64), (.int .i64), (.int .i64), (.int .i64), .str, (.int .i64), (.int .i64), (.int .i64), .str, .str, .str, .str])], [], []⟩)])] }, rfrz := [], ts := [39, 40], rc := [(12, some 35), (13, none)] }
noncomputable def e_lease_Finish (F : Nat) : Env El := (envS 150 (conOf TT s_entry_May (M_entry_May F)) (envS 147 (conOf TT s_num_Plus (M_num_Plus F)) (envS 148 (conOf TT s_num_Config (M_num_Config F)) (envS 149 (conOf TT s_lease_over (M_lease_over F)) (envS 146 (conOf TT s_lease_owned (M_lease_owned F)) envN)))))
noncomputable def M_lease_Finish (F : Nat) (x : ((Int) × (List UInt8) × (Int) × (Int) × (Int) × (Int) × (List UInt8) × (Int) × (Int) × (Int) × (List UInt8) × (List UInt8) × (List UInt8) × (List UInt8) × Unit) × (Int) × (Int) × (List UInt8) × (Int) × ((Int) × (Int) × (Int) × (Int) × (Int) × (Int) × Unit)) : Option (((Int) × (List UInt8) × (Int) × (Int) × (Int) × (Int) × (List UInt8) × (Int) × (Int) × (Int) × (List UInt8) × (List UInt8) × (List UInt8) × (List UInt8) × Unit) × (Int)) :=
 (M_lease_owned F (x.1, x.2.1)).bind fun (v0 : Int) =>
  if (!decide (v0 = 0)) = true then some ((0, [], 0, 0, 0, 0, [], 0, 0, 0, [], [], [], [], ()), v0)
  else
   (M_lease_over F (x.1, 2)).bind
    fun (v1 : Int × List UInt8 × Int × Int × Int × Int × List UInt8 × Int × Int × Int × List UInt8 × List UInt8 × List UInt8 × List UInt8 × Unit) =>
    ((M_num_Config F x.2.2.2.2.2).bind fun (v2 : Int × Int × Int × Int × Int × Int × Unit) =>
       (M_num_Plus F (x.2.2.2.2.1, v2.2.2.1)).bind fun (v3 : Int) =>
        some
         ((), (),
           (v1.1, v1.2.1, v1.2.2.1, v1.2.2.2.1, v1.2.2.2.2.1, v1.2.2.2.2.2.1, v1.2.2.2.2.2.2.1, v1.2.2.2.2.2.2.2.1, v3, x.2.2.1, x.2.2.2.1,
             v1.2.2.2.2.2.2.2.2.2.2.2.1, v1.2.2.2.2.2.2.2.2.2.2.2.2.1, v1.2.2.2.2.2.2.2.2.2.2.2.2.2.1, ()),
           (0, [], 0, 0, 0, 0, [], 0, 0, 0, [], [], [], [], ()), ())).bind
     fun
      (v4 :
       Unit ×
        Unit ×
         (Int × List UInt8 × Int × Int × Int × Int × List UInt8 × Int × Int × Int × List UInt8 × List UInt8 × List UInt8 × List UInt8 × Unit) ×
          (Int × List UInt8 × Int × Int × Int × Int × List UInt8 × Int × Int × Int × List UInt8 × List UInt8 × List UInt8 × List UInt8 × Unit) ×
           Unit) =>
     (M_entry_May F v4.2.2.1).bind fun (v5 : Bool) =>
      if (!v5) = true then some ((0, [], 0, 0, 0, 0, [], 0, 0, 0, [], [], [], [], ()), 1) else some (v4.2.2.1, 0)
theorem t_lease_Finish (x : ((Int) × (List UInt8) × (Int) × (Int) × (Int) × (Int) × (List UInt8) × (Int) × (Int) × (Int) × (List UInt8) × (List UInt8) × (List UInt8) × (List UInt8) × Unit) × (Int) × (Int) × (List UInt8) × (Int) × ((Int) × (Int) × (Int) × (Int) × (Int) × (Int) × Unit)) (F : Nat) : fnRun TT Tryz.prog (e_lease_Finish F) s_lease_Finish (bodyOf 83) F x = M_lease_Finish F x := by kernel_rfl
theorem c_lease_Finish (F : Nat) : Ctr TT Tryz.prog 83 (conOf TT s_lease_Finish (M_lease_Finish F)) :=
 ctr_of (code := bodyOf 83) Tryz.func83 (by kernel_rfl) (by kernel_rfl) (by kernel_rfl) (by kernel_rfl) (envS_ok (envS_ok (envS_ok (envS_ok (envS_ok envN_ok (c_lease_owned F)) (c_lease_over F)) (c_num_Config F)) (c_num_Plus F)) (c_entry_May F)) hm (by kernel_rfl) (fun x r h => ⟨F, (t_lease_Finish x F).trans h⟩)
noncomputable def s_lease_Fail : Spec Kd := { params := [(.agg [(.int .i64), .str, (.int .i64), (.int .i64), (.int .i64), (.int .i64), .str, (.int .i64), (.int .i64), (.int .i64), .str, .str, .str, .str]), (.a (.int .i64))], ret := (.tup [(.agg [(.int .i64), .str, (.int .i64), (.int .i64), (.int .i64), (.int .i64), .str, (.int .i64), (.int .i64), (.int .i64), .str, .str, .str, .str]), (.a (.int .i64))]), pins := [], pl := { nt := 16 }, rfrz := [], ts := [16, 17], rc := [(4, some 35), (5, none)] }
noncomputable def e_lease_Fail (F : Nat) : Env El := (envS 149 (conOf TT s_lease_over (M_lease_over F)) (envS 146 (conOf TT s_lease_owned (M_lease_owned F)) envN))
noncomputable def M_lease_Fail (F : Nat) (x : ((Int) × (List UInt8) × (Int) × (Int) × (Int) × (Int) × (List UInt8) × (Int) × (Int) × (Int) × (List UInt8) × (List UInt8) × (List UInt8) × (List UInt8) × Unit) × (Int)) : Option (((Int) × (List UInt8) × (Int) × (Int) × (Int) × (Int) × (List UInt8) × (Int) × (Int) × (Int) × (List UInt8) × (List UInt8) × (List UInt8) × (List UInt8) × Unit) × (Int)) :=
 (M_lease_owned F x).bind fun (v0 : Int) =>
  if (!decide (v0 = 0)) = true then some ((0, [], 0, 0, 0, 0, [], 0, 0, 0, [], [], [], [], ()), v0)
  else
   (M_lease_over F (x.1, 3)).bind
    fun (v1 : Int × List UInt8 × Int × Int × Int × Int × List UInt8 × Int × Int × Int × List UInt8 × List UInt8 × List UInt8 × List UInt8 × Unit) =>
    some (v1, 0)
theorem t_lease_Fail (x : ((Int) × (List UInt8) × (Int) × (Int) × (Int) × (Int) × (List UInt8) × (Int) × (Int) × (Int) × (List UInt8) × (List UInt8) × (List UInt8) × (List UInt8) × Unit) × (Int)) (F : Nat) : fnRun TT Tryz.prog (e_lease_Fail F) s_lease_Fail (bodyOf 88) F x = M_lease_Fail F x := by kernel_rfl
theorem c_lease_Fail (F : Nat) : Ctr TT Tryz.prog 88 (conOf TT s_lease_Fail (M_lease_Fail F)) :=
 ctr_of (code := bodyOf 88) Tryz.func88 (by kernel_rfl) (by kernel_rfl) (by kernel_rfl) (by kernel_rfl) (envS_ok (envS_ok envN_ok (c_lease_owned F)) (c_lease_over F)) hm (by kernel_rfl) (fun x r h => ⟨F, (t_lease_Fail x F).trans h⟩)
noncomputable def s_lease_Release : Spec Kd := { params := [(.agg [(.int .i64), .str, (.int .i64), (.int .i64), (.int .i64), (.int .i64), .str, (.int .i64), (.int .i64), (.int .i64), .str, .str, .str, .str]), (.a (.int .i64)), (.a (.int .i64))], ret := (.tup [(.agg [(.int .i64), .str, (.int .i64), (.int .i64), (.int .i64), (.int .i64), .str, (.int .i64), (.int .i64), (.int .i64), .str, .str, .str, .str]), (.a (.int .i64))]), pins := [], pl := { nt := 20 }, rfrz := [], ts := [20, 21], rc := [(6, some 35), (7, none)] }
noncomputable def e_lease_Release (F : Nat) : Env El := (envS 115 (conOf TT s_num_Time (M_num_Time F)) (envS 146 (conOf TT s_lease_owned (M_lease_owned F)) envN))
noncomputable def M_lease_Release (F : Nat) (x : ((Int) × (List UInt8) × (Int) × (Int) × (Int) × (Int) × (List UInt8) × (Int) × (Int) × (Int) × (List UInt8) × (List UInt8) × (List UInt8) × (List UInt8) × Unit) × (Int) × (Int)) : Option (((Int) × (List UInt8) × (Int) × (Int) × (Int) × (Int) × (List UInt8) × (Int) × (Int) × (Int) × (List UInt8) × (List UInt8) × (List UInt8) × (List UInt8) × Unit) × (Int)) :=
 (M_lease_owned F (x.1, x.2.1)).bind fun (v0 : Int) =>
  if (!decide (v0 = 0)) = true then some ((0, [], 0, 0, 0, 0, [], 0, 0, 0, [], [], [], [], ()), v0)
  else
   (M_num_Time F x.2.2).bind fun (v1 : Int) =>
    some ((x.1.1, x.1.2.1, x.1.2.2.1, x.1.2.2.2.1, x.1.2.2.2.2.1, x.1.2.2.2.2.2.1, x.1.2.2.2.2.2.2.1, v1, x.1.2.2.2.2.2.2.2.2), 0)
theorem t_lease_Release (x : ((Int) × (List UInt8) × (Int) × (Int) × (Int) × (Int) × (List UInt8) × (Int) × (Int) × (Int) × (List UInt8) × (List UInt8) × (List UInt8) × (List UInt8) × Unit) × (Int) × (Int)) (F : Nat) : fnRun TT Tryz.prog (e_lease_Release F) s_lease_Release (bodyOf 89) F x = M_lease_Release F x := by kernel_rfl
theorem c_lease_Release (F : Nat) : Ctr TT Tryz.prog 89 (conOf TT s_lease_Release (M_lease_Release F)) :=
 ctr_of (code := bodyOf 89) Tryz.func89 (by kernel_rfl) (by kernel_rfl) (by kernel_rfl) (by kernel_rfl) (envS_ok (envS_ok envN_ok (c_lease_owned F)) (c_num_Time F)) hm (by kernel_rfl) (fun x r h => ⟨F, (t_lease_Release x F).trans h⟩)
end Go.Vm
