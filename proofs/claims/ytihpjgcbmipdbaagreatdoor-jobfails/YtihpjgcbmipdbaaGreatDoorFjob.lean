/- Models of functions of the program, and that each keeps its contract: for all arguments of its shape. No condition. -/
import Derived.Test.YtihpjgcbmipdbaaGreatDoorKt
import Derived.Test.YtihpjgcbmipdbaaGreatDoorFlease
import Derived.Test.YtihpjgcbmipdbaaGreatDoorFprog2
namespace Go.Vm
open Go.Proofs
set_option linter.unusedVariables false
noncomputable def s_job_Of : Spec Kd := { params := [(.agg [(.int .i64), (.int .i64), (.int .i64), .str, .str, .str, .str]), (.agg [(.int .i64), .str, (.int .i64), (.int .i64), (.int .i64), (.int .i64), .str, (.int .i64), (.int .i64), (.int .i64), .str, .str, .str, .str])], ret := (.one (.agg [(.int .i64), (.int .i64), (.int .i64), .str, (.int .i64), (.int .i64), .bool, (.int .i64)])), pins := [], pl := { nt := 18, cuts := [(1, [(14, ⟨[.tmp 4 (.a (.ptr 256 0)), .box 256 (.cells 68 [(.int .i64), (.int .i64), (.int .i64), .str, (.int .i64), (.int .i64), .bool, (.int .i64)])], [], []⟩)])] }, rfrz := [], ts := [18], rc := [(4, some 68)] }
noncomputable def e_job_Of (F : Nat) : Env El := envN
noncomputable def M_job_Of (F : Nat) (x : ((Int) × (Int) × (Int) × (List UInt8) × (List UInt8) × (List UInt8) × (List UInt8) × Unit) × ((Int) × (List UInt8) × (Int) × (Int) × (Int) × (Int) × (List UInt8) × (Int) × (Int) × (Int) × (List UInt8) × (List UInt8) × (List UInt8) × (List UInt8) × Unit)) : Option ((Int) × (Int) × (Int) × (List UInt8) × (Int) × (Int) × (Bool) × (Int) × Unit) :=
 some (x.1.1, x.1.2.1, x.2.1, x.2.2.1, x.2.2.2.2.1, x.2.2.2.2.2.1, false, 0, ())
theorem t_job_Of (x : ((Int) × (Int) × (Int) × (List UInt8) × (List UInt8) × (List UInt8) × (List UInt8) × Unit) × ((Int) × (List UInt8) × (Int) × (Int) × (Int) × (Int) × (List UInt8) × (Int) × (Int) × (Int) × (List UInt8) × (List UInt8) × (List UInt8) × (List UInt8) × Unit)) (F : Nat) : fnRun TT Tryz.prog (e_job_Of F) s_job_Of (bodyOf 39) F x = M_job_Of F x := by kernel_rfl
theorem c_job_Of (F : Nat) : Ctr TT Tryz.prog 39 (conOf TT s_job_Of (M_job_Of F)) :=
 ctr_of (code := bodyOf 39) Tryz.func39 (by kernel_rfl) (by kernel_rfl) (by kernel_rfl) (by kernel_rfl) envN_ok hm (by kernel_rfl) (fun x r h => ⟨F, (t_job_Of x F).trans h⟩)
noncomputable def s_job_Owns : Spec Kd := { params := [(.agg [(.int .i64), (.int .i64), (.int .i64), .str, (.int .i64), (.int .i64), .bool, (.int .i64)]), (.agg [(.int .i64), .str, (.int .i64), (.int .i64), (.int .i64), (.int .i64), .str, (.int .i64), (.int .i64), (.int .i64), .str, .str, .str, .str]), (.a (.int .i64))], ret := (.one (.a .bool)), pins := [], pl := { nt := 40, cuts := [(2, [(6, ⟨[.tmp 39 (.a .bool)], [], []⟩)]), (1, [(12, ⟨[.tmp 2 (.a (.int .i64)), .tmp 3 (.a (.ptr 192 0)), .tmp 4 (.a (.ptr 256 0)), .tmp 19 (.a .bool), .box 192 (.cells 68 [(.int .i64), (.int .i64), (.int .i64), .str, (.int .i64), (.int .i64), .bool, (.int .i64)]), .box 256 (.cells 35 [(.int .i64), .str, (.int .i64), (.int .i64), (.int .i64), (.int .i64), .str, (.int .i64), (.int .i64), (.int .i64), .str, .str, .str, .str])], [], []⟩), (7, ⟨[.tmp 2 (.a (.int .i64)), .tmp 3 (.a (.ptr 192 0)), .tmp 4 (.a (.ptr 256 0)), .tmp 26 (.a .bool), .box 192 (.cells 68 [(.int .i64), (.int .i64), (.int .i64), .str, (.int .i64), (.int .i64), .bool, (.int .i64)]), .box 256 (.cells 35 [(.int .i64), .str, (.int .i64), (.int .i64), (.int .i64), (.int .i64), .str, (.int .i64), (.int .i64), (.int .i64), .str, .str, .str, .str])], [], []⟩), (7, ⟨[.tmp 2 (.a (.int .i64)), .tmp 4 (.a (.ptr 256 0)), .tmp 33 (.a .bool), .box 256 (.cells 35 [(.int .i64), .str, (.int .i64), (.int .i64), (.int .i64), (.int .i64), .str, (.int .i64), (.int .i64), (.int .i64), .str, .str, .str, .str])], [], []⟩)])] }, rfrz := [], ts := [6] }
noncomputable def e_job_Owns (F : Nat) : Env El := (envS 79 (conOf TT s_lease_Held (M_lease_Held F)) envN)
noncomputable def M_job_Owns (F : Nat) (x : ((Int) × (Int) × (Int) × (List UInt8) × (Int) × (Int) × (Bool) × (Int) × Unit) × ((Int) × (List UInt8) × (Int) × (Int) × (Int) × (Int) × (List UInt8) × (Int) × (Int) × (Int) × (List UInt8) × (List UInt8) × (List UInt8) × (List UInt8) × Unit) × (Int)) : Option (Bool) :=
 (if decide (x.1.2.2.1 = x.2.1.1) = true then some (x.2.2, (), (), decide (x.1.2.2.2.1 = x.2.1.2.1), x.1, x.2.1, ())
   else some (x.2.2, (), (), false, x.1, x.2.1, ())).bind
  fun
   (v0 :
    Int ×
     Unit ×
      Unit ×
       Bool ×
        (Int × Int × Int × List UInt8 × Int × Int × Bool × Int × Unit) ×
         (Int × List UInt8 × Int × Int × Int × Int × List UInt8 × Int × Int × Int × List UInt8 × List UInt8 × List UInt8 × List UInt8 × Unit) ×
          Unit) =>
  (if v0.2.2.2.1 = true then some (v0.1, (), (), decide (v0.2.2.2.2.1.2.2.2.2.1 = v0.2.2.2.2.2.1.2.2.2.1), v0.2.2.2.2.1, v0.2.2.2.2.2.1, ())
    else some (v0.1, (), (), false, v0.2.2.2.2.1, v0.2.2.2.2.2.1, ())).bind
   fun
    (v1 :
     Int ×
      Unit ×
       Unit ×
        Bool ×
         (Int × Int × Int × List UInt8 × Int × Int × Bool × Int × Unit) ×
          (Int × List UInt8 × Int × Int × Int × Int × List UInt8 × Int × Int × Int × List UInt8 × List UInt8 × List UInt8 × List UInt8 × Unit) ×
           Unit) =>
   (if v1.2.2.2.1 = true then some (v1.1, (), decide (v1.2.2.2.2.1.2.2.2.2.2.1 = v1.2.2.2.2.2.1.2.2.2.2.1), v1.2.2.2.2.2.1, ())
     else some (v1.1, (), false, v1.2.2.2.2.2.1, ())).bind
    fun
     (v2 :
      Int ×
       Unit ×
        Bool ×
         (Int × List UInt8 × Int × Int × Int × Int × List UInt8 × Int × Int × Int × List UInt8 × List UInt8 × List UInt8 × List UInt8 × Unit) ×
          Unit) =>
    (if v2.2.2.1 = true then (M_lease_Held F (v2.2.2.2.1, v2.1)).bind fun (v3 : Bool) => some (v3, ()) else some (false, ())).bind fun (v4 : Bool × Unit) =>
     some v4.1
theorem t_job_Owns (x : ((Int) × (Int) × (Int) × (List UInt8) × (Int) × (Int) × (Bool) × (Int) × Unit) × ((Int) × (List UInt8) × (Int) × (Int) × (Int) × (Int) × (List UInt8) × (Int) × (Int) × (Int) × (List UInt8) × (List UInt8) × (List UInt8) × (List UInt8) × Unit) × (Int)) (F : Nat) : fnRun TT Tryz.prog (e_job_Owns F) s_job_Owns (bodyOf 40) F x = M_job_Owns F x := by kernel_rfl
theorem c_job_Owns (F : Nat) : Ctr TT Tryz.prog 40 (conOf TT s_job_Owns (M_job_Owns F)) :=
 ctr_of (code := bodyOf 40) Tryz.func40 (by kernel_rfl) (by kernel_rfl) (by kernel_rfl) (by kernel_rfl) (envS_ok envN_ok (c_lease_Held F)) hm (by kernel_rfl) (fun x r h => ⟨F, (t_job_Owns x F).trans h⟩)
noncomputable def s_job_Mine : Spec Kd := { params := [(.agg [(.int .i64), (.int .i64), (.int .i64), .str, (.int .i64), (.int .i64), .bool, (.int .i64)]), (.agg [(.int .i64), .str, (.int .i64), (.int .i64), (.int .i64), (.int .i64)])], ret := (.one (.a .bool)), pins := [], pl := { nt := 23, cuts := [(2, [(17, ⟨[.tmp 22 (.a .bool)], [], []⟩)])] }, rfrz := [], ts := [4] }
noncomputable def e_job_Mine (F : Nat) : Env El := envN
noncomputable def M_job_Mine (F : Nat) (x : ((Int) × (Int) × (Int) × (List UInt8) × (Int) × (Int) × (Bool) × (Int) × Unit) × ((Int) × (List UInt8) × (Int) × (Int) × (Int) × (Int) × Unit)) : Option (Bool) :=
 (if x.1.2.2.2.2.2.2.1 = true then
    some
     (decide (x.2.1 = x.1.2.2.1) &&
       (decide (x.2.2.1 = x.1.2.2.2.1) &&
        (decide (x.2.2.2.1 = x.1.2.2.2.2.1) &&
         (decide (x.2.2.2.2.1 = x.1.2.2.2.2.2.2.2.1) && (decide (x.2.2.2.2.2.1 = x.1.2.2.2.2.2.1) && (decide (0 = 0) && true))))),
      ())
   else some (false, ())).bind
  fun (v0 : Bool × Unit) => some v0.1
theorem t_job_Mine (x : ((Int) × (Int) × (Int) × (List UInt8) × (Int) × (Int) × (Bool) × (Int) × Unit) × ((Int) × (List UInt8) × (Int) × (Int) × (Int) × (Int) × Unit)) (F : Nat) : fnRun TT Tryz.prog (e_job_Mine F) s_job_Mine (bodyOf 47) F x = M_job_Mine F x := by kernel_rfl
theorem c_job_Mine (F : Nat) : Ctr TT Tryz.prog 47 (conOf TT s_job_Mine (M_job_Mine F)) :=
 ctr_of (code := bodyOf 47) Tryz.func47 (by kernel_rfl) (by kernel_rfl) (by kernel_rfl) (by kernel_rfl) envN_ok hm (by kernel_rfl) (fun x r h => ⟨F, (t_job_Mine x F).trans h⟩)
noncomputable def s_job_answer : Spec Kd := { params := [(.agg [(.int .i64), (.int .i64), (.int .i64), .str, (.int .i64), (.int .i64), .bool, (.int .i64)]), (.a (.int .i64)), (.a .str)], ret := (.one (.agg [(.int .i64), (.int .i64), (.int .i64), .str, (.int .i64), (.int .i64)])), pins := [], pl := { nt := 14 }, rfrz := [], ts := [14], rc := [(6, some 80)] }
noncomputable def e_job_answer (F : Nat) : Env El := envN
noncomputable def M_job_answer (F : Nat) (x : ((Int) × (Int) × (Int) × (List UInt8) × (Int) × (Int) × (Bool) × (Int) × Unit) × (Int) × (List UInt8)) : Option ((Int) × (Int) × (Int) × (List UInt8) × (Int) × (Int) × Unit) :=
 some (x.1.1, x.1.2.1, x.2.1, x.2.2, 0, 0, ())
theorem t_job_answer (x : ((Int) × (Int) × (Int) × (List UInt8) × (Int) × (Int) × (Bool) × (Int) × Unit) × (Int) × (List UInt8)) (F : Nat) : fnRun TT Tryz.prog (e_job_answer F) s_job_answer (bodyOf 84) F x = M_job_answer F x := by kernel_rfl
theorem c_job_answer (F : Nat) : Ctr TT Tryz.prog 84 (conOf TT s_job_answer (M_job_answer F)) :=
 ctr_of (code := bodyOf 84) Tryz.func84 (by kernel_rfl) (by kernel_rfl) (by kernel_rfl) (by kernel_rfl) envN_ok hm (by kernel_rfl) (fun x r h => ⟨F, (t_job_answer x F).trans h⟩)
noncomputable def s_job_later : Spec Kd := { params := [(.agg [(.int .i64), (.int .i64), (.int .i64), .str, (.int .i64), (.int .i64), .bool, (.int .i64)])], ret := (.one (.agg [(.int .i64), (.int .i64), (.int .i64), .str, (.int .i64), (.int .i64)])), pins := [], pl := { nt := 8 }, rfrz := [], ts := [8], rc := [(2, some 80)] }
noncomputable def e_job_later (F : Nat) : Env El := (envS 84 (conOf TT s_job_answer (M_job_answer F)) envN)
noncomputable def M_job_later (F : Nat) (x : ((Int) × (Int) × (Int) × (List UInt8) × (Int) × (Int) × (Bool) × (Int) × Unit)) : Option ((Int) × (Int) × (Int) × (List UInt8) × (Int) × (Int) × Unit) :=
 (M_job_answer F (x, 503, [])).bind fun (v0 : Int × Int × Int × List UInt8 × Int × Int × Unit) =>
  some (v0.1, v0.2.1, v0.2.2.1, v0.2.2.2.1, 1, v0.2.2.2.2.2.1, ())
theorem t_job_later (x : ((Int) × (Int) × (Int) × (List UInt8) × (Int) × (Int) × (Bool) × (Int) × Unit)) (F : Nat) : fnRun TT Tryz.prog (e_job_later F) s_job_later (bodyOf 80) F x = M_job_later F x := by kernel_rfl
theorem c_job_later (F : Nat) : Ctr TT Tryz.prog 80 (conOf TT s_job_later (M_job_later F)) :=
 ctr_of (code := bodyOf 80) Tryz.func80 (by kernel_rfl) (by kernel_rfl) (by kernel_rfl) (by kernel_rfl) (envS_ok envN_ok (c_job_answer F)) hm (by kernel_rfl) (fun x r h => ⟨F, (t_job_later x F).trans h⟩)
noncomputable def s_job_put : Spec Kd := { params := [(.agg [(.int .i64), (.int .i64), (.int .i64), .str, (.int .i64), (.int .i64), .bool, (.int .i64)]), (.a (.int .i64)), (.agg [(.int .i64), .str, (.int .i64), (.int .i64), (.int .i64), (.int .i64), .str, (.int .i64), (.int .i64), (.int .i64), .str, .str, .str, .str]), (.a (.int .i64)), (.agg [(.int .i64), (.int .i64), (.int .i64), .str, (.int .i64), (.int .i64)])], ret := (.one (.agg [(.int .i64), (.int .i64), .str, (.int .i64), (.int .i64), (.int .i64), (.int .i64), .str, (.int .i64), (.int .i64), (.int .i64), .str, .str, .str, .str, (.int .i64), .str, (.int .i64), (.int .i64), (.int .i64), .str, .str, (.int .i64), (.int .i64), (.int .i64), .str, (.int .i64), (.int .i64)])), pins := [], pl := { nt := 20 }, rfrz := [], ts := [20], rc := [(10, some 82)] }
noncomputable def e_job_put (F : Nat) : Env El := (envS 80 (conOf TT s_job_later (M_job_later F)) envN)
noncomputable def M_job_put (F : Nat) (x : ((Int) × (Int) × (Int) × (List UInt8) × (Int) × (Int) × (Bool) × (Int) × Unit) × (Int) × ((Int) × (List UInt8) × (Int) × (Int) × (Int) × (Int) × (List UInt8) × (Int) × (Int) × (Int) × (List UInt8) × (List UInt8) × (List UInt8) × (List UInt8) × Unit) × (Int) × ((Int) × (Int) × (Int) × (List UInt8) × (Int) × (Int) × Unit)) : Option ((Int) × (Int) × (List UInt8) × (Int) × (Int) × (Int) × (Int) × (List UInt8) × (Int) × (Int) × (Int) × (List UInt8) × (List UInt8) × (List UInt8) × (List UInt8) × (Int) × (List UInt8) × (Int) × (Int) × (Int) × (List UInt8) × (List UInt8) × (Int) × (Int) × (Int) × (List UInt8) × (Int) × (Int) × Unit) :=
 if (!decide (x.2.2.2.1 = 0)) = true then
  (M_job_later F x.1).bind fun (v0 : Int × Int × Int × List UInt8 × Int × Int × Unit) =>
   some (1, 0, [], 0, 0, 0, 0, [], 0, 0, 0, [], [], [], [], 0, [], 0, 0, 0, [], [], v0)
 else
  some
   (x.2.1, x.2.2.1.1, x.2.2.1.2.1, x.2.2.1.2.2.1, x.2.2.1.2.2.2.1, x.2.2.1.2.2.2.2.1, x.2.2.1.2.2.2.2.2.1, x.2.2.1.2.2.2.2.2.2.1, x.2.2.1.2.2.2.2.2.2.2.1,
    x.2.2.1.2.2.2.2.2.2.2.2.1, x.2.2.1.2.2.2.2.2.2.2.2.2.1, x.2.2.1.2.2.2.2.2.2.2.2.2.2.1, x.2.2.1.2.2.2.2.2.2.2.2.2.2.2.1, x.2.2.1.2.2.2.2.2.2.2.2.2.2.2.2.1,
    x.2.2.1.2.2.2.2.2.2.2.2.2.2.2.2.2.1, 0, [], 0, 0, 0, [], [], x.2.2.2.2)
theorem t_job_put (x : ((Int) × (Int) × (Int) × (List UInt8) × (Int) × (Int) × (Bool) × (Int) × Unit) × (Int) × ((Int) × (List UInt8) × (Int) × (Int) × (Int) × (Int) × (List UInt8) × (Int) × (Int) × (Int) × (List UInt8) × (List UInt8) × (List UInt8) × (List UInt8) × Unit) × (Int) × ((Int) × (Int) × (Int) × (List UInt8) × (Int) × (Int) × Unit)) (F : Nat) : fnRun TT Tryz.prog (e_job_put F) s_job_put (bodyOf 82) F x = M_job_put F x := by kernel_rfl
theorem c_job_put (F : Nat) : Ctr TT Tryz.prog 82 (conOf TT s_job_put (M_job_put F)) :=
 ctr_of (code := bodyOf 82) Tryz.func82 (by kernel_rfl) (by kernel_rfl) (by kernel_rfl) (by kernel_rfl) (envS_ok envN_ok (c_job_later F)) hm (by kernel_rfl) (fun x r h => ⟨F, (t_job_put x F).trans h⟩)
noncomputable def s_job_Step : Spec Kd := { params := [(.agg [(.int .i64), (.int .i64), (.int .i64), .str, (.int .i64), (.int .i64), .bool, (.int .i64)]), (.agg [(.int .i64), .str, (.int .i64), (.int .i64), (.int .i64), (.int .i64), .str, (.int .i64), (.int .i64), (.int .i64), .str, .str, .str, .str]), (.a (.slc .ph)), (.a (.int .i64)), (.agg [(.int .i64), (.int .i64), (.int .i64), (.int .i64), (.int .i64), (.int .i64)])], ret := (.one (.agg [(.int .i64), (.int .i64), .str, (.int .i64), (.int .i64), (.int .i64), (.int .i64), .str, (.int .i64), (.int .i64), (.int .i64), .str, .str, .str, .str, (.int .i64), .str, (.int .i64), (.int .i64), (.int .i64), .str, .str, (.int .i64), (.int .i64), (.int .i64), .str, (.int .i64), (.int .i64)])), pins := [], pl := { nt := 89, cuts := [(14, [(16, ⟨[.tmp 5 (.a (.ptr 320 0)), .tmp 6 (.a (.ptr 384 0)), .tmp 10 (.a (.ptr 640 0)), .tmp 11 (.a (.ptr 704 0)), .tmp 12 (.a (.int .i64)), .tmp 15 (.a (.ptr 960 0)), .box 320 (.cells 68 [(.int .i64), (.int .i64), (.int .i64), .str, (.int .i64), (.int .i64), .bool, (.int .i64)]), .box 384 (.cells 35 [(.int .i64), .str, (.int .i64), (.int .i64), (.int .i64), (.int .i64), .str, (.int .i64), (.int .i64), (.int .i64), .str, .str, .str, .str]), .box 640 (.cells 82 [(.int .i64), (.int .i64), .str, (.int .i64), (.int .i64), (.int .i64), (.int .i64), .str, (.int .i64), (.int .i64), (.int .i64), .str, .str, .str, .str, (.int .i64), .str, (.int .i64), (.int .i64), (.int .i64), .str, .str, (.int .i64), (.int .i64), (.int .i64), .str, (.int .i64), (.int .i64)]), .box 704 (.cells 54 [(.int .i64), (.int .i64), .str, (.int .i64), .str, (.int .i64), (.int .i64), (.int .i64), .str, .str]), .box 960 (.cells 35 [(.int .i64), .str, (.int .i64), (.int .i64), (.int .i64), (.int .i64), .str, (.int .i64), (.int .i64), (.int .i64), .str, .str, .str, .str])], [], []⟩)]), (12, [(12, ⟨[.tmp 5 (.a (.ptr 320 0)), .tmp 10 (.a (.ptr 640 0)), .tmp 13 (.a (.ptr 832 0)), .tmp 14 (.a (.int .i64)), .box 320 (.cells 68 [(.int .i64), (.int .i64), (.int .i64), .str, (.int .i64), (.int .i64), .bool, (.int .i64)]), .box 640 (.cells 82 [(.int .i64), (.int .i64), .str, (.int .i64), (.int .i64), (.int .i64), (.int .i64), .str, (.int .i64), (.int .i64), (.int .i64), .str, .str, .str, .str, (.int .i64), .str, (.int .i64), (.int .i64), (.int .i64), .str, .str, (.int .i64), (.int .i64), (.int .i64), .str, (.int .i64), (.int .i64)]), .box 832 (.cells 35 [(.int .i64), .str, (.int .i64), (.int .i64), (.int .i64), (.int .i64), .str, (.int .i64), (.int .i64), (.int .i64), .str, .str, .str, .str])], [], []⟩)])] }, rfrz := [], ts := [89], rc := [(10, some 82)] }
noncomputable def e_job_Step (F : Nat) : Env El := (envS 84 (conOf TT s_job_answer (M_job_answer F)) (envS 83 (conOf TT s_lease_Finish (M_lease_Finish F)) (envS 82 (conOf TT s_job_put (M_job_put F)) (envS 81 (conOf TT s_lease_Pass (M_lease_Pass F)) (envS 30 (conOf TT s_prog_Next (M_prog_Next F)) (envS 80 (conOf TT s_job_later (M_job_later F)) (envS 40 (conOf TT s_job_Owns (M_job_Owns F)) envN)))))))
noncomputable def M_job_Step (F : Nat) (x : ((Int) × (Int) × (Int) × (List UInt8) × (Int) × (Int) × (Bool) × (Int) × Unit) × ((Int) × (List UInt8) × (Int) × (Int) × (Int) × (Int) × (List UInt8) × (Int) × (Int) × (Int) × (List UInt8) × (List UInt8) × (List UInt8) × (List UInt8) × Unit) × (List (El .ph)) × (Int) × ((Int) × (Int) × (Int) × (Int) × (Int) × (Int) × Unit)) : Option ((Int) × (Int) × (List UInt8) × (Int) × (Int) × (Int) × (Int) × (List UInt8) × (Int) × (Int) × (Int) × (List UInt8) × (List UInt8) × (List UInt8) × (List UInt8) × (Int) × (List UInt8) × (Int) × (Int) × (Int) × (List UInt8) × (List UInt8) × (Int) × (Int) × (Int) × (List UInt8) × (Int) × (Int) × Unit) :=
 (M_job_Owns F (x.1, x.2.1, x.2.2.2.1)).bind fun (v0 : Bool) =>
  if (!v0) = true then
   (M_job_later F x.1).bind fun (v1 : Int × Int × Int × List UInt8 × Int × Int × Unit) =>
    some (1, 0, [], 0, 0, 0, 0, [], 0, 0, 0, [], [], [], [], 0, [], 0, 0, 0, [], [], v1)
  else
   if x.1.2.2.2.2.2.2.1 = true then some (0, 0, [], 0, 0, 0, 0, [], 0, 0, 0, [], [], [], [], 0, [], 0, 0, 0, [], [], 0, 0, 0, [], 0, 0, ())
   else
    (M_prog_Next F (x.2.2.1, x.2.1)).bind fun (v2 : (Int × Int × List UInt8 × Int × List UInt8 × Int × Int × Int × List UInt8 × List UInt8 × Unit) × Int) =>
     if (!decide (v2.2 = 0)) = true then
      (M_job_later F x.1).bind fun (v3 : Int × Int × Int × List UInt8 × Int × Int × Unit) =>
       some (1, 0, [], 0, 0, 0, 0, [], 0, 0, 0, [], [], [], [], 0, [], 0, 0, 0, [], [], v3)
     else
      if decide (v2.1.1 = 3) = true then
       some
        (2, 0, [], 0, 0, 0, 0, [], 0, 0, 0, [], [], [], [], v2.1.2.2.2.1, v2.1.2.2.2.2.1, v2.1.2.2.2.2.2.1, v2.1.2.2.2.2.2.2.1, v2.1.2.2.2.2.2.2.2.1,
         v2.1.2.2.2.2.2.2.2.2.1, v2.1.2.2.2.2.2.2.2.2.2.1, 0, 0, 0, [], 0, 0, ())
      else
       if decide (v2.1.1 = 1) = true then
        ((M_lease_Pass F (x.2.1, x.1.2.2.2.2.2.1, x.2.2.2)).bind
           fun
            (v4 :
             (Int × List UInt8 × Int × Int × Int × Int × List UInt8 × Int × Int × Int × List UInt8 × List UInt8 × List UInt8 × List UInt8 × Unit) ×
              Int) =>
           some
            ((), (), (), v4.2, x.1, (0, 0, [], 0, 0, 0, 0, [], 0, 0, 0, [], [], [], [], 0, [], 0, 0, 0, [], [], 0, 0, 0, [], 0, 0, ()), v4.1,
              ())).bind
         fun
          (v5 :
           Unit ×
            Unit ×
             Unit ×
              Int ×
               (Int × Int × Int × List UInt8 × Int × Int × Bool × Int × Unit) ×
                (Int ×
                  Int ×
                   List UInt8 ×
                    Int ×
                     Int ×
                      Int ×
                       Int ×
                        List UInt8 ×
                         Int ×
                          Int ×
                           Int ×
                            List UInt8 ×
                             List UInt8 ×
                              List UInt8 ×
                               List UInt8 ×
                                Int ×
                                 List UInt8 ×
                                  Int ×
                                   Int × Int × List UInt8 × List UInt8 × Int × Int × Int × List UInt8 × Int × Int × Unit) ×
                 (Int ×
                   List UInt8 ×
                    Int × Int × Int × Int × List UInt8 × Int × Int × Int × List UInt8 × List UInt8 × List UInt8 × List UInt8 × Unit) ×
                  Unit) =>
         (M_job_put F (v5.2.2.2.2.1, 3, v5.2.2.2.2.2.2.1, v5.2.2.2.1, 0, 0, 0, [], 0, 0, ())).bind
          fun
           (v6 :
            Int ×
             Int ×
              List UInt8 ×
               Int ×
                Int ×
                 Int ×
                  Int ×
                   List UInt8 ×
                    Int ×
                     Int ×
                      Int ×
                       List UInt8 ×
                        List UInt8 ×
                         List UInt8 ×
                          List UInt8 ×
                           Int ×
                            List UInt8 ×
                             Int × Int × Int × List UInt8 × List UInt8 × Int × Int × Int × List UInt8 × Int × Int × Unit) =>
          some v6
       else
        ((M_lease_Finish F (x.2.1, x.1.2.2.2.2.2.1, v2.1.2.1, v2.1.2.2.1, x.2.2.2)).bind
           fun
            (v7 :
             (Int × List UInt8 × Int × Int × Int × Int × List UInt8 × Int × Int × Int × List UInt8 × List UInt8 × List UInt8 × List UInt8 × Unit) ×
              Int) =>
           some
            ((), (), (), (), v7.2, (), x.1, x.2.1, (0, 0, [], 0, 0, 0, 0, [], 0, 0, 0, [], [], [], [], 0, [], 0, 0, 0, [], [], 0, 0, 0, [], 0, 0, ()),
              v2.1, v7.1, ())).bind
         fun
          (v8 :
           Unit ×
            Unit ×
             Unit ×
              Unit ×
               Int ×
                Unit ×
                 (Int × Int × Int × List UInt8 × Int × Int × Bool × Int × Unit) ×
                  (Int ×
                    List UInt8 ×
                     Int × Int × Int × Int × List UInt8 × Int × Int × Int × List UInt8 × List UInt8 × List UInt8 × List UInt8 × Unit) ×
                   (Int ×
                     Int ×
                      List UInt8 ×
                       Int ×
                        Int ×
                         Int ×
                          Int ×
                           List UInt8 ×
                            Int ×
                             Int ×
                              Int ×
                               List UInt8 ×
                                List UInt8 ×
                                 List UInt8 ×
                                  List UInt8 ×
                                   Int ×
                                    List UInt8 ×
                                     Int ×
                                      Int ×
                                       Int × List UInt8 × List UInt8 × Int × Int × Int × List UInt8 × Int × Int × Unit) ×
                    (Int × Int × List UInt8 × Int × List UInt8 × Int × Int × Int × List UInt8 × List UInt8 × Unit) ×
                     (Int ×
                       List UInt8 ×
                        Int ×
                         Int × Int × Int × List UInt8 × Int × Int × Int × List UInt8 × List UInt8 × List UInt8 × List UInt8 × Unit) ×
                      Unit) =>
         (M_job_answer F (v8.2.2.2.2.2.2.1, v8.2.2.2.2.2.2.2.2.2.1.2.1, v8.2.2.2.2.2.2.2.2.2.1.2.2.1)).bind
          fun (v9 : Int × Int × Int × List UInt8 × Int × Int × Unit) =>
          (M_job_put F
             (v8.2.2.2.2.2.2.1, 4, v8.2.2.2.2.2.2.2.2.2.2.1, v8.2.2.2.2.1, v9.1, v9.2.1, v9.2.2.1, v9.2.2.2.1, v9.2.2.2.2.1,
              v8.2.2.2.2.2.2.2.1.2.2.2.1, ())).bind
           fun
            (v10 :
             Int ×
              Int ×
               List UInt8 ×
                Int ×
                 Int ×
                  Int ×
                   Int ×
                    List UInt8 ×
                     Int ×
                      Int ×
                       Int ×
                        List UInt8 ×
                         List UInt8 ×
                          List UInt8 ×
                           List UInt8 ×
                            Int ×
                             List UInt8 ×
                              Int × Int × Int × List UInt8 × List UInt8 × Int × Int × Int × List UInt8 × Int × Int × Unit) =>
           some v10
theorem t_job_Step (x : ((Int) × (Int) × (Int) × (List UInt8) × (Int) × (Int) × (Bool) × (Int) × Unit) × ((Int) × (List UInt8) × (Int) × (Int) × (Int) × (Int) × (List UInt8) × (Int) × (Int) × (Int) × (List UInt8) × (List UInt8) × (List UInt8) × (List UInt8) × Unit) × (List (El .ph)) × (Int) × ((Int) × (Int) × (Int) × (Int) × (Int) × (Int) × Unit)) (F : Nat) : fnRun TT Tryz.prog (e_job_Step F) s_job_Step (bodyOf 42) F x = M_job_Step F x := by kernel_rfl
theorem c_job_Step (F : Nat) : Ctr TT Tryz.prog 42 (conOf TT s_job_Step (M_job_Step F)) :=
 ctr_of (code := bodyOf 42) Tryz.func42 (by kernel_rfl) (by kernel_rfl) (by kernel_rfl) (by kernel_rfl) (envS_ok (envS_ok (envS_ok (envS_ok (envS_ok (envS_ok (envS_ok envN_ok (c_job_Owns F)) (c_job_later F)) (c_prog_Next F)) (c_lease_Pass F)) (c_job_put F)) (c_lease_Finish F)) (c_job_answer F)) hm (by kernel_rfl) (fun x r h => ⟨F, (t_job_Step x F).trans h⟩)
noncomputable def s_job_Hear : Spec Kd := { params := [(.agg [(.int .i64), (.int .i64), (.int .i64), .str, (.int .i64), (.int .i64), .bool, (.int .i64)]), (.agg [(.int .i64), .str, (.int .i64), (.int .i64), (.int .i64), (.int .i64), .str, (.int .i64), (.int .i64), (.int .i64), .str, .str, .str, .str]), (.a (.slc .ph)), (.agg [(.int .i64), .str, (.int .i64), (.int .i64), (.int .i64), (.int .i64)]), (.a (.int .i64)), (.agg [(.int .i64), (.int .i64), (.int .i64), (.int .i64), (.int .i64), (.int .i64)])], ret := (.one (.agg [(.int .i64), (.int .i64), .str, (.int .i64), (.int .i64), (.int .i64), (.int .i64), .str, (.int .i64), (.int .i64), (.int .i64), .str, .str, .str, .str, (.int .i64), .str, (.int .i64), (.int .i64), (.int .i64), .str, .str, (.int .i64), (.int .i64), (.int .i64), .str, (.int .i64), (.int .i64)])), pins := [], pl := { nt := 98, cuts := [(11, [(11, ⟨[.tmp 6 (.a (.ptr 384 0)), .tmp 12 (.a (.ptr 768 0)), .tmp 17 (.a (.ptr 1088 0)), .tmp 18 (.a (.int .i64)), .box 384 (.cells 68 [(.int .i64), (.int .i64), (.int .i64), .str, (.int .i64), (.int .i64), .bool, (.int .i64)]), .box 768 (.cells 82 [(.int .i64), (.int .i64), .str, (.int .i64), (.int .i64), (.int .i64), (.int .i64), .str, (.int .i64), (.int .i64), (.int .i64), .str, .str, .str, .str, (.int .i64), .str, (.int .i64), (.int .i64), (.int .i64), .str, .str, (.int .i64), (.int .i64), (.int .i64), .str, (.int .i64), (.int .i64)]), .box 1088 (.cells 35 [(.int .i64), .str, (.int .i64), (.int .i64), (.int .i64), (.int .i64), .str, (.int .i64), (.int .i64), (.int .i64), .str, .str, .str, .str])], [], []⟩)]), (6, [(12, ⟨[.tmp 6 (.a (.ptr 384 0)), .tmp 12 (.a (.ptr 768 0)), .tmp 13 (.a (.ptr 832 0)), .tmp 14 (.a (.int .i64)), .box 384 (.cells 68 [(.int .i64), (.int .i64), (.int .i64), .str, (.int .i64), (.int .i64), .bool, (.int .i64)]), .box 768 (.cells 82 [(.int .i64), (.int .i64), .str, (.int .i64), (.int .i64), (.int .i64), (.int .i64), .str, (.int .i64), (.int .i64), (.int .i64), .str, .str, .str, .str, (.int .i64), .str, (.int .i64), (.int .i64), (.int .i64), .str, .str, (.int .i64), (.int .i64), (.int .i64), .str, (.int .i64), (.int .i64)]), .box 832 (.cells 35 [(.int .i64), .str, (.int .i64), (.int .i64), (.int .i64), (.int .i64), .str, (.int .i64), (.int .i64), (.int .i64), .str, .str, .str, .str])], [], []⟩)]), (9, [(10, ⟨[.tmp 6 (.a (.ptr 384 0)), .tmp 12 (.a (.ptr 768 0)), .tmp 15 (.a (.ptr 960 0)), .tmp 16 (.a (.int .i64)), .box 384 (.cells 68 [(.int .i64), (.int .i64), (.int .i64), .str, (.int .i64), (.int .i64), .bool, (.int .i64)]), .box 768 (.cells 82 [(.int .i64), (.int .i64), .str, (.int .i64), (.int .i64), (.int .i64), (.int .i64), .str, (.int .i64), (.int .i64), (.int .i64), .str, .str, .str, .str, (.int .i64), .str, (.int .i64), (.int .i64), (.int .i64), .str, .str, (.int .i64), (.int .i64), (.int .i64), .str, (.int .i64), (.int .i64)]), .box 960 (.cells 35 [(.int .i64), .str, (.int .i64), (.int .i64), (.int .i64), (.int .i64), .str, (.int .i64), (.int .i64), (.int .i64), .str, .str, .str, .str])], [], []⟩)]), (8, [(10, ⟨[.tmp 4 (.a (.int .i64)), .tmp 6 (.a (.ptr 384 0)), .tmp 7 (.a (.ptr 448 0)), .tmp 12 (.a (.ptr 768 0)), .tmp 70 (.a .bool), .box 384 (.cells 68 [(.int .i64), (.int .i64), (.int .i64), .str, (.int .i64), (.int .i64), .bool, (.int .i64)]), .box 448 (.cells 35 [(.int .i64), .str, (.int .i64), (.int .i64), (.int .i64), (.int .i64), .str, (.int .i64), (.int .i64), (.int .i64), .str, .str, .str, .str]), .box 768 (.cells 82 [(.int .i64), (.int .i64), .str, (.int .i64), (.int .i64), (.int .i64), (.int .i64), .str, (.int .i64), (.int .i64), (.int .i64), .str, .str, .str, .str, (.int .i64), .str, (.int .i64), (.int .i64), (.int .i64), .str, .str, (.int .i64), (.int .i64), (.int .i64), .str, (.int .i64), (.int .i64)])], [], []⟩)]), (1, [(9, ⟨[.tmp 2 (.a (.slc .ph)), .tmp 4 (.a (.int .i64)), .tmp 6 (.a (.ptr 384 0)), .tmp 7 (.a (.ptr 448 0)), .tmp 9 (.a (.ptr 576 0)), .tmp 11 (.a (.ptr 704 0)), .tmp 12 (.a (.ptr 768 0)), .tmp 27 (.a .bool), .box 384 (.cells 68 [(.int .i64), (.int .i64), (.int .i64), .str, (.int .i64), (.int .i64), .bool, (.int .i64)]), .box 448 (.cells 35 [(.int .i64), .str, (.int .i64), (.int .i64), (.int .i64), (.int .i64), .str, (.int .i64), (.int .i64), (.int .i64), .str, .str, .str, .str]), .box 576 (.cells 73 [(.int .i64), .str, (.int .i64), (.int .i64), (.int .i64), (.int .i64)]), .box 704 (.cells 75 [(.int .i64), (.int .i64), (.int .i64), (.int .i64), (.int .i64), (.int .i64)]), .box 768 (.cells 82 [(.int .i64), (.int .i64), .str, (.int .i64), (.int .i64), (.int .i64), (.int .i64), .str, (.int .i64), (.int .i64), (.int .i64), .str, .str, .str, .str, (.int .i64), .str, (.int .i64), (.int .i64), (.int .i64), .str, .str, (.int .i64), (.int .i64), (.int .i64), .str, (.int .i64), (.int .i64)])], [], []⟩), (5, ⟨[.tmp 2 (.a (.slc .ph)), .tmp 4 (.a (.int .i64)), .tmp 6 (.a (.ptr 384 0)), .tmp 7 (.a (.ptr 448 0)), .tmp 9 (.a (.ptr 576 0)), .tmp 11 (.a (.ptr 704 0)), .tmp 12 (.a (.ptr 768 0)), .tmp 32 (.a .bool), .box 384 (.cells 68 [(.int .i64), (.int .i64), (.int .i64), .str, (.int .i64), (.int .i64), .bool, (.int .i64)]), .box 448 (.cells 35 [(.int .i64), .str, (.int .i64), (.int .i64), (.int .i64), (.int .i64), .str, (.int .i64), (.int .i64), (.int .i64), .str, .str, .str, .str]), .box 576 (.cells 73 [(.int .i64), .str, (.int .i64), (.int .i64), (.int .i64), (.int .i64)]), .box 704 (.cells 75 [(.int .i64), (.int .i64), (.int .i64), (.int .i64), (.int .i64), (.int .i64)]), .box 768 (.cells 82 [(.int .i64), (.int .i64), .str, (.int .i64), (.int .i64), (.int .i64), (.int .i64), .str, (.int .i64), (.int .i64), (.int .i64), .str, .str, .str, .str, (.int .i64), .str, (.int .i64), (.int .i64), (.int .i64), .str, .str, (.int .i64), (.int .i64), (.int .i64), .str, (.int .i64), (.int .i64)])], [], []⟩)])] }, rfrz := [], ts := [98], rc := [(12, some 82)] }
noncomputable def e_job_Hear (F : Nat) : Env El := (envS 89 (conOf TT s_lease_Release (M_lease_Release F)) (envS 88 (conOf TT s_lease_Fail (M_lease_Fail F)) (envS 32 (conOf TT s_prog_Calls (M_prog_Calls F)) (envS 82 (conOf TT s_job_put (M_job_put F)) (envS 81 (conOf TT s_lease_Pass (M_lease_Pass F)) (envS 80 (conOf TT s_job_later (M_job_later F)) (envS 40 (conOf TT s_job_Owns (M_job_Owns F)) (envS 47 (conOf TT s_job_Mine (M_job_Mine F)) envN))))))))
noncomputable def M_job_Hear (F : Nat) (x : ((Int) × (Int) × (Int) × (List UInt8) × (Int) × (Int) × (Bool) × (Int) × Unit) × ((Int) × (List UInt8) × (Int) × (Int) × (Int) × (Int) × (List UInt8) × (Int) × (Int) × (Int) × (List UInt8) × (List UInt8) × (List UInt8) × (List UInt8) × Unit) × (List (El .ph)) × ((Int) × (List UInt8) × (Int) × (Int) × (Int) × (Int) × Unit) × (Int) × ((Int) × (Int) × (Int) × (Int) × (Int) × (Int) × Unit)) : Option ((Int) × (Int) × (List UInt8) × (Int) × (Int) × (Int) × (Int) × (List UInt8) × (Int) × (Int) × (Int) × (List UInt8) × (List UInt8) × (List UInt8) × (List UInt8) × (Int) × (List UInt8) × (Int) × (Int) × (Int) × (List UInt8) × (List UInt8) × (Int) × (Int) × (Int) × (List UInt8) × (Int) × (Int) × Unit) :=
 ((M_job_Mine F (x.1, x.2.2.2.1)).bind fun (v0 : Bool) =>
    if (!v0) = false then
     some
      (x.2.2.1, x.2.2.2.2.1, (), (), (), (), (), decide (x.2.2.2.1.2.2.2.2.2.1 < 1), x.1, x.2.1, x.2.2.2.1, x.2.2.2.2.2,
       (0, 0, [], 0, 0, 0, 0, [], 0, 0, 0, [], [], [], [], 0, [], 0, 0, 0, [], [], 0, 0, 0, [], 0, 0, ()), ())
    else
     some
      (x.2.2.1, x.2.2.2.2.1, (), (), (), (), (), true, x.1, x.2.1, x.2.2.2.1, x.2.2.2.2.2,
       (0, 0, [], 0, 0, 0, 0, [], 0, 0, 0, [], [], [], [], 0, [], 0, 0, 0, [], [], 0, 0, 0, [], 0, 0, ()), ())).bind
  fun
   (v1 :
    List (Int × List UInt8 × Int × List UInt8 × Unit) ×
     Int ×
      Unit ×
       Unit ×
        Unit ×
         Unit ×
          Unit ×
           Bool ×
            (Int × Int × Int × List UInt8 × Int × Int × Bool × Int × Unit) ×
             (Int × List UInt8 × Int × Int × Int × Int × List UInt8 × Int × Int × Int × List UInt8 × List UInt8 × List UInt8 × List UInt8 × Unit) ×
              (Int × List UInt8 × Int × Int × Int × Int × Unit) ×
               (Int × Int × Int × Int × Int × Int × Unit) ×
                (Int ×
                  Int ×
                   List UInt8 ×
                    Int ×
                     Int ×
                      Int ×
                       Int ×
                        List UInt8 ×
                         Int ×
                          Int ×
                           Int ×
                            List UInt8 ×
                             List UInt8 ×
                              List UInt8 ×
                               List UInt8 ×
                                Int ×
                                 List UInt8 ×
                                  Int ×
                                   Int × Int × List UInt8 × List UInt8 × Int × Int × Int × List UInt8 × Int × Int × Unit) ×
                 Unit) =>
  (if v1.2.2.2.2.2.2.2.1 = false then some (v1.1, v1.2.1, (), (), (), (), (), decide (3 < v1.2.2.2.2.2.2.2.2.2.2.1.2.2.2.2.2.1), v1.2.2.2.2.2.2.2.2)
    else some (v1.1, v1.2.1, (), (), (), (), (), true, v1.2.2.2.2.2.2.2.2)).bind
   fun
    (v2 :
     List (Int × List UInt8 × Int × List UInt8 × Unit) ×
      Int ×
       Unit ×
        Unit ×
         Unit ×
          Unit ×
           Unit ×
            Bool ×
             (Int × Int × Int × List UInt8 × Int × Int × Bool × Int × Unit) ×
              (Int ×
                List UInt8 × Int × Int × Int × Int × List UInt8 × Int × Int × Int × List UInt8 × List UInt8 × List UInt8 × List UInt8 × Unit) ×
               (Int × List UInt8 × Int × Int × Int × Int × Unit) ×
                (Int × Int × Int × Int × Int × Int × Unit) ×
                 (Int ×
                   Int ×
                    List UInt8 ×
                     Int ×
                      Int ×
                       Int ×
                        Int ×
                         List UInt8 ×
                          Int ×
                           Int ×
                            Int ×
                             List UInt8 ×
                              List UInt8 ×
                               List UInt8 ×
                                List UInt8 ×
                                 Int ×
                                  List UInt8 ×
                                   Int ×
                                    Int × Int × List UInt8 × List UInt8 × Int × Int × Int × List UInt8 × Int × Int × Unit) ×
                  Unit) =>
   if v2.2.2.2.2.2.2.2.1 = true then some (0, 0, [], 0, 0, 0, 0, [], 0, 0, 0, [], [], [], [], 0, [], 0, 0, 0, [], [], 0, 0, 0, [], 0, 0, ())
   else
    (M_job_Owns F (v2.2.2.2.2.2.2.2.2.1, v2.2.2.2.2.2.2.2.2.2.1, v2.2.1)).bind fun (v3 : Bool) =>
     if (!v3) = true then
      (M_job_later F v2.2.2.2.2.2.2.2.2.1).bind fun (v4 : Int × Int × Int × List UInt8 × Int × Int × Unit) =>
       some (1, 0, [], 0, 0, 0, 0, [], 0, 0, 0, [], [], [], [], 0, [], 0, 0, 0, [], [], v4)
     else
      if decide (v2.2.2.2.2.2.2.2.2.2.2.1.2.2.2.2.2.1 = 1) = true then
       ((M_lease_Pass F (v2.2.2.2.2.2.2.2.2.2.1, v2.2.2.2.2.2.2.2.2.1.2.2.2.2.2.1, v2.2.1, v2.2.2.2.2.2.2.2.2.2.2.2.1)).bind
          fun
           (v5 :
            (Int × List UInt8 × Int × Int × Int × Int × List UInt8 × Int × Int × Int × List UInt8 × List UInt8 × List UInt8 × List UInt8 × Unit) ×
             Int) =>
          some ((), (), (), v5.2, v2.2.2.2.2.2.2.2.2.1, v2.2.2.2.2.2.2.2.2.2.2.2.2.1, v5.1, ())).bind
        fun
         (v6 :
          Unit ×
           Unit ×
            Unit ×
             Int ×
              (Int × Int × Int × List UInt8 × Int × Int × Bool × Int × Unit) ×
               (Int ×
                 Int ×
                  List UInt8 ×
                   Int ×
                    Int ×
                     Int ×
                      Int ×
                       List UInt8 ×
                        Int ×
                         Int ×
                          Int ×
                           List UInt8 ×
                            List UInt8 ×
                             List UInt8 ×
                              List UInt8 ×
                               Int ×
                                List UInt8 ×
                                 Int × Int × Int × List UInt8 × List UInt8 × Int × Int × Int × List UInt8 × Int × Int × Unit) ×
                (Int ×
                  List UInt8 ×
                   Int × Int × Int × Int × List UInt8 × Int × Int × Int × List UInt8 × List UInt8 × List UInt8 × List UInt8 × Unit) ×
                 Unit) =>
        (M_job_put F (v6.2.2.2.2.1, 3, v6.2.2.2.2.2.2.1, v6.2.2.2.1, 0, 0, 0, [], 0, 0, ())).bind
         fun
          (v7 :
           Int ×
            Int ×
             List UInt8 ×
              Int ×
               Int ×
                Int ×
                 Int ×
                  List UInt8 ×
                   Int ×
                    Int ×
                     Int ×
                      List UInt8 ×
                       List UInt8 ×
                        List UInt8 ×
                         List UInt8 ×
                          Int ×
                           List UInt8 ×
                            Int × Int × Int × List UInt8 × List UInt8 × Int × Int × Int × List UInt8 × Int × Int × Unit) =>
         some v7
      else
       (if decide (v2.2.2.2.2.2.2.2.2.2.2.1.2.2.2.2.2.1 = 2) = true then
          (M_prog_Calls F (v2.1, v2.2.2.2.2.2.2.2.2.2.1.2.2.2.2.2.1)).bind fun (v8 : Int) =>
           some (v2.2.1, (), (), (), decide (v8 = 0), v2.2.2.2.2.2.2.2.2.1, v2.2.2.2.2.2.2.2.2.2.1, v2.2.2.2.2.2.2.2.2.2.2.2.2.1, ())
         else some (v2.2.1, (), (), (), false, v2.2.2.2.2.2.2.2.2.1, v2.2.2.2.2.2.2.2.2.2.1, v2.2.2.2.2.2.2.2.2.2.2.2.2.1, ())).bind
        fun
         (v9 :
          Int ×
           Unit ×
            Unit ×
             Unit ×
              Bool ×
               (Int × Int × Int × List UInt8 × Int × Int × Bool × Int × Unit) ×
                (Int ×
                  List UInt8 ×
                   Int × Int × Int × Int × List UInt8 × Int × Int × Int × List UInt8 × List UInt8 × List UInt8 × List UInt8 × Unit) ×
                 (Int ×
                   Int ×
                    List UInt8 ×
                     Int ×
                      Int ×
                       Int ×
                        Int ×
                         List UInt8 ×
                          Int ×
                           Int ×
                            Int ×
                             List UInt8 ×
                              List UInt8 ×
                               List UInt8 ×
                                List UInt8 ×
                                 Int ×
                                  List UInt8 ×
                                   Int ×
                                    Int × Int × List UInt8 × List UInt8 × Int × Int × Int × List UInt8 × Int × Int × Unit) ×
                  Unit) =>
        if v9.2.2.2.2.1 = true then
         ((M_lease_Fail F (v9.2.2.2.2.2.2.1, v9.2.2.2.2.2.1.2.2.2.2.2.1)).bind
            fun
             (v10 :
              (Int ×
                List UInt8 × Int × Int × Int × Int × List UInt8 × Int × Int × Int × List UInt8 × List UInt8 × List UInt8 × List UInt8 × Unit) ×
               Int) =>
            some ((), (), (), v10.2, v9.2.2.2.2.2.1, v9.2.2.2.2.2.2.2.1, v10.1, ())).bind
          fun
           (v11 :
            Unit ×
             Unit ×
              Unit ×
               Int ×
                (Int × Int × Int × List UInt8 × Int × Int × Bool × Int × Unit) ×
                 (Int ×
                   Int ×
                    List UInt8 ×
                     Int ×
                      Int ×
                       Int ×
                        Int ×
                         List UInt8 ×
                          Int ×
                           Int ×
                            Int ×
                             List UInt8 ×
                              List UInt8 ×
                               List UInt8 ×
                                List UInt8 ×
                                 Int ×
                                  List UInt8 ×
                                   Int ×
                                    Int × Int × List UInt8 × List UInt8 × Int × Int × Int × List UInt8 × Int × Int × Unit) ×
                  (Int ×
                    List UInt8 ×
                     Int × Int × Int × Int × List UInt8 × Int × Int × Int × List UInt8 × List UInt8 × List UInt8 × List UInt8 × Unit) ×
                   Unit) =>
          (M_job_later F v11.2.2.2.2.1).bind fun (v12 : Int × Int × Int × List UInt8 × Int × Int × Unit) =>
           (M_job_put F (v11.2.2.2.2.1, 4, v11.2.2.2.2.2.2.1, v11.2.2.2.1, v12)).bind
            fun
             (v13 :
              Int ×
               Int ×
                List UInt8 ×
                 Int ×
                  Int ×
                   Int ×
                    Int ×
                     List UInt8 ×
                      Int ×
                       Int ×
                        Int ×
                         List UInt8 ×
                          List UInt8 ×
                           List UInt8 ×
                            List UInt8 ×
                             Int ×
                              List UInt8 ×
                               Int × Int × Int × List UInt8 × List UInt8 × Int × Int × Int × List UInt8 × Int × Int × Unit) =>
            some v13
        else
         ((M_lease_Release F (v9.2.2.2.2.2.2.1, v9.2.2.2.2.2.1.2.2.2.2.2.1, v9.1)).bind
            fun
             (v14 :
              (Int ×
                List UInt8 × Int × Int × Int × Int × List UInt8 × Int × Int × Int × List UInt8 × List UInt8 × List UInt8 × List UInt8 × Unit) ×
               Int) =>
            some ((), (), (), v14.2, v9.2.2.2.2.2.1, v9.2.2.2.2.2.2.2.1, v14.1, ())).bind
          fun
           (v15 :
            Unit ×
             Unit ×
              Unit ×
               Int ×
                (Int × Int × Int × List UInt8 × Int × Int × Bool × Int × Unit) ×
                 (Int ×
                   Int ×
                    List UInt8 ×
                     Int ×
                      Int ×
                       Int ×
                        Int ×
                         List UInt8 ×
                          Int ×
                           Int ×
                            Int ×
                             List UInt8 ×
                              List UInt8 ×
                               List UInt8 ×
                                List UInt8 ×
                                 Int ×
                                  List UInt8 ×
                                   Int ×
                                    Int × Int × List UInt8 × List UInt8 × Int × Int × Int × List UInt8 × Int × Int × Unit) ×
                  (Int ×
                    List UInt8 ×
                     Int × Int × Int × Int × List UInt8 × Int × Int × Int × List UInt8 × List UInt8 × List UInt8 × List UInt8 × Unit) ×
                   Unit) =>
          (M_job_later F v15.2.2.2.2.1).bind fun (v16 : Int × Int × Int × List UInt8 × Int × Int × Unit) =>
           (M_job_put F (v15.2.2.2.2.1, 4, v15.2.2.2.2.2.2.1, v15.2.2.2.1, v16)).bind
            fun
             (v17 :
              Int ×
               Int ×
                List UInt8 ×
                 Int ×
                  Int ×
                   Int ×
                    Int ×
                     List UInt8 ×
                      Int ×
                       Int ×
                        Int ×
                         List UInt8 ×
                          List UInt8 ×
                           List UInt8 ×
                            List UInt8 ×
                             Int ×
                              List UInt8 ×
                               Int × Int × Int × List UInt8 × List UInt8 × Int × Int × Int × List UInt8 × Int × Int × Unit) =>
            some v17
theorem t_job_Hear (x : ((Int) × (Int) × (Int) × (List UInt8) × (Int) × (Int) × (Bool) × (Int) × Unit) × ((Int) × (List UInt8) × (Int) × (Int) × (Int) × (Int) × (List UInt8) × (Int) × (Int) × (Int) × (List UInt8) × (List UInt8) × (List UInt8) × (List UInt8) × Unit) × (List (El .ph)) × ((Int) × (List UInt8) × (Int) × (Int) × (Int) × (Int) × Unit) × (Int) × ((Int) × (Int) × (Int) × (Int) × (Int) × (Int) × Unit)) (F : Nat) : fnRun TT Tryz.prog (e_job_Hear F) s_job_Hear (bodyOf 44) F x = M_job_Hear F x := by kernel_rfl
theorem c_job_Hear (F : Nat) : Ctr TT Tryz.prog 44 (conOf TT s_job_Hear (M_job_Hear F)) :=
 ctr_of (code := bodyOf 44) Tryz.func44 (by kernel_rfl) (by kernel_rfl) (by kernel_rfl) (by kernel_rfl) (envS_ok (envS_ok (envS_ok (envS_ok (envS_ok (envS_ok (envS_ok (envS_ok envN_ok (c_job_Mine F)) (c_job_Owns F)) (c_job_later F)) (c_lease_Pass F)) (c_job_put F)) (c_prog_Calls F)) (c_lease_Fail F)) (c_lease_Release F)) hm (by kernel_rfl) (fun x r h => ⟨F, (t_job_Hear x F).trans h⟩)
end Go.Vm
