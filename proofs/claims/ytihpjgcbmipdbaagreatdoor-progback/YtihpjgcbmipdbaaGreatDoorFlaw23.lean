/- Models of functions of the program, and that each keeps its contract: for all arguments of its shape. No condition. -/
import Derived.Test.YtihpjgcbmipdbaaGreatDoorKt
import Derived.Test.YtihpjgcbmipdbaaGreatDoorFprog2
import Derived.Test.YtihpjgcbmipdbaaGreatDoorFref23b
import Derived.Test.YtihpjgcbmipdbaaGreatDoorFlaw23s
import Derived.Test.YtihpjgcbmipdbaaGreatDoorFlaw22
namespace Go.Vm
open Go.Proofs
set_option linter.unusedVariables false
noncomputable def s_conciergelaw23_Same : Spec Kd := { params := [(.a (.slc .ph)), (.a (.slc .ph))], ret := (.one (.a .bool)), pins := [], pl := { nt := 26, loops := [(0, ⟨[.tmp 0 (.a (.slc .ph)), .tmp 1 (.a (.slc .ph)), .tmp 12 (.a (.int .i64)), .tmp 13 (.a (.int .i64))], [], []⟩, (.exit 0, ⟨[], [], []⟩), [(.ret, ⟨[.tmp 4 (.a .bool)], [], []⟩)])], ends := [(6, ⟨[.tmp 0 (.a (.slc .ph)), .tmp 1 (.a (.slc .ph)), .tmp 12 (.a (.int .i64)), .tmp 13 (.a (.int .i64)), .tmp 24 (.a .bool)], [], []⟩)] }, rfrz := [], ts := [4] }
noncomputable def e_conciergelaw23_Same (F : Nat) : Env El := envN
noncomputable def M_conciergelaw23_Same_l0 (F : Nat) (v0 : (List (Int × List UInt8 × Int × List UInt8 × Unit) × List (Int × List UInt8 × Int × List UInt8 × Unit) × Int × Int × Unit)) : Option ((List (Int × List UInt8 × Int × List UInt8 × Unit) × List (Int × List UInt8 × Int × List UInt8 × Unit) × Int × Int × Unit) ⊕ (Unit ⊕ Bool × Unit)) :=
 if decide (v0.2.2.2.1 < v0.2.2.1) = true then
      ((idx v0.1 v0.2.2.2.1).bind fun (v1 : Int × List UInt8 × Int × List UInt8 × Unit) =>
         (idx v0.2.1 v0.2.2.2.1).bind fun (v2 : Int × List UInt8 × Int × List UInt8 × Unit) =>
          some
           (v0.1, v0.2.1, v0.2.2.1, v0.2.2.2.1,
            !(decide (v1.1 = v2.1) && (decide (v1.2.1 = v2.2.1) && (decide (v1.2.2.1 = v2.2.2.1) && (decide (v1.2.2.2.1 = v2.2.2.2.1) && true)))),
            ())).bind
       fun (v3 : List (Int × List UInt8 × Int × List UInt8 × Unit) × List (Int × List UInt8 × Int × List UInt8 × Unit) × Int × Int × Bool × Unit) =>
       if v3.2.2.2.2.1 = true then some (Sum.inr (Sum.inr (false, ())))
       else some (Sum.inl (v3.1, v3.2.1, v3.2.2.1, IntKind.i64.wrap (v3.2.2.2.1 + 1), ()))
     else some (Sum.inr (Sum.inl ()))
noncomputable def M_conciergelaw23_Same (F : Nat) (x : (List (El .ph)) × (List (El .ph))) : Option (Bool) :=
 if (!decide ((↑x.1.length : Int) = (↑x.2.length : Int))) = true then some false
 else
  (loopM (M_conciergelaw23_Same_l0 F)
     F (x.1, x.2, (↑x.1.length : Int), 0, ())).bind
   fun (v4 : Unit ⊕ Bool × Unit) => sumC v4 (fun (v5 : Unit) => some true) fun (v6 : Bool × Unit) => some v6.1
theorem t_conciergelaw23_Same (x : (List (El .ph)) × (List (El .ph))) (F : Nat) : fnRun TT Tryz.prog (e_conciergelaw23_Same F) s_conciergelaw23_Same (bodyOf 18) F x = M_conciergelaw23_Same F x := by kernel_rfl
theorem c_conciergelaw23_Same (F : Nat) : Ctr TT Tryz.prog 18 (conOf TT s_conciergelaw23_Same (M_conciergelaw23_Same F)) :=
 ctr_of (code := bodyOf 18) Tryz.func18 (by kernel_rfl) (by kernel_rfl) (by kernel_rfl) (by kernel_rfl) envN_ok hm (by kernel_rfl) (fun x r h => ⟨F, (t_conciergelaw23_Same x F).trans h⟩)
noncomputable def s_conciergelaw23_awake : Spec Kd := { params := [], ret := (.one (.a .bool)), pins := [], pl := { nt := 37, cuts := [(3, [(6, ⟨[.tmp 1 (.a (.slc .ph)), .tmp 3 (.a (.ptr 192 0)), .tmp 20 (.a .bool), .box 192 (.cells 54 [(.int .i64), (.int .i64), .str, (.int .i64), .str, (.int .i64), (.int .i64), (.int .i64), .str, .str])], [385], []⟩), (5, ⟨[.tmp 3 (.a (.ptr 192 0)), .tmp 25 (.a .bool), .box 192 (.cells 54 [(.int .i64), (.int .i64), .str, (.int .i64), .str, (.int .i64), (.int .i64), (.int .i64), .str, .str])], [385], []⟩), (5, ⟨[.tmp 3 (.a (.ptr 192 0)), .tmp 30 (.a .bool), .box 192 (.cells 54 [(.int .i64), (.int .i64), .str, (.int .i64), .str, (.int .i64), (.int .i64), (.int .i64), .str, .str])], [385], []⟩), (6, ⟨[.tmp 36 (.a .bool)], [385], []⟩)])], frz := [(2, [385])] }, rfrz := [], ts := [0] }
noncomputable def e_conciergelaw23_awake (F : Nat) : Env El := (envS 30 (conOf TT s_prog_Next (M_prog_Next F)) (envS 27 (conOf TT s_prog_Parse (M_prog_Parse F)) envN))
noncomputable def M_conciergelaw23_awake (F : Nat) (x : Unit) : Option (Bool) :=
 (M_prog_Parse F
    [110, 101, 101, 100, 32, 115, 117, 109, 32, 49, 48, 48, 59, 32, 99, 97, 108, 108, 32, 100, 101, 98, 105, 116, 32, 37, 123, 115, 117, 109, 125, 59, 32,
     101, 110, 100, 32, 50, 48, 49, 32, 112, 97, 105, 100]).bind
  fun (v0 : List (Int × List UInt8 × Int × List UInt8 × Unit) × Int) =>
  (M_prog_Next F (v0.1, 0, [107], 0, 3, 2, 1, [], 0, 0, 0, [], [], [], [123, 34, 115, 117, 109, 34, 58, 53, 125], ())).bind
   fun (v1 : (Int × Int × List UInt8 × Int × List UInt8 × Int × Int × Int × List UInt8 × List UInt8 × Unit) × Int) =>
   (if decide (v0.2 = 0) = true then some (v0.1, (), decide (v1.2 = 0), v1.1, ()) else some (v0.1, (), false, v1.1, ())).bind
    fun
     (v2 :
      List (Int × List UInt8 × Int × List UInt8 × Unit) ×
       Unit × Bool × (Int × Int × List UInt8 × Int × List UInt8 × Int × Int × Int × List UInt8 × List UInt8 × Unit) × Unit) =>
    (if v2.2.2.1 = true then some ((), decide ((↑v2.1.length : Int) = 3), v2.2.2.2.1, ()) else some ((), false, v2.2.2.2.1, ())).bind
     fun (v3 : Unit × Bool × (Int × Int × List UInt8 × Int × List UInt8 × Int × Int × Int × List UInt8 × List UInt8 × Unit) × Unit) =>
     (if v3.2.1 = true then some ((), decide (v3.2.2.1.1 = 3), v3.2.2.1, ()) else some ((), false, v3.2.2.1, ())).bind
      fun (v4 : Unit × Bool × (Int × Int × List UInt8 × Int × List UInt8 × Int × Int × Int × List UInt8 × List UInt8 × Unit) × Unit) =>
      (if v4.2.1 = true then
         some
          (decide (v4.2.2.1.2.2.2.1 = 0) &&
            (decide (v4.2.2.1.2.2.2.2.1 = [107]) &&
             (decide (v4.2.2.1.2.2.2.2.2.1 = 3) &&
              (decide (v4.2.2.1.2.2.2.2.2.2.1 = 1) &&
               (decide (v4.2.2.1.2.2.2.2.2.2.2.1 = 2) &&
                (decide (v4.2.2.1.2.2.2.2.2.2.2.2.1 = [100, 101, 98, 105, 116]) && (decide (v4.2.2.1.2.2.2.2.2.2.2.2.2.1 = [53]) && true)))))),
           ())
        else some (false, ())).bind
       fun (v5 : Bool × Unit) => some v5.1
theorem t_conciergelaw23_awake (x : Unit) (F : Nat) : fnRun TT Tryz.prog (e_conciergelaw23_awake F) s_conciergelaw23_awake (bodyOf 26) F x = M_conciergelaw23_awake F x := by kernel_rfl
theorem c_conciergelaw23_awake (F : Nat) : Ctr TT Tryz.prog 26 (conOf TT s_conciergelaw23_awake (M_conciergelaw23_awake F)) :=
 ctr_of (code := bodyOf 26) Tryz.func26 (by kernel_rfl) (by kernel_rfl) (by kernel_rfl) (by kernel_rfl) (envS_ok (envS_ok envN_ok (c_prog_Parse F)) (c_prog_Next F)) hm (by kernel_rfl) (fun x r h => ⟨F, (t_conciergelaw23_awake x F).trans h⟩)
noncomputable def s_conciergelaw23_ProgBack : Spec Kd := { params := [(.a (.slc .ph))], ret := (.one (.a .bool)), pins := [], pl := { nt := 57, cuts := [(9, [(8, ⟨[.tmp 0 (.a (.slc .ph)), .tmp 5 (.a (.slc .ph)), .tmp 6 (.a (.int .i64)), .tmp 43 (.a .bool)], [2113], []⟩), (4, ⟨[.tmp 0 (.a (.slc .ph)), .tmp 5 (.a (.slc .ph)), .tmp 6 (.a (.int .i64)), .tmp 47 (.a .bool)], [2113], []⟩), (4, ⟨[.tmp 0 (.a (.slc .ph)), .tmp 5 (.a (.slc .ph)), .tmp 51 (.a .bool)], [2113], []⟩), (5, ⟨[.tmp 56 (.a .bool)], [2113], []⟩)]), (7, [(6, ⟨[.tmp 0 (.a (.slc .ph)), .tmp 25 (.a .bool)], [2113], []⟩), (5, ⟨[.tmp 30 (.a .bool)], [2113], []⟩)])] }, rfrz := [], ts := [2] }
noncomputable def e_conciergelaw23_ProgBack (F : Nat) : Env El := (envS 18 (conOf TT s_conciergelaw23_Same (M_conciergelaw23_Same F)) (envS 37 (conOf TT s_conciergeref23_Print (M_conciergeref23_Print F)) (envS 27 (conOf TT s_prog_Parse (M_prog_Parse F)) (envS 36 (conOf TT s_prog_May (M_prog_May F)) (envS 34 (conOf TT s_conciergeref23_May (M_conciergeref23_May F)) (envS 35 (conOf TT s_prog_Print (M_prog_Print F)) (envS 29 (conOf TT s_conciergelaw23_Small (M_conciergelaw23_Small F)) (envS 26 (conOf TT s_conciergelaw23_awake (M_conciergelaw23_awake F)) envN))))))))
noncomputable def M_conciergelaw23_ProgBack (F : Nat) (x : (List (El .ph))) : Option (Bool) :=
 (M_conciergelaw23_awake F ()).bind fun (v0 : Bool) =>
  if (!v0) = true then some false
  else
   (M_conciergelaw23_Small F x).bind fun (v1 : Bool) =>
    if (!v1) = true then some true
    else
     (M_prog_Print F x).bind fun (v2 : List UInt8 × Int) =>
      (M_conciergeref23_May F x).bind fun (v3 : Bool) =>
       if (!v3) = true then
        (if decide (v2.2 = 1) = true then some (x, decide (v2.1 = []), ()) else some (x, false, ())).bind
         fun (v4 : List (Int × List UInt8 × Int × List UInt8 × Unit) × Bool × Unit) =>
         (if v4.2.1 = true then (M_prog_May F v4.1).bind fun (v5 : Bool) => some (!v5, ()) else some (false, ())).bind fun (v6 : Bool × Unit) =>
          some v6.1
       else
        (M_prog_Parse F v2.1).bind fun (v7 : List (Int × List UInt8 × Int × List UInt8 × Unit) × Int) =>
         (if decide (v2.2 = 0) = true then (M_conciergeref23_Print F x).bind fun (v8 : List UInt8) => some (x, v7.1, v7.2, decide (v2.1 = v8), ())
           else some (x, v7.1, v7.2, false, ())).bind
          fun (v9 : List (Int × List UInt8 × Int × List UInt8 × Unit) × List (Int × List UInt8 × Int × List UInt8 × Unit) × Int × Bool × Unit) =>
          (if v9.2.2.2.1 = true then (M_prog_May F v9.1).bind fun (v10 : Bool) => some (v9.1, v9.2.1, v9.2.2.1, v10, ())
            else some (v9.1, v9.2.1, v9.2.2.1, false, ())).bind
           fun (v11 : List (Int × List UInt8 × Int × List UInt8 × Unit) × List (Int × List UInt8 × Int × List UInt8 × Unit) × Int × Bool × Unit) =>
           (if v11.2.2.2.1 = true then some (v11.1, v11.2.1, decide (v11.2.2.1 = 0), ()) else some (v11.1, v11.2.1, false, ())).bind
            fun (v12 : List (Int × List UInt8 × Int × List UInt8 × Unit) × List (Int × List UInt8 × Int × List UInt8 × Unit) × Bool × Unit) =>
            (if v12.2.2.1 = true then (M_conciergelaw23_Same F (v12.2.1, v12.1)).bind fun (v13 : Bool) => some (v13, ()) else some (false, ())).bind
             fun (v14 : Bool × Unit) => some v14.1
theorem t_conciergelaw23_ProgBack (x : (List (El .ph))) (F : Nat) : fnRun TT Tryz.prog (e_conciergelaw23_ProgBack F) s_conciergelaw23_ProgBack (bodyOf 9) F x = M_conciergelaw23_ProgBack F x := by kernel_rfl
theorem c_conciergelaw23_ProgBack (F : Nat) : Ctr TT Tryz.prog 9 (conOf TT s_conciergelaw23_ProgBack (M_conciergelaw23_ProgBack F)) :=
 ctr_of (code := bodyOf 9) Tryz.func9 (by kernel_rfl) (by kernel_rfl) (by kernel_rfl) (by kernel_rfl) (envS_ok (envS_ok (envS_ok (envS_ok (envS_ok (envS_ok (envS_ok (envS_ok envN_ok (c_conciergelaw23_awake F)) (c_conciergelaw23_Small F)) (c_prog_Print F)) (c_conciergeref23_May F)) (c_prog_May F)) (c_prog_Parse F)) (c_conciergeref23_Print F)) (c_conciergelaw23_Same F)) hm (by kernel_rfl) (fun x r h => ⟨F, (t_conciergelaw23_ProgBack x F).trans h⟩)
end Go.Vm
