/- Models of functions of the program, and that each keeps its contract: for all arguments of its shape. No condition. -/
import Derived.Test.YtihpjgcbmipdbaaGreatDoorKt
import Derived.Test.YtihpjgcbmipdbaaGreatDoorFtrim
import Derived.Test.YtihpjgcbmipdbaaGreatDoorFsignx
namespace Go.Vm
open Go.Proofs
set_option linter.unusedVariables false
noncomputable def s_prog_needs : Spec Kd := { params := [(.a .str), (.a .str), (.a (.int .i64))], ret := (.one (.a .bool)), pins := [], pl := { nt := 35, cuts := [(3, [(4, ⟨[.tmp 2 (.a (.int .i64)), .tmp 9 (.a (.int .i64)), .tmp 25 (.a .bool)], [], []⟩), (4, ⟨[.tmp 2 (.a (.int .i64)), .tmp 9 (.a (.int .i64)), .tmp 29 (.a .bool)], [], []⟩), (5, ⟨[.tmp 34 (.a .bool)], [], []⟩)])] }, rfrz := [], ts := [6] }
noncomputable def e_prog_needs (F : Nat) : Env El := (envS 126 (conOf TT s_json_Number (M_json_Number F)) (envS 125 (conOf TT s_json_Field (M_json_Field F)) envN))
noncomputable def M_prog_needs (F : Nat) (x : (List UInt8) × (List UInt8) × (Int)) : Option (Bool) :=
 (M_json_Field F (x.1, x.2.1)).bind fun (v0 : List UInt8 × Bool) =>
  (M_json_Number F v0.1).bind fun (v1 : Int × Bool) =>
   (if v0.2 = true then some (x.2.2, v1.1, v1.2, ()) else some (x.2.2, v1.1, false, ())).bind fun (v2 : Int × Int × Bool × Unit) =>
    (if v2.2.2.1 = true then some (v2.1, v2.2.1, decide (1 ≤ v2.2.1), ()) else some (v2.1, v2.2.1, false, ())).bind fun (v3 : Int × Int × Bool × Unit) =>
     (if v3.2.2.1 = true then some (decide (v3.2.1 ≤ v3.1), ()) else some (false, ())).bind fun (v4 : Bool × Unit) => some v4.1
theorem t_prog_needs (x : (List UInt8) × (List UInt8) × (Int)) (F : Nat) : fnRun TT Tryz.prog (e_prog_needs F) s_prog_needs (bodyOf 69) F x = M_prog_needs F x := by kernel_rfl
theorem c_prog_needs (F : Nat) : Ctr TT Tryz.prog 69 (conOf TT s_prog_needs (M_prog_needs F)) :=
 ctr_of (code := bodyOf 69) Tryz.func69 (by kernel_rfl) (by kernel_rfl) (by kernel_rfl) (by kernel_rfl) (envS_ok (envS_ok envN_ok (c_json_Field F)) (c_json_Number F)) hm (by kernel_rfl) (fun x r h => ⟨F, (t_prog_needs x F).trans h⟩)
noncomputable def s_prog_pass : Spec Kd := { params := [(.a .bool), (.a .str)], ret := (.one (.agg [(.int .i64), (.int .i64), .str, (.int .i64), .str, (.int .i64), (.int .i64), (.int .i64), .str, .str])), pins := [], pl := { nt := 10 }, rfrz := [], ts := [10], rc := [(4, some 54)] }
noncomputable def e_prog_pass (F : Nat) : Env El := envN
noncomputable def M_prog_pass (F : Nat) (x : (Bool) × (List UInt8)) : Option ((Int) × (Int) × (List UInt8) × (Int) × (List UInt8) × (Int) × (Int) × (Int) × (List UInt8) × (List UInt8) × Unit) :=
 if x.1 = true then some (1, 0, [], 0, [], 0, 0, 0, [], [], ())
 else
  if decide ([114, 101, 102, 117, 115, 101, 100, 32].length + x.2.length ≤ 9223372036854775807) = true then
   some (2, 402, [114, 101, 102, 117, 115, 101, 100, 32] ++ x.2, 0, [], 0, 0, 0, [], [], ())
  else none
theorem t_prog_pass (x : (Bool) × (List UInt8)) (F : Nat) : fnRun TT Tryz.prog (e_prog_pass F) s_prog_pass (bodyOf 66) F x = M_prog_pass F x := by kernel_rfl
theorem c_prog_pass (F : Nat) : Ctr TT Tryz.prog 66 (conOf TT s_prog_pass (M_prog_pass F)) :=
 ctr_of (code := bodyOf 66) Tryz.func66 (by kernel_rfl) (by kernel_rfl) (by kernel_rfl) (by kernel_rfl) envN_ok hm (by kernel_rfl) (fun x r h => ⟨F, (t_prog_pass x F).trans h⟩)
noncomputable def s_prog_Next : Spec Kd := { params := [(.a (.slc .ph)), (.agg [(.int .i64), .str, (.int .i64), (.int .i64), (.int .i64), (.int .i64), .str, (.int .i64), (.int .i64), (.int .i64), .str, .str, .str, .str])], ret := (.tup [(.agg [(.int .i64), (.int .i64), .str, (.int .i64), .str, (.int .i64), (.int .i64), (.int .i64), .str, .str]), (.a (.int .i64))]), pins := [], pl := { nt := 86, orc := { pr := [82] }, cuts := [(3, [(10, ⟨[.tmp 0 (.a (.slc .ph)), .tmp 3 (.a (.ptr 192 0)), .tmp 4 (.a (.ptr 256 0)), .tmp 21 (.a .bool), .box 192 (.cells 35 [(.int .i64), .str, (.int .i64), (.int .i64), (.int .i64), (.int .i64), .str, (.int .i64), (.int .i64), (.int .i64), .str, .str, .str, .str]), .box 256 (.cells 54 [(.int .i64), (.int .i64), .str, (.int .i64), .str, (.int .i64), (.int .i64), (.int .i64), .str, .str])], [], []⟩)])], ends := [(9, ⟨[.tmp 4 (.a (.ptr 256 0)), .tmp 5 (.a (.int .i64)), .box 256 (.cells 54 [(.int .i64), (.int .i64), .str, (.int .i64), .str, (.int .i64), (.int .i64), (.int .i64), .str, .str])], [], []⟩), (11, ⟨[.tmp 4 (.a (.ptr 256 0)), .tmp 5 (.a (.int .i64)), .box 256 (.cells 54 [(.int .i64), (.int .i64), .str, (.int .i64), .str, (.int .i64), (.int .i64), (.int .i64), .str, .str])], [], []⟩), (13, ⟨[.tmp 4 (.a (.ptr 256 0)), .tmp 7 (.a (.ptr 448 0)), .box 256 (.cells 54 [(.int .i64), (.int .i64), .str, (.int .i64), .str, (.int .i64), (.int .i64), (.int .i64), .str, .str]), .box 448 (.cells 52 [(.int .i64), .str, (.int .i64), (.int .i64), (.int .i64), .str, .str])], [], []⟩), (7, ⟨[.tmp 4 (.a (.ptr 256 0)), .tmp 5 (.a (.int .i64)), .box 256 (.cells 54 [(.int .i64), (.int .i64), .str, (.int .i64), .str, (.int .i64), (.int .i64), (.int .i64), .str, .str])], [], []⟩)] }, rfrz := [], ts := [86, 87], rc := [(4, some 54), (5, none)] }
noncomputable def e_prog_Next (F : Nat) : Env El := (envS 70 (conOf TT s_phrase_Fill (M_phrase_Fill F)) (envS 69 (conOf TT s_prog_needs (M_prog_needs F)) (envS 66 (conOf TT s_prog_pass (M_prog_pass F)) (envS 68 (conOf TT s_sign_Only (M_sign_Only F)) (envS 67 (conOf TT s_sign_Count (M_sign_Count F)) (envS 36 (conOf TT s_prog_May (M_prog_May F)) envN))))))
noncomputable def M_prog_Next (F : Nat) (x : (List (El .ph)) × ((Int) × (List UInt8) × (Int) × (Int) × (Int) × (Int) × (List UInt8) × (Int) × (Int) × (Int) × (List UInt8) × (List UInt8) × (List UInt8) × (List UInt8) × Unit)) : Option (((Int) × (Int) × (List UInt8) × (Int) × (List UInt8) × (Int) × (Int) × (Int) × (List UInt8) × (List UInt8) × Unit) × (Int)) :=
 (M_prog_May F x.1).bind fun (v0 : Bool) =>
  if (!v0) = true then some ((0, 0, [], 0, [], 0, 0, 0, [], [], ()), 1)
  else
   (if decide (x.2.2.2.2.2.2.1 < 0) = false then
      some (x.1, (), (), decide ((↑x.1.length : Int) ≤ x.2.2.2.2.2.2.1), x.2, (0, 0, [], 0, [], 0, 0, 0, [], [], ()), ())
     else some (x.1, (), (), true, x.2, (0, 0, [], 0, [], 0, 0, 0, [], [], ()), ())).bind
    fun
     (v1 :
      List (Int × List UInt8 × Int × List UInt8 × Unit) ×
       Unit ×
        Unit ×
         Bool ×
          (Int × List UInt8 × Int × Int × Int × Int × List UInt8 × Int × Int × Int × List UInt8 × List UInt8 × List UInt8 × List UInt8 × Unit) ×
           (Int × Int × List UInt8 × Int × List UInt8 × Int × Int × Int × List UInt8 × List UInt8 × Unit) × Unit) =>
    if v1.2.2.2.1 = true then some ((0, 0, [], 0, [], 0, 0, 0, [], [], ()), 6)
    else
     (idx v1.1 v1.2.2.2.2.1.2.2.2.2.2.1).bind fun (v2 : Int × List UInt8 × Int × List UInt8 × Unit) =>
      if decide (v2.1 = 1) = true then
       ((M_sign_Count F v1.2.2.2.2.1.2.2.2.2.2.2.2.2.2.2.2.2.2.1).bind fun (v3 : Int) =>
          if decide (v3 ≤ v2.2.2.1) = true then
           (M_sign_Only F (v1.2.2.2.2.1.2.2.2.2.2.2.2.2.2.2.2.2.2.1, [1, 2, 3])).bind fun (v4 : Bool) =>
            (M_prog_pass F (v4, [111, 110, 108, 121])).bind
             fun (v5 : Int × Int × List UInt8 × Int × List UInt8 × Int × Int × Int × List UInt8 × List UInt8 × Unit) => some ((), 0, v5, ())
          else
           (M_prog_pass F (false, [111, 110, 108, 121])).bind
            fun (v6 : Int × Int × List UInt8 × Int × List UInt8 × Int × Int × Int × List UInt8 × List UInt8 × Unit) => some ((), 0, v6, ())).bind
        fun (v7 : Unit × Int × (Int × Int × List UInt8 × Int × List UInt8 × Int × Int × Int × List UInt8 × List UInt8 × Unit) × Unit) =>
        some (v7.2.2.1, v7.2.1)
      else
       if decide (v2.1 = 2) = true then
        ((M_prog_needs F (v1.2.2.2.2.1.2.2.2.2.2.2.2.2.2.2.2.2.2.1, v2.2.1, v2.2.2.1)).bind fun (v8 : Bool) =>
           if decide ([110, 101, 101, 100, 32].length + v2.2.1.length ≤ 9223372036854775807) = true then
            (M_prog_pass F (v8, [110, 101, 101, 100, 32] ++ v2.2.1)).bind
             fun (v9 : Int × Int × List UInt8 × Int × List UInt8 × Int × Int × Int × List UInt8 × List UInt8 × Unit) => some ((), 0, v9, ())
           else none).bind
         fun (v10 : Unit × Int × (Int × Int × List UInt8 × Int × List UInt8 × Int × Int × Int × List UInt8 × List UInt8 × Unit) × Unit) =>
         some (v10.2.2.1, v10.2.1)
       else
        if decide (v2.1 = 3) = true then
         ((M_phrase_Fill F (v2.2.2.2.1, v1.2.2.2.2.1)).bind fun (v11 : List UInt8) =>
            some
             ((), (), v1.2.2.2.2.2.1,
               (v1.2.2.2.2.1.1, v1.2.2.2.2.1.2.1, v1.2.2.2.2.1.2.2.2.1, v1.2.2.2.2.1.2.2.2.2.2.1, v1.2.2.2.2.1.2.2.2.2.1, v2.2.1, v11, ()), ())).bind
          fun
           (v12 :
            Unit ×
             Unit ×
              (Int × Int × List UInt8 × Int × List UInt8 × Int × Int × Int × List UInt8 × List UInt8 × Unit) ×
               (Int × List UInt8 × Int × Int × Int × List UInt8 × List UInt8 × Unit) × Unit) =>
          some ((3, 0, [], v12.2.2.2.1), 0)
        else
         ((M_phrase_Fill F (v2.2.2.2.1, v1.2.2.2.2.1)).bind fun (v13 : List UInt8) =>
            some ((), 0, (2, v2.2.2.1, v13, 0, [], 0, 0, 0, [], [], ()), ())).bind
          fun (v14 : Unit × Int × (Int × Int × List UInt8 × Int × List UInt8 × Int × Int × Int × List UInt8 × List UInt8 × Unit) × Unit) =>
          some (v14.2.2.1, v14.2.1)
theorem t_prog_Next (x : (List (El .ph)) × ((Int) × (List UInt8) × (Int) × (Int) × (Int) × (Int) × (List UInt8) × (Int) × (Int) × (Int) × (List UInt8) × (List UInt8) × (List UInt8) × (List UInt8) × Unit)) (F : Nat) : fnRun TT Tryz.prog (e_prog_Next F) s_prog_Next (bodyOf 30) F x = M_prog_Next F x := by kernel_rfl
theorem c_prog_Next (F : Nat) : Ctr TT Tryz.prog 30 (conOf TT s_prog_Next (M_prog_Next F)) :=
 ctr_of (code := bodyOf 30) Tryz.func30 (by kernel_rfl) (by kernel_rfl) (by kernel_rfl) (by kernel_rfl) (envS_ok (envS_ok (envS_ok (envS_ok (envS_ok (envS_ok envN_ok (c_prog_May F)) (c_sign_Count F)) (c_sign_Only F)) (c_prog_pass F)) (c_prog_needs F)) (c_phrase_Fill F)) hm (by kernel_rfl) (fun x r h => ⟨F, (t_prog_Next x F).trans h⟩)
noncomputable def s_prog_Calls : Spec Kd := { params := [(.a (.slc .ph)), (.a (.int .i64))], ret := (.one (.a (.int .i64))), pins := [], pl := { nt := 27, bjoins := [(1, (.norm, ⟨[.tmp 1 (.a (.int .i64)), .tmp 5 (.a (.int .i64)), .tmp 8 (.a (.slc .ph)), .tmp 9 (.a (.int .i64)), .tmp 10 (.a (.int .i64))], [], []⟩), [])], loops := [(0, ⟨[.tmp 1 (.a (.int .i64)), .tmp 5 (.a (.int .i64)), .tmp 8 (.a (.slc .ph)), .tmp 9 (.a (.int .i64)), .tmp 10 (.a (.int .i64))], [], []⟩, (.exit 0, ⟨[.tmp 5 (.a (.int .i64))], [], []⟩), [])], cuts := [(5, [(8, ⟨[.tmp 1 (.a (.int .i64)), .tmp 5 (.a (.int .i64)), .tmp 8 (.a (.slc .ph)), .tmp 9 (.a (.int .i64)), .tmp 10 (.a (.int .i64)), .tmp 22 (.a .bool)], [], []⟩)])] }, rfrz := [], ts := [4] }
noncomputable def e_prog_Calls (F : Nat) : Env El := envN
noncomputable def M_prog_Calls_l0 (F : Nat) (v0 : (Int × Int × List (Int × List UInt8 × Int × List UInt8 × Unit) × Int × Int × Unit)) : Option ((Int × Int × List (Int × List UInt8 × Int × List UInt8 × Unit) × Int × Int × Unit) ⊕ (Int × Unit)) :=
 if decide (v0.2.2.2.2.1 < v0.2.2.2.1) = true then
     ((idx v0.2.2.1 v0.2.2.2.2.1).bind fun (v1 : Int × List UInt8 × Int × List UInt8 × Unit) =>
        (if decide (v0.2.2.2.2.1 < v0.1) = true then some (v0.1, v0.2.1, v0.2.2.1, v0.2.2.2.1, v0.2.2.2.2.1, decide (v1.1 = 3), ())
          else some (v0.1, v0.2.1, v0.2.2.1, v0.2.2.2.1, v0.2.2.2.2.1, false, ())).bind
         fun (v2 : Int × Int × List (Int × List UInt8 × Int × List UInt8 × Unit) × Int × Int × Bool × Unit) =>
         if v2.2.2.2.2.2.1 = true then some (v2.1, IntKind.i64.wrap (v2.2.1 + 1), v2.2.2.1, v2.2.2.2.1, v2.2.2.2.2.1, ())
         else some (v2.1, v2.2.1, v2.2.2.1, v2.2.2.2.1, v2.2.2.2.2.1, ())).bind
      fun (v3 : Int × Int × List (Int × List UInt8 × Int × List UInt8 × Unit) × Int × Int × Unit) =>
      some (Sum.inl (v3.1, v3.2.1, v3.2.2.1, v3.2.2.2.1, IntKind.i64.wrap (v3.2.2.2.2.1 + 1), ()))
    else some (Sum.inr (v0.2.1, ()))
noncomputable def M_prog_Calls (F : Nat) (x : (List (El .ph)) × (Int)) : Option (Int) :=
 (loopM (M_prog_Calls_l0 F)
    F (x.2, 0, x.1, (↑x.1.length : Int), 0, ())).bind
  fun (v4 : Int × Unit) => some v4.1
theorem t_prog_Calls (x : (List (El .ph)) × (Int)) (F : Nat) : fnRun TT Tryz.prog (e_prog_Calls F) s_prog_Calls (bodyOf 32) F x = M_prog_Calls F x := by kernel_rfl
theorem c_prog_Calls (F : Nat) : Ctr TT Tryz.prog 32 (conOf TT s_prog_Calls (M_prog_Calls F)) :=
 ctr_of (code := bodyOf 32) Tryz.func32 (by kernel_rfl) (by kernel_rfl) (by kernel_rfl) (by kernel_rfl) envN_ok hm (by kernel_rfl) (fun x r h => ⟨F, (t_prog_Calls x F).trans h⟩)
end Go.Vm
