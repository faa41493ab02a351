import Derived.Test.YtihpjgcbmipdbaaGreatDoorKt
import Derived.Test.YtihpjgcbmipdbaaGreatDoorFref22
import Derived.Test.YtihpjgcbmipdbaaGreatDoorFphr
/- Models of functions of the program, and that each keeps its contract: for all arguments of its shape. No condition. -/
namespace Go.Vm
open Go.Proofs
set_option linter.unusedVariables false
noncomputable def s_conciergeref23_text : Spec Kd := { params := [(.a .str)], ret := (.one (.a .bool)), pins := [], pl := { nt := 16, loops := [(0, ⟨[.tmp 0 (.a .str), .tmp 3 (.a (.int .i64))], [], []⟩, (.exit 0, ⟨[.tmp 0 (.a .str)], [], []⟩), [(.ret, ⟨[.tmp 2 (.a .bool)], [], []⟩)])] }, rfrz := [], ts := [2] }
noncomputable def e_conciergeref23_text (F : Nat) : Env El := (envS 134 (conOf TT s_conciergeref22_Check (M_conciergeref22_Check F)) envN)
noncomputable def M_conciergeref23_text_l0 (F : Nat) (v0 : (List UInt8 × Int × Unit)) : Option ((List UInt8 × Int × Unit) ⊕ (List UInt8 × Unit ⊕ Bool × Unit)) :=
 if decide (v0.2.1 < (↑v0.1.length : Int)) = true then
     (idx v0.1 v0.2.1).bind fun (v1 : UInt8) =>
      if decide ((↑v1.toNat : Int) = 59) = true then some (Sum.inr (Sum.inr (false, ()))) else some (Sum.inl (v0.1, IntKind.i64.wrap (v0.2.1 + 1), ()))
    else some (Sum.inr (Sum.inl (v0.1, ())))
noncomputable def M_conciergeref23_text (F : Nat) (x : (List UInt8)) : Option (Bool) :=
 (loopM (M_conciergeref23_text_l0 F)
    F (x, 0, ())).bind
  fun (v2 : List UInt8 × Unit ⊕ Bool × Unit) =>
  sumC v2 (fun (v3 : List UInt8 × Unit) => (M_conciergeref22_Check F v3.1).bind fun (v4 : Bool) => some v4) fun (v5 : Bool × Unit) => some v5.1
theorem t_conciergeref23_text (x : (List UInt8)) (F : Nat) : fnRun TT Tryz.prog (e_conciergeref23_text F) s_conciergeref23_text (bodyOf 139) F x = M_conciergeref23_text F x := by kernel_rfl
theorem c_conciergeref23_text (F : Nat) : Ctr TT Tryz.prog 139 (conOf TT s_conciergeref23_text (M_conciergeref23_text F)) :=
 ctr_of (code := bodyOf 139) Tryz.func139 (by kernel_rfl) (by kernel_rfl) (by kernel_rfl) (by kernel_rfl) (envS_ok envN_ok (c_conciergeref22_Check F)) hm (by kernel_rfl) (fun x r h => ⟨F, (t_conciergeref23_text x F).trans h⟩)
noncomputable def s_conciergeref23_phase : Spec Kd := { params := [(.agg [(.int .i64), .str, (.int .i64), .str])], ret := (.one (.a .bool)), pins := [], pl := { nt := 84, cuts := [(7, [(13, ⟨[.tmp 1 (.a (.ptr 64 0)), .tmp 73 (.a .bool), .box 64 (.cells 62 [(.int .i64), .str, (.int .i64), .str])], [], []⟩), (5, ⟨[.tmp 1 (.a (.ptr 64 0)), .tmp 78 (.a .bool), .box 64 (.cells 62 [(.int .i64), .str, (.int .i64), .str])], [], []⟩), (5, ⟨[.tmp 83 (.a .bool)], [], []⟩)]), (6, [(8, ⟨[.tmp 1 (.a (.ptr 64 0)), .tmp 55 (.a .bool), .box 64 (.cells 62 [(.int .i64), .str, (.int .i64), .str])], [], []⟩), (5, ⟨[.tmp 60 (.a .bool)], [], []⟩)]), (4, [(8, ⟨[.tmp 1 (.a (.ptr 64 0)), .tmp 34 (.a .bool), .box 64 (.cells 62 [(.int .i64), .str, (.int .i64), .str])], [], []⟩), (5, ⟨[.tmp 1 (.a (.ptr 64 0)), .tmp 39 (.a .bool), .box 64 (.cells 62 [(.int .i64), .str, (.int .i64), .str])], [], []⟩), (5, ⟨[.tmp 44 (.a .bool)], [], []⟩)]), (2, [(8, ⟨[.tmp 1 (.a (.ptr 64 0)), .tmp 13 (.a .bool), .box 64 (.cells 62 [(.int .i64), .str, (.int .i64), .str])], [], []⟩), (5, ⟨[.tmp 1 (.a (.ptr 64 0)), .tmp 18 (.a .bool), .box 64 (.cells 62 [(.int .i64), .str, (.int .i64), .str])], [], []⟩), (5, ⟨[.tmp 23 (.a .bool)], [], []⟩)])] }, rfrz := [], ts := [2] }
noncomputable def e_conciergeref23_phase (F : Nat) : Env El := (envS 139 (conOf TT s_conciergeref23_text (M_conciergeref23_text F)) (envS 138 (conOf TT s_conciergeref22_Name (M_conciergeref22_Name F)) envN))
noncomputable def M_conciergeref23_phase (F : Nat) (x : ((Int) × (List UInt8) × (Int) × (List UInt8) × Unit)) : Option (Bool) :=
 if decide (x.1 = 1) = true then
  (if decide (1 ≤ x.2.2.1) = true then some ((), decide (x.2.2.1 ≤ 80), (x.1, x.2.1, x.2.2.1, x.2.2.2.1, ()), ())
    else some ((), false, (x.1, x.2.1, x.2.2.1, x.2.2.2.1, ()), ())).bind
   fun (v0 : Unit × Bool × (Int × List UInt8 × Int × List UInt8 × Unit) × Unit) =>
   (if v0.2.1 = true then some ((), decide (v0.2.2.1.2.1 = []), (v0.2.2.1.1, v0.2.2.1.2.1, v0.2.2.1.2.2.1, v0.2.2.1.2.2.2.1, ()), ())
     else some ((), false, (v0.2.2.1.1, v0.2.2.1.2.1, v0.2.2.1.2.2.1, v0.2.2.1.2.2.2.1, ()), ())).bind
    fun (v1 : Unit × Bool × (Int × List UInt8 × Int × List UInt8 × Unit) × Unit) =>
    (if v1.2.1 = true then some (decide (v1.2.2.1.2.2.2.1 = []), ()) else some (false, ())).bind fun (v2 : Bool × Unit) => some v2.1
 else
  if decide (x.1 = 2) = true then
   (if decide (1 ≤ x.2.2.1) = true then some ((), decide (x.2.2.1 ≤ 1073741824), (x.1, x.2.1, x.2.2.1, x.2.2.2.1, ()), ())
     else some ((), false, (x.1, x.2.1, x.2.2.1, x.2.2.2.1, ()), ())).bind
    fun (v3 : Unit × Bool × (Int × List UInt8 × Int × List UInt8 × Unit) × Unit) =>
    (if v3.2.1 = true then
       (M_conciergeref22_Name F v3.2.2.1.2.1).bind fun (v4 : Bool) => some ((), v4, (v3.2.2.1.1, v3.2.2.1.2.1, v3.2.2.1.2.2.1, v3.2.2.1.2.2.2.1, ()), ())
      else some ((), false, (v3.2.2.1.1, v3.2.2.1.2.1, v3.2.2.1.2.2.1, v3.2.2.1.2.2.2.1, ()), ())).bind
     fun (v5 : Unit × Bool × (Int × List UInt8 × Int × List UInt8 × Unit) × Unit) =>
     (if v5.2.1 = true then some (decide (v5.2.2.1.2.2.2.1 = []), ()) else some (false, ())).bind fun (v6 : Bool × Unit) => some v6.1
  else
   if decide (x.1 = 3) = true then
    (if decide (x.2.2.1 = 0) = true then (M_conciergeref22_Name F x.2.1).bind fun (v7 : Bool) => some ((), v7, (x.1, x.2.1, x.2.2.1, x.2.2.2.1, ()), ())
      else some ((), false, (x.1, x.2.1, x.2.2.1, x.2.2.2.1, ()), ())).bind
     fun (v8 : Unit × Bool × (Int × List UInt8 × Int × List UInt8 × Unit) × Unit) =>
     (if v8.2.1 = true then (M_conciergeref23_text F v8.2.2.1.2.2.2.1).bind fun (v9 : Bool) => some (v9, ()) else some (false, ())).bind
      fun (v10 : Bool × Unit) => some v10.1
   else
    (if decide (x.1 = 4) = true then
       if decide (x.2.2.1 = 200) = false then some ((), decide (x.2.2.1 = 201), (x.1, x.2.1, x.2.2.1, x.2.2.2.1, ()), ())
       else some ((), true, (x.1, x.2.1, x.2.2.1, x.2.2.2.1, ()), ())
      else some ((), false, (x.1, x.2.1, x.2.2.1, x.2.2.2.1, ()), ())).bind
     fun (v11 : Unit × Bool × (Int × List UInt8 × Int × List UInt8 × Unit) × Unit) =>
     (if v11.2.1 = true then some ((), decide (v11.2.2.1.2.1 = []), (v11.2.2.1.1, v11.2.2.1.2.1, v11.2.2.1.2.2.1, v11.2.2.1.2.2.2.1, ()), ())
       else some ((), false, (v11.2.2.1.1, v11.2.2.1.2.1, v11.2.2.1.2.2.1, v11.2.2.1.2.2.2.1, ()), ())).bind
      fun (v12 : Unit × Bool × (Int × List UInt8 × Int × List UInt8 × Unit) × Unit) =>
      (if v12.2.1 = true then (M_conciergeref23_text F v12.2.2.1.2.2.2.1).bind fun (v13 : Bool) => some (v13, ()) else some (false, ())).bind
       fun (v14 : Bool × Unit) => some v14.1
theorem t_conciergeref23_phase (x : ((Int) × (List UInt8) × (Int) × (List UInt8) × Unit)) (F : Nat) : fnRun TT Tryz.prog (e_conciergeref23_phase F) s_conciergeref23_phase (bodyOf 74) F x = M_conciergeref23_phase F x := by kernel_rfl
theorem c_conciergeref23_phase (F : Nat) : Ctr TT Tryz.prog 74 (conOf TT s_conciergeref23_phase (M_conciergeref23_phase F)) :=
 ctr_of (code := bodyOf 74) Tryz.func74 (by kernel_rfl) (by kernel_rfl) (by kernel_rfl) (by kernel_rfl) (envS_ok (envS_ok envN_ok (c_conciergeref22_Name F)) (c_conciergeref23_text F)) hm (by kernel_rfl) (fun x r h => ⟨F, (t_conciergeref23_phase x F).trans h⟩)
noncomputable def s_conciergeref23_May : Spec Kd := { params := [(.a (.slc .ph))], ret := (.one (.a .bool)), pins := [], pl := { nt := 38, loops := [(0, ⟨[.tmp 0 (.a (.slc .ph)), .tmp 3 (.a (.int .i64))], [], []⟩, (.exit 0, ⟨[], [], []⟩), [(.ret, ⟨[.tmp 2 (.a .bool)], [], []⟩)])], cuts := [(6, [(20, ⟨[.tmp 0 (.a (.slc .ph)), .tmp 3 (.a (.int .i64)), .tmp 37 (.a .bool)], [], []⟩)]), (1, [(8, ⟨[.tmp 0 (.a (.slc .ph)), .tmp 11 (.a .bool)], [], []⟩)])] }, rfrz := [], ts := [2] }
noncomputable def e_conciergeref23_May (F : Nat) : Env El := (envS 74 (conOf TT s_conciergeref23_phase (M_conciergeref23_phase F)) envN)
noncomputable def M_conciergeref23_May_l0 (F : Nat) (v1 : (List (Int × List UInt8 × Int × List UInt8 × Unit) × Int × Unit)) : Option ((List (Int × List UInt8 × Int × List UInt8 × Unit) × Int × Unit) ⊕ (Unit ⊕ Bool × Unit)) :=
 if decide (v1.2.1 < (↑v1.1.length : Int)) = true then
       ((idx v1.1 v1.2.1).bind fun (v2 : Int × List UInt8 × Int × List UInt8 × Unit) =>
          (M_conciergeref23_phase F (v2.1, v2.2.1, v2.2.2.1, v2.2.2.2.1, ())).bind fun (v3 : Bool) =>
           if (!v3) = false then
            (idx v1.1 v1.2.1).bind fun (v4 : Int × List UInt8 × Int × List UInt8 × Unit) =>
             some (v1.1, v1.2.1, !decide (v4.1 = 4) == decide (v1.2.1 = IntKind.i64.wrap ((↑v1.1.length : Int) - 1)), ())
           else some (v1.1, v1.2.1, true, ())).bind
        fun (v5 : List (Int × List UInt8 × Int × List UInt8 × Unit) × Int × Bool × Unit) =>
        if v5.2.2.1 = true then some (Sum.inr (Sum.inr (false, ()))) else some (Sum.inl (v5.1, IntKind.i64.wrap (v5.2.1 + 1), ()))
      else some (Sum.inr (Sum.inl ()))
noncomputable def M_conciergeref23_May (F : Nat) (x : (List (El .ph))) : Option (Bool) :=
 (if decide ((↑x.length : Int) < 1) = false then some (x, decide (5 < (↑x.length : Int)), ()) else some (x, true, ())).bind
  fun (v0 : List (Int × List UInt8 × Int × List UInt8 × Unit) × Bool × Unit) =>
  if v0.2.1 = true then some false
  else
   (loopM (M_conciergeref23_May_l0 F)
      F (v0.1, 0, ())).bind
    fun (v6 : Unit ⊕ Bool × Unit) => sumC v6 (fun (v7 : Unit) => some true) fun (v8 : Bool × Unit) => some v8.1
theorem t_conciergeref23_May (x : (List (El .ph))) (F : Nat) : fnRun TT Tryz.prog (e_conciergeref23_May F) s_conciergeref23_May (bodyOf 34) F x = M_conciergeref23_May F x := by kernel_rfl
theorem c_conciergeref23_May (F : Nat) : Ctr TT Tryz.prog 34 (conOf TT s_conciergeref23_May (M_conciergeref23_May F)) :=
 ctr_of (code := bodyOf 34) Tryz.func34 (by kernel_rfl) (by kernel_rfl) (by kernel_rfl) (by kernel_rfl) (envS_ok envN_ok (c_conciergeref23_phase F)) hm (by kernel_rfl) (fun x r h => ⟨F, (t_conciergeref23_May x F).trans h⟩)
end Go.Vm
/- Models of functions of the program, and that each keeps its contract: for all arguments of its shape. No condition. -/
namespace Go.Vm
open Go.Proofs
set_option linter.unusedVariables false
end Go.Vm
/- Models of functions of the program, and that each keeps its contract: for all arguments of its shape. No condition. -/
namespace Go.Vm
open Go.Proofs
set_option linter.unusedVariables false
noncomputable def s_conciergelaw23_Small : Spec Kd := { params := [(.a (.slc .ph))], ret := (.one (.a .bool)), pins := [], pl := { nt := 25, loops := [(0, ⟨[.tmp 8 (.a (.slc .ph)), .tmp 9 (.a (.int .i64)), .tmp 10 (.a (.int .i64))], [], []⟩, (.exit 0, ⟨[], [], []⟩), [(.ret, ⟨[.tmp 2 (.a .bool)], [], []⟩)])], cuts := [(6, [(10, ⟨[.tmp 8 (.a (.slc .ph)), .tmp 9 (.a (.int .i64)), .tmp 10 (.a (.int .i64)), .tmp 23 (.a .bool)], [], []⟩)])] }, rfrz := [], ts := [2] }
noncomputable def e_conciergelaw23_Small (F : Nat) : Env El := envN
noncomputable def M_conciergelaw23_Small_l0 (F : Nat) (v0 : (List (Int × List UInt8 × Int × List UInt8 × Unit) × Int × Int × Unit)) : Option ((List (Int × List UInt8 × Int × List UInt8 × Unit) × Int × Int × Unit) ⊕ (Unit ⊕ Bool × Unit)) :=
 if decide (v0.2.2.1 < v0.2.1) = true then
      (idx v0.1 v0.2.2.1).bind fun (v1 : Int × List UInt8 × Int × List UInt8 × Unit) =>
       (if decide (100 < (↑v1.2.1.length : Int)) = false then some (v0.1, v0.2.1, v0.2.2.1, decide (100 < (↑v1.2.2.2.1.length : Int)), ())
         else some (v0.1, v0.2.1, v0.2.2.1, true, ())).bind
        fun (v2 : List (Int × List UInt8 × Int × List UInt8 × Unit) × Int × Int × Bool × Unit) =>
        if v2.2.2.2.1 = true then some (Sum.inr (Sum.inr (false, ()))) else some (Sum.inl (v2.1, v2.2.1, IntKind.i64.wrap (v2.2.2.1 + 1), ()))
     else some (Sum.inr (Sum.inl ()))
noncomputable def M_conciergelaw23_Small (F : Nat) (x : (List (El .ph))) : Option (Bool) :=
 if decide (10 < (↑x.length : Int)) = true then some false
 else
  (loopM (M_conciergelaw23_Small_l0 F)
     F (x, (↑x.length : Int), 0, ())).bind
   fun (v3 : Unit ⊕ Bool × Unit) => sumC v3 (fun (v4 : Unit) => some true) fun (v5 : Bool × Unit) => some v5.1
theorem t_conciergelaw23_Small (x : (List (El .ph))) (F : Nat) : fnRun TT Tryz.prog (e_conciergelaw23_Small F) s_conciergelaw23_Small (bodyOf 29) F x = M_conciergelaw23_Small F x := by kernel_rfl
theorem c_conciergelaw23_Small (F : Nat) : Ctr TT Tryz.prog 29 (conOf TT s_conciergelaw23_Small (M_conciergelaw23_Small F)) :=
 ctr_of (code := bodyOf 29) Tryz.func29 (by kernel_rfl) (by kernel_rfl) (by kernel_rfl) (by kernel_rfl) envN_ok hm (by kernel_rfl) (fun x r h => ⟨F, (t_conciergelaw23_Small x F).trans h⟩)
end Go.Vm
/- Models of functions of the program, and that each keeps its contract: for all arguments of its shape. No condition. -/
namespace Go.Vm
open Go.Proofs
set_option linter.unusedVariables false
noncomputable def s_conciergelaw18_Small : Spec Kd := { params := [(.a (.slc .rd)), (.a (.int .i64))], ret := (.one (.a .bool)), pins := [], pl := { nt := 55, loops := [(0, ⟨[.tmp 12 (.a (.slc .rd)), .tmp 13 (.a (.int .i64)), .tmp 14 (.a (.int .i64))], [], []⟩, (.exit 0, ⟨[], [], []⟩), [(.ret, ⟨[.tmp 4 (.a .bool)], [], []⟩)])], cuts := [(7, [(10, ⟨[.tmp 7 (.a (.ptr 448 0)), .tmp 12 (.a (.slc .rd)), .tmp 13 (.a (.int .i64)), .tmp 14 (.a (.int .i64)), .tmp 29 (.a .bool), .box 448 (.cells 35 [(.int .i64), .str, (.int .i64), (.int .i64), (.int .i64), (.int .i64), .str, (.int .i64), (.int .i64), (.int .i64), .str, .str, .str, .str])], [], []⟩), (6, ⟨[.tmp 7 (.a (.ptr 448 0)), .tmp 12 (.a (.slc .rd)), .tmp 13 (.a (.int .i64)), .tmp 14 (.a (.int .i64)), .tmp 35 (.a .bool), .box 448 (.cells 35 [(.int .i64), .str, (.int .i64), (.int .i64), (.int .i64), (.int .i64), .str, (.int .i64), (.int .i64), (.int .i64), .str, .str, .str, .str])], [], []⟩), (6, ⟨[.tmp 7 (.a (.ptr 448 0)), .tmp 12 (.a (.slc .rd)), .tmp 13 (.a (.int .i64)), .tmp 14 (.a (.int .i64)), .tmp 41 (.a .bool), .box 448 (.cells 35 [(.int .i64), .str, (.int .i64), (.int .i64), (.int .i64), (.int .i64), .str, (.int .i64), (.int .i64), (.int .i64), .str, .str, .str, .str])], [], []⟩), (6, ⟨[.tmp 7 (.a (.ptr 448 0)), .tmp 12 (.a (.slc .rd)), .tmp 13 (.a (.int .i64)), .tmp 14 (.a (.int .i64)), .tmp 47 (.a .bool), .box 448 (.cells 35 [(.int .i64), .str, (.int .i64), (.int .i64), (.int .i64), (.int .i64), .str, (.int .i64), (.int .i64), (.int .i64), .str, .str, .str, .str])], [], []⟩), (6, ⟨[.tmp 12 (.a (.slc .rd)), .tmp 13 (.a (.int .i64)), .tmp 14 (.a (.int .i64)), .tmp 53 (.a .bool)], [], []⟩)])] }, rfrz := [], ts := [4] }
noncomputable def e_conciergelaw18_Small (F : Nat) : Env El := envN
noncomputable def M_conciergelaw18_Small_l0 (F : Nat) (v0 : (List (Int × Int × List UInt8 × Int × Int × Int × Int × List UInt8 × Int × Int × Int × List UInt8 × List UInt8 × List UInt8 × List UInt8 × Unit) ×
     Int × Int × Unit)) : Option ((List (Int × Int × List UInt8 × Int × Int × Int × Int × List UInt8 × Int × Int × Int × List UInt8 × List UInt8 × List UInt8 × List UInt8 × Unit) ×
     Int × Int × Unit) ⊕ (Unit ⊕ Bool × Unit)) :=
 if decide (v0.2.2.1 < v0.2.1) = true then
      (idx v0.1 v0.2.2.1).bind fun v1 =>
       (if decide (100 < (↑v1.2.2.1.length : Int)) = false then
          some ((), v0.1, v0.2.1, v0.2.2.1, decide (100 < (↑v1.2.2.2.2.2.2.2.1.length : Int)), v1.2, ())
         else some ((), v0.1, v0.2.1, v0.2.2.1, true, v1.2, ())).bind
        fun v2 =>
        (if v2.2.2.2.2.1 = false then
           some ((), v2.2.1, v2.2.2.1, v2.2.2.2.1, decide (100 < (↑v2.2.2.2.2.2.1.2.2.2.2.2.2.2.2.2.2.1.length : Int)), v2.2.2.2.2.2.1, ())
          else some ((), v2.2.1, v2.2.2.1, v2.2.2.2.1, true, v2.2.2.2.2.2.1, ())).bind
         fun v3 =>
         (if v3.2.2.2.2.1 = false then
            some ((), v3.2.1, v3.2.2.1, v3.2.2.2.1, decide (100 < (↑v3.2.2.2.2.2.1.2.2.2.2.2.2.2.2.2.2.2.1.length : Int)), v3.2.2.2.2.2.1, ())
           else some ((), v3.2.1, v3.2.2.1, v3.2.2.2.1, true, v3.2.2.2.2.2.1, ())).bind
          fun v4 =>
          (if v4.2.2.2.2.1 = false then
             some ((), v4.2.1, v4.2.2.1, v4.2.2.2.1, decide (100 < (↑v4.2.2.2.2.2.1.2.2.2.2.2.2.2.2.2.2.2.2.1.length : Int)), v4.2.2.2.2.2.1, ())
            else some ((), v4.2.1, v4.2.2.1, v4.2.2.2.1, true, v4.2.2.2.2.2.1, ())).bind
           fun v5 =>
           (if v5.2.2.2.2.1 = false then
              some (v5.2.1, v5.2.2.1, v5.2.2.2.1, decide (100 < (↑v5.2.2.2.2.2.1.2.2.2.2.2.2.2.2.2.2.2.2.2.1.length : Int)), ())
             else some (v5.2.1, v5.2.2.1, v5.2.2.2.1, true, ())).bind
            fun v6 =>
            if v6.2.2.2.1 = true then some (Sum.inr (Sum.inr (false, ()))) else some (Sum.inl (v6.1, v6.2.1, IntKind.i64.wrap (v6.2.2.1 + 1), ()))
     else some (Sum.inr (Sum.inl ()))
noncomputable def M_conciergelaw18_Small (F : Nat) (x : (List (El .rd)) × (Int)) : Option (Bool) :=
 if decide (x.2 < (↑x.1.length : Int)) = true then some false
 else
  (loopM (M_conciergelaw18_Small_l0 F)
     F (x.1, (↑x.1.length : Int), 0, ())).bind
   fun v7 => sumC v7 (fun v8 => some true) fun v9 => some v9.1
theorem t_conciergelaw18_Small (x : (List (El .rd)) × (Int)) (F : Nat) : fnRun TT Tryz.prog (e_conciergelaw18_Small F) s_conciergelaw18_Small (bodyOf 21) F x = M_conciergelaw18_Small F x := by kernel_rfl
theorem c_conciergelaw18_Small (F : Nat) : Ctr TT Tryz.prog 21 (conOf TT s_conciergelaw18_Small (M_conciergelaw18_Small F)) :=
 ctr_of (code := bodyOf 21) Tryz.func21 (by kernel_rfl) (by kernel_rfl) (by kernel_rfl) (by kernel_rfl) envN_ok hm (by kernel_rfl) (fun x r h => ⟨F, (t_conciergelaw18_Small x F).trans h⟩)
end Go.Vm
