/- Models of functions of the program, and that each keeps its contract: for all arguments of its shape. No condition. -/
import Derived.Test.YtihpjgcbmipdbaaGreatDoorKt
import Derived.Test.YtihpjgcbmipdbaaGreatDoorFref22
import Derived.Test.YtihpjgcbmipdbaaGreatDoorFr9
namespace Go.Vm
open Go.Proofs
set_option linter.unusedVariables false
noncomputable def s_conciergeref23_text : Spec Kd := { params := [(.a .str)], ret := (.one (.a .bool)), pins := [], pl := { nt := 16, loops := [(0, ⟨[.tmp 0 (.a .str), .tmp 3 (.a (.int .i64))], [], []⟩, (.exit 0, ⟨[.tmp 0 (.a .str)], [], []⟩), [(.ret, ⟨[.tmp 2 (.a .bool)], [], []⟩)])] }, rfrz := [], ts := [2] }
noncomputable def e_conciergeref23_text (F : Nat) : Env El := (envS 134 (conOf TT s_conciergeref22_Check (M_conciergeref22_Check F)) envN)
noncomputable def M_conciergeref23_text_l0 (F : Nat) (v0 : (List UInt8 × Int × Unit)) : Option ((List UInt8 × Int × Unit) ⊕ (List UInt8 × Unit ⊕ Bool × Unit)) :=
 if decide (v0.2.1 < (↑v0.1.length : Int)) = true then
     (idx v0.1 v0.2.1).bind fun (v1 : UInt8) =>
      if decide ((↑v1.toNat : Int) = 59) = true then some (Sum.inr (Sum.inr (false, ()))) else some (Sum.inl (v0.1, IntKind.i64.wrap (v0.2.1 + 1), ()))
    else some (Sum.inr (Sum.inl (v0.1, ())))
noncomputable def M_conciergeref23_text (F : Nat) (x : (List UInt8)) : Option (Bool) :=
 (loopM (M_conciergeref23_text_l0 F)
    F (x, 0, ())).bind
  fun (v2 : List UInt8 × Unit ⊕ Bool × Unit) =>
  sumC v2 (fun (v3 : List UInt8 × Unit) => (M_conciergeref22_Check F v3.1).bind fun (v4 : Bool) => some v4) fun (v5 : Bool × Unit) => some v5.1
theorem t_conciergeref23_text (x : (List UInt8)) (F : Nat) : fnRun TT Tryz.prog (e_conciergeref23_text F) s_conciergeref23_text (bodyOf 139) F x = M_conciergeref23_text F x := by kernel_rfl
theorem c_conciergeref23_text (F : Nat) : Ctr TT Tryz.prog 139 (conOf TT s_conciergeref23_text (M_conciergeref23_text F)) :=
 ctr_of (code := bodyOf 139) Tryz.func139 (by kernel_rfl) (by kernel_rfl) (by kernel_rfl) (by kernel_rfl) (envS_ok envN_ok (c_conciergeref22_Check F)) hm (by kernel_rfl) (fun x r h => ⟨F, (t_conciergeref23_text x F).trans h⟩)
noncomputable def s_conciergeref23_phase : Spec Kd := { params := [(.agg [(.int .i64), .str, (.int .i64), .str])], ret := (.one (.a .bool)), pins := [], pl := { nt := 84, cuts := [(7, [(13, ⟨[.tmp 1 (.a (.ptr 64 0)), .tmp 73 (.a .bool), .box 64 (.cells 62 [(.int .i64), .str, (.int .i64), .str])], [], []⟩), (5, ⟨[.tmp 1 (.a (.ptr 64 0)), .tmp 78 (.a .bool), .box 64 (.cells 62 [(.int .i64), .str, (.int .i64), .str])], [], []⟩), (5, ⟨[.tmp 83 (.a .bool)], [], []⟩)]), (6, [(8, ⟨[.tmp 1 (.a (.ptr 64 0)), .tmp 55 (.a .bool), .box 64 (.cells 62 [(.int .i64), .str, (.int .i64), .str])], [], []⟩), (5, ⟨[.tmp 60 (.a .bool)], [], []⟩)]), (4, [(8, ⟨[.tmp 1 (.a (.ptr 64 0)), .tmp 34 (.a .bool), .box 64 (.cells 62 [(.int .i64), .str, (.int .i64), .str])], [], []⟩), (5, ⟨[.tmp 1 (.a (.ptr 64 0)), .tmp 39 (.a .bool), .box 64 (.cells 62 [(.int .i64), .str, (.int .i64), .str])], [], []⟩), (5, ⟨[.tmp 44 (.a .bool)], [], []⟩)]), (2, [(8, ⟨[.tmp 1 (.a (.ptr 64 0)), .tmp 13 (.a .bool), .box 64 (.cells 62 [(.int .i64), .str, (.int .i64), .str])], [], []⟩), (5, ⟨[.tmp 1 (.a (.ptr 64 0)), .tmp 18 (.a .bool), .box 64 (.cells 62 [(.int .i64), .str, (.int .i64), .str])], [], []⟩), (5, ⟨[.tmp 23 (.a .bool)], [], []⟩)])] }, rfrz := [], ts := [2] }
noncomputable def e_conciergeref23_phase (F : Nat) : Env El := (envS 139 (conOf TT s_conciergeref23_text (M_conciergeref23_text F)) (envS 138 (conOf TT s_conciergeref22_Name (M_conciergeref22_Name F)) envN))
noncomputable def M_conciergeref23_phase (F : Nat) (x : ((Int) × (List UInt8) × (Int) × (List UInt8) × Unit)) : Option (Bool) :=
 if decide (x.1 = 1) = true then
  (if decide (1 ≤ x.2.2.1) = true then some ((), decide (x.2.2.1 ≤ 80), (x.1, x.2.1, x.2.2.1, x.2.2.2.1, ()), ())
    else some ((), false, (x.1, x.2.1, x.2.2.1, x.2.2.2.1, ()), ())).bind
   fun (v0 : Unit × Bool × (Int × List UInt8 × Int × List UInt8 × Unit) × Unit) =>
   (if v0.2.1 = true then some ((), decide (v0.2.2.1.2.1 = []), (v0.2.2.1.1, v0.2.2.1.2.1, v0.2.2.1.2.2.1, v0.2.2.1.2.2.2.1, ()), ())
     else some ((), false, (v0.2.2.1.1, v0.2.2.1.2.1, v0.2.2.1.2.2.1, v0.2.2.1.2.2.2.1, ()), ())).bind
    fun (v1 : Unit × Bool × (Int × List UInt8 × Int × List UInt8 × Unit) × Unit) =>
    (if v1.2.1 = true then some (decide (v1.2.2.1.2.2.2.1 = []), ()) else some (false, ())).bind fun (v2 : Bool × Unit) => some v2.1
 else
  if decide (x.1 = 2) = true then
   (if decide (1 ≤ x.2.2.1) = true then some ((), decide (x.2.2.1 ≤ 1073741824), (x.1, x.2.1, x.2.2.1, x.2.2.2.1, ()), ())
     else some ((), false, (x.1, x.2.1, x.2.2.1, x.2.2.2.1, ()), ())).bind
    fun (v3 : Unit × Bool × (Int × List UInt8 × Int × List UInt8 × Unit) × Unit) =>
    (if v3.2.1 = true then
       (M_conciergeref22_Name F v3.2.2.1.2.1).bind fun (v4 : Bool) => some ((), v4, (v3.2.2.1.1, v3.2.2.1.2.1, v3.2.2.1.2.2.1, v3.2.2.1.2.2.2.1, ()), ())
      else some ((), false, (v3.2.2.1.1, v3.2.2.1.2.1, v3.2.2.1.2.2.1, v3.2.2.1.2.2.2.1, ()), ())).bind
     fun (v5 : Unit × Bool × (Int × List UInt8 × Int × List UInt8 × Unit) × Unit) =>
     (if v5.2.1 = true then some (decide (v5.2.2.1.2.2.2.1 = []), ()) else some (false, ())).bind fun (v6 : Bool × Unit) => some v6.1
  else
   if decide (x.1 = 3) = true then
    (if decide (x.2.2.1 = 0) = true then (M_conciergeref22_Name F x.2.1).bind fun (v7 : Bool) => some ((), v7, (x.1, x.2.1, x.2.2.1, x.2.2.2.1, ()), ())
      else some ((), false, (x.1, x.2.1, x.2.2.1, x.2.2.2.1, ()), ())).bind
     fun (v8 : Unit × Bool × (Int × List UInt8 × Int × List UInt8 × Unit) × Unit) =>
     (if v8.2.1 = true then (M_conciergeref23_text F v8.2.2.1.2.2.2.1).bind fun (v9 : Bool) => some (v9, ()) else some (false, ())).bind
      fun (v10 : Bool × Unit) => some v10.1
   else
    (if decide (x.1 = 4) = true then
       if decide (x.2.2.1 = 200) = false then some ((), decide (x.2.2.1 = 201), (x.1, x.2.1, x.2.2.1, x.2.2.2.1, ()), ())
       else some ((), true, (x.1, x.2.1, x.2.2.1, x.2.2.2.1, ()), ())
      else some ((), false, (x.1, x.2.1, x.2.2.1, x.2.2.2.1, ()), ())).bind
     fun (v11 : Unit × Bool × (Int × List UInt8 × Int × List UInt8 × Unit) × Unit) =>
     (if v11.2.1 = true then some ((), decide (v11.2.2.1.2.1 = []), (v11.2.2.1.1, v11.2.2.1.2.1, v11.2.2.1.2.2.1, v11.2.2.1.2.2.2.1, ()), ())
       else some ((), false, (v11.2.2.1.1, v11.2.2.1.2.1, v11.2.2.1.2.2.1, v11.2.2.1.2.2.2.1, ()), ())).bind
      fun (v12 : Unit × Bool × (Int × List UInt8 × Int × List UInt8 × Unit) × Unit) =>
      (if v12.2.1 = true then (M_conciergeref23_text F v12.2.2.1.2.2.2.1).bind fun (v13 : Bool) => some (v13, ()) else some (false, ())).bind
       fun (v14 : Bool × Unit) => some v14.1
theorem t_conciergeref23_phase (x : ((Int) × (List UInt8) × (Int) × (List UInt8) × Unit)) (F : Nat) : fnRun TT Tryz.prog (e_conciergeref23_phase F) s_conciergeref23_phase (bodyOf 74) F x = M_conciergeref23_phase F x := by kernel_rfl
theorem c_conciergeref23_phase (F : Nat) : Ctr TT Tryz.prog 74 (conOf TT s_conciergeref23_phase (M_conciergeref23_phase F)) :=
 ctr_of (code := bodyOf 74) Tryz.func74 (by kernel_rfl) (by kernel_rfl) (by kernel_rfl) (by kernel_rfl) (envS_ok (envS_ok envN_ok (c_conciergeref22_Name F)) (c_conciergeref23_text F)) hm (by kernel_rfl) (fun x r h => ⟨F, (t_conciergeref23_phase x F).trans h⟩)
noncomputable def s_conciergeref23_May : Spec Kd := { params := [(.a (.slc .ph))], ret := (.one (.a .bool)), pins := [], pl := { nt := 38, loops := [(0, ⟨[.tmp 0 (.a (.slc .ph)), .tmp 3 (.a (.int .i64))], [], []⟩, (.exit 0, ⟨[], [], []⟩), [(.ret, ⟨[.tmp 2 (.a .bool)], [], []⟩)])], cuts := [(6, [(20, ⟨[.tmp 0 (.a (.slc .ph)), .tmp 3 (.a (.int .i64)), .tmp 37 (.a .bool)], [], []⟩)]), (1, [(8, ⟨[.tmp 0 (.a (.slc .ph)), .tmp 11 (.a .bool)], [], []⟩)])] }, rfrz := [], ts := [2] }
noncomputable def e_conciergeref23_May (F : Nat) : Env El := (envS 74 (conOf TT s_conciergeref23_phase (M_conciergeref23_phase F)) envN)
noncomputable def M_conciergeref23_May_l0 (F : Nat) (v1 : (List (Int × List UInt8 × Int × List UInt8 × Unit) × Int × Unit)) : Option ((List (Int × List UInt8 × Int × List UInt8 × Unit) × Int × Unit) ⊕ (Unit ⊕ Bool × Unit)) :=
 if decide (v1.2.1 < (↑v1.1.length : Int)) = true then
       ((idx v1.1 v1.2.1).bind fun (v2 : Int × List UInt8 × Int × List UInt8 × Unit) =>
          (M_conciergeref23_phase F (v2.1, v2.2.1, v2.2.2.1, v2.2.2.2.1, ())).bind fun (v3 : Bool) =>
           if (!v3) = false then
            (idx v1.1 v1.2.1).bind fun (v4 : Int × List UInt8 × Int × List UInt8 × Unit) =>
             some (v1.1, v1.2.1, !decide (v4.1 = 4) == decide (v1.2.1 = IntKind.i64.wrap ((↑v1.1.length : Int) - 1)), ())
           else some (v1.1, v1.2.1, true, ())).bind
        fun (v5 : List (Int × List UInt8 × Int × List UInt8 × Unit) × Int × Bool × Unit) =>
        if v5.2.2.1 = true then some (Sum.inr (Sum.inr (false, ()))) else some (Sum.inl (v5.1, IntKind.i64.wrap (v5.2.1 + 1), ()))
      else some (Sum.inr (Sum.inl ()))
noncomputable def M_conciergeref23_May (F : Nat) (x : (List (El .ph))) : Option (Bool) :=
 (if decide ((↑x.length : Int) < 1) = false then some (x, decide (5 < (↑x.length : Int)), ()) else some (x, true, ())).bind
  fun (v0 : List (Int × List UInt8 × Int × List UInt8 × Unit) × Bool × Unit) =>
  if v0.2.1 = true then some false
  else
   (loopM (M_conciergeref23_May_l0 F)
      F (v0.1, 0, ())).bind
    fun (v6 : Unit ⊕ Bool × Unit) => sumC v6 (fun (v7 : Unit) => some true) fun (v8 : Bool × Unit) => some v8.1
theorem t_conciergeref23_May (x : (List (El .ph))) (F : Nat) : fnRun TT Tryz.prog (e_conciergeref23_May F) s_conciergeref23_May (bodyOf 34) F x = M_conciergeref23_May F x := by kernel_rfl
theorem c_conciergeref23_May (F : Nat) : Ctr TT Tryz.prog 34 (conOf TT s_conciergeref23_May (M_conciergeref23_May F)) :=
 ctr_of (code := bodyOf 34) Tryz.func34 (by kernel_rfl) (by kernel_rfl) (by kernel_rfl) (by kernel_rfl) (envS_ok envN_ok (c_conciergeref23_phase F)) hm (by kernel_rfl) (fun x r h => ⟨F, (t_conciergeref23_May x F).trans h⟩)
noncomputable def s_conciergeref23_behind : Spec Kd := { params := [(.a .str)], ret := (.one (.a .str)), pins := [], pl := { nt := 7 }, rfrz := [], ts := [2] }
noncomputable def e_conciergeref23_behind (F : Nat) : Env El := envN
noncomputable def M_conciergeref23_behind (F : Nat) (x : (List UInt8)) : Option (List UInt8) :=
 if decide (x = []) = true then some [] else if decide ([32].length + x.length ≤ 9223372036854775807) = true then some ([32] ++ x) else none
theorem t_conciergeref23_behind (x : (List UInt8)) (F : Nat) : fnRun TT Tryz.prog (e_conciergeref23_behind F) s_conciergeref23_behind (bodyOf 145) F x = M_conciergeref23_behind F x := by kernel_rfl
theorem c_conciergeref23_behind (F : Nat) : Ctr TT Tryz.prog 145 (conOf TT s_conciergeref23_behind (M_conciergeref23_behind F)) :=
 ctr_of (code := bodyOf 145) Tryz.func145 (by kernel_rfl) (by kernel_rfl) (by kernel_rfl) (by kernel_rfl) envN_ok hm (by kernel_rfl) (fun x r h => ⟨F, (t_conciergeref23_behind x F).trans h⟩)
noncomputable def s_conciergeref23_Text : Spec Kd := { params := [(.agg [(.int .i64), .str, (.int .i64), .str])], ret := (.one (.a .str)), pins := [], pl := { nt := 39, ends := [(7, ⟨[.tmp 2 (.a .str)], [], []⟩), (6, ⟨[.tmp 2 (.a .str)], [], []⟩), (4, ⟨[.tmp 2 (.a .str)], [], []⟩)] }, rfrz := [], ts := [2] }
noncomputable def e_conciergeref23_Text (F : Nat) : Env El := (envS 145 (conOf TT s_conciergeref23_behind (M_conciergeref23_behind F)) (envS 144 (conOf TT s_conciergeref09_Decimal (M_conciergeref09_Decimal F)) envN))
noncomputable def M_conciergeref23_Text (F : Nat) (x : ((Int) × (List UInt8) × (Int) × (List UInt8) × Unit)) : Option (List UInt8) :=
 if decide (x.1 = 1) = true then
  (M_conciergeref09_Decimal F x.2.2.1).bind fun (v0 : List UInt8) =>
   if decide ([111, 110, 108, 121, 32].length + v0.length ≤ 9223372036854775807) = true then some ([111, 110, 108, 121, 32] ++ v0) else none
 else
  if decide (x.1 = 2) = true then
   (if decide ([110, 101, 101, 100, 32].length + x.2.1.length ≤ 9223372036854775807) = true then
      if decide (([110, 101, 101, 100, 32] ++ x.2.1).length + [32].length ≤ 9223372036854775807) = true then
       (M_conciergeref09_Decimal F x.2.2.1).bind fun (v1 : List UInt8) =>
        if decide (([110, 101, 101, 100, 32] ++ x.2.1 ++ [32]).length + v1.length ≤ 9223372036854775807) = true then
         some ([110, 101, 101, 100, 32] ++ x.2.1 ++ [32] ++ v1, ())
        else none
      else none
     else none).bind
    fun (v2 : List UInt8 × Unit) => some v2.1
  else
   if decide (x.1 = 3) = true then
    (if decide ([99, 97, 108, 108, 32].length + x.2.1.length ≤ 9223372036854775807) = true then
       (M_conciergeref23_behind F x.2.2.2.1).bind fun (v3 : List UInt8) =>
        if decide (([99, 97, 108, 108, 32] ++ x.2.1).length + v3.length ≤ 9223372036854775807) = true then
         some ([99, 97, 108, 108, 32] ++ x.2.1 ++ v3, ())
        else none
      else none).bind
     fun (v4 : List UInt8 × Unit) => some v4.1
   else
    ((M_conciergeref09_Decimal F x.2.2.1).bind fun (v5 : List UInt8) =>
       if decide ([101, 110, 100, 32].length + v5.length ≤ 9223372036854775807) = true then
        (M_conciergeref23_behind F x.2.2.2.1).bind fun (v6 : List UInt8) =>
         if decide (([101, 110, 100, 32] ++ v5).length + v6.length ≤ 9223372036854775807) = true then some ([101, 110, 100, 32] ++ v5 ++ v6, ())
         else none
       else none).bind
     fun (v7 : List UInt8 × Unit) => some v7.1
theorem t_conciergeref23_Text (x : ((Int) × (List UInt8) × (Int) × (List UInt8) × Unit)) (F : Nat) : fnRun TT Tryz.prog (e_conciergeref23_Text F) s_conciergeref23_Text (bodyOf 78) F x = M_conciergeref23_Text F x := by kernel_rfl
theorem c_conciergeref23_Text (F : Nat) : Ctr TT Tryz.prog 78 (conOf TT s_conciergeref23_Text (M_conciergeref23_Text F)) :=
 ctr_of (code := bodyOf 78) Tryz.func78 (by kernel_rfl) (by kernel_rfl) (by kernel_rfl) (by kernel_rfl) (envS_ok (envS_ok envN_ok (c_conciergeref09_Decimal F)) (c_conciergeref23_behind F)) hm (by kernel_rfl) (fun x r h => ⟨F, (t_conciergeref23_Text x F).trans h⟩)
noncomputable def s_conciergeref23_Print : Spec Kd := { params := [(.a (.slc .ph))], ret := (.one (.a .str)), pins := [], pl := { nt := 23, joins := [(700012, (.norm, ⟨[.tmp 0 (.a (.slc .ph)), .tmp 3 (.a .str), .tmp 4 (.a (.int .i64))], [], []⟩), [])], loops := [(0, ⟨[.tmp 0 (.a (.slc .ph)), .tmp 3 (.a .str), .tmp 4 (.a (.int .i64))], [], []⟩, (.exit 0, ⟨[.tmp 3 (.a .str)], [], []⟩), [])] }, rfrz := [], ts := [2] }
noncomputable def e_conciergeref23_Print (F : Nat) : Env El := (envS 78 (conOf TT s_conciergeref23_Text (M_conciergeref23_Text F)) envN)
noncomputable def M_conciergeref23_Print_l0 (F : Nat) (v0 : (List (Int × List UInt8 × Int × List UInt8 × Unit) × List UInt8 × Int × Unit)) : Option ((List (Int × List UInt8 × Int × List UInt8 × Unit) × List UInt8 × Int × Unit) ⊕ (List UInt8 × Unit)) :=
 if decide (v0.2.2.1 < (↑v0.1.length : Int)) = true then
     (if decide (0 < v0.2.2.1) = true then
        if decide (v0.2.1.length + [59, 32].length ≤ 9223372036854775807) = true then some (v0.1, v0.2.1 ++ [59, 32], v0.2.2.1, ()) else none
       else some (v0.1, v0.2.1, v0.2.2.1, ())).bind
      fun (v1 : List (Int × List UInt8 × Int × List UInt8 × Unit) × List UInt8 × Int × Unit) =>
      (idx v1.1 v1.2.2.1).bind fun (v2 : Int × List UInt8 × Int × List UInt8 × Unit) =>
       (M_conciergeref23_Text F (v2.1, v2.2.1, v2.2.2.1, v2.2.2.2.1, ())).bind fun (v3 : List UInt8) =>
        if decide (v1.2.1.length + v3.length ≤ 9223372036854775807) = true then some (Sum.inl (v1.1, v1.2.1 ++ v3, IntKind.i64.wrap (v1.2.2.1 + 1), ()))
        else none
    else some (Sum.inr (v0.2.1, ()))
noncomputable def M_conciergeref23_Print (F : Nat) (x : (List (El .ph))) : Option (List UInt8) :=
 (loopM (M_conciergeref23_Print_l0 F)
    F (x, [], 0, ())).bind
  fun (v4 : List UInt8 × Unit) => some v4.1
theorem t_conciergeref23_Print (x : (List (El .ph))) (F : Nat) : fnRun TT Tryz.prog (e_conciergeref23_Print F) s_conciergeref23_Print (bodyOf 37) F x = M_conciergeref23_Print F x := by kernel_rfl
theorem c_conciergeref23_Print (F : Nat) : Ctr TT Tryz.prog 37 (conOf TT s_conciergeref23_Print (M_conciergeref23_Print F)) :=
 ctr_of (code := bodyOf 37) Tryz.func37 (by kernel_rfl) (by kernel_rfl) (by kernel_rfl) (by kernel_rfl) (envS_ok envN_ok (c_conciergeref23_Text F)) hm (by kernel_rfl) (fun x r h => ⟨F, (t_conciergeref23_Print x F).trans h⟩)
end Go.Vm
