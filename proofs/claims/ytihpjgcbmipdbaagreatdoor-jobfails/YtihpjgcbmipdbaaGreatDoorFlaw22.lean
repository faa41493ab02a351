import Derived.Test.YtihpjgcbmipdbaaGreatDoorKt
import Derived.Test.YtihpjgcbmipdbaaGreatDoorFsort
import Derived.Test.YtihpjgcbmipdbaaGreatDoorFnums
import Derived.Test.YtihpjgcbmipdbaaGreatDoorFphr
/- Models of functions of the program, and that each keeps its contract: for all arguments of its shape. No condition. -/
namespace Go.Vm
open Go.Proofs
set_option linter.unusedVariables false
end Go.Vm
/- Models of functions of the program, and that each keeps its contract: for all arguments of its shape. No condition. -/
namespace Go.Vm
open Go.Proofs
set_option linter.unusedVariables false
end Go.Vm
/- Models of functions of the program, and that each keeps its contract: for all arguments of its shape. No condition. -/
namespace Go.Vm
open Go.Proofs
set_option linter.unusedVariables false
end Go.Vm
/- Models of functions of the program, and that each keeps its contract: for all arguments of its shape. No condition. -/
namespace Go.Vm
open Go.Proofs
set_option linter.unusedVariables false
end Go.Vm
/- Models of functions of the program, and that each keeps its contract: for all arguments of its shape. No condition. -/
namespace Go.Vm
open Go.Proofs
set_option linter.unusedVariables false
end Go.Vm
/- Models of functions of the program, and that each keeps its contract: for all arguments of its shape. No condition. -/
namespace Go.Vm
open Go.Proofs
set_option linter.unusedVariables false
end Go.Vm
/- Models of functions of the program, and that each keeps its contract: for all arguments of its shape. No condition. -/
namespace Go.Vm
open Go.Proofs
set_option linter.unusedVariables false
end Go.Vm
/- Models of functions of the program, and that each keeps its contract: for all arguments of its shape. No condition. -/
namespace Go.Vm
open Go.Proofs
set_option linter.unusedVariables false
end Go.Vm
/- Models of functions of the program, and that each keeps its contract: for all arguments of its shape. No condition. -/
namespace Go.Vm
open Go.Proofs
set_option linter.unusedVariables false
noncomputable def s_conciergeref23_Calls : Spec Kd := { params := [(.a (.slc .ph)), (.a (.int .i64))], ret := (.one (.a (.int .i64))), pins := [], pl := { nt := 27, bjoins := [(1, (.norm, ⟨[.tmp 0 (.a (.slc .ph)), .tmp 1 (.a (.int .i64)), .tmp 5 (.a (.int .i64)), .tmp 6 (.a (.int .i64))], [], []⟩), [])], loops := [(0, ⟨[.tmp 0 (.a (.slc .ph)), .tmp 1 (.a (.int .i64)), .tmp 5 (.a (.int .i64)), .tmp 6 (.a (.int .i64))], [], []⟩, (.exit 0, ⟨[.tmp 5 (.a (.int .i64))], [], []⟩), [])], cuts := [(3, [(9, ⟨[.tmp 0 (.a (.slc .ph)), .tmp 1 (.a (.int .i64)), .tmp 5 (.a (.int .i64)), .tmp 6 (.a (.int .i64)), .tmp 15 (.a .bool)], [], []⟩)])] }, rfrz := [], ts := [4] }
noncomputable def e_conciergeref23_Calls (F : Nat) : Env El := envN
noncomputable def M_conciergeref23_Calls_l0 (F : Nat) (v0 : (List (Int × List UInt8 × Int × List UInt8 × Unit) × Int × Int × Int × Unit)) : Option ((List (Int × List UInt8 × Int × List UInt8 × Unit) × Int × Int × Int × Unit) ⊕ (Int × Unit)) :=
 (if decide (v0.2.2.2.1 < (↑v0.1.length : Int)) = true then some (v0.1, v0.2.1, v0.2.2.1, v0.2.2.2.1, decide (v0.2.2.2.1 < v0.2.1), ())
      else some (v0.1, v0.2.1, v0.2.2.1, v0.2.2.2.1, false, ())).bind
     fun (v1 : List (Int × List UInt8 × Int × List UInt8 × Unit) × Int × Int × Int × Bool × Unit) =>
     if v1.2.2.2.2.1 = true then
      ((idx v1.1 v1.2.2.2.1).bind fun (v2 : Int × List UInt8 × Int × List UInt8 × Unit) =>
         if decide (v2.1 = 3) = true then some (v1.1, v1.2.1, IntKind.i64.wrap (v1.2.2.1 + 1), v1.2.2.2.1, ())
         else some (v1.1, v1.2.1, v1.2.2.1, v1.2.2.2.1, ())).bind
       fun (v3 : List (Int × List UInt8 × Int × List UInt8 × Unit) × Int × Int × Int × Unit) =>
       some (Sum.inl (v3.1, v3.2.1, v3.2.2.1, IntKind.i64.wrap (v3.2.2.2.1 + 1), ()))
     else some (Sum.inr (v1.2.2.1, ()))
noncomputable def M_conciergeref23_Calls (F : Nat) (x : (List (El .ph)) × (Int)) : Option (Int) :=
 (loopM (M_conciergeref23_Calls_l0 F)
    F (x.1, x.2, 0, 0, ())).bind
  fun (v4 : Int × Unit) => some v4.1
theorem t_conciergeref23_Calls (x : (List (El .ph)) × (Int)) (F : Nat) : fnRun TT Tryz.prog (e_conciergeref23_Calls F) s_conciergeref23_Calls (bodyOf 33) F x = M_conciergeref23_Calls F x := by kernel_rfl
theorem c_conciergeref23_Calls (F : Nat) : Ctr TT Tryz.prog 33 (conOf TT s_conciergeref23_Calls (M_conciergeref23_Calls F)) :=
 ctr_of (code := bodyOf 33) Tryz.func33 (by kernel_rfl) (by kernel_rfl) (by kernel_rfl) (by kernel_rfl) envN_ok hm (by kernel_rfl) (fun x r h => ⟨F, (t_conciergeref23_Calls x F).trans h⟩)
end Go.Vm
/- Models of functions of the program, and that each keeps its contract: for all arguments of its shape. No condition. -/
namespace Go.Vm
open Go.Proofs
set_option linter.unusedVariables false
end Go.Vm
/- Models of functions of the program, and that each keeps its contract: for all arguments of its shape. No condition. -/
namespace Go.Vm
open Go.Proofs
set_option linter.unusedVariables false
noncomputable def s_conciergelaw23_Small : Spec Kd := { params := [(.a (.slc .ph))], ret := (.one (.a .bool)), pins := [], pl := { nt := 25, loops := [(0, ⟨[.tmp 8 (.a (.slc .ph)), .tmp 9 (.a (.int .i64)), .tmp 10 (.a (.int .i64))], [], []⟩, (.exit 0, ⟨[], [], []⟩), [(.ret, ⟨[.tmp 2 (.a .bool)], [], []⟩)])], cuts := [(6, [(10, ⟨[.tmp 8 (.a (.slc .ph)), .tmp 9 (.a (.int .i64)), .tmp 10 (.a (.int .i64)), .tmp 23 (.a .bool)], [], []⟩)])] }, rfrz := [], ts := [2] }
noncomputable def e_conciergelaw23_Small (F : Nat) : Env El := envN
noncomputable def M_conciergelaw23_Small_l0 (F : Nat) (v0 : (List (Int × List UInt8 × Int × List UInt8 × Unit) × Int × Int × Unit)) : Option ((List (Int × List UInt8 × Int × List UInt8 × Unit) × Int × Int × Unit) ⊕ (Unit ⊕ Bool × Unit)) :=
 if decide (v0.2.2.1 < v0.2.1) = true then
      (idx v0.1 v0.2.2.1).bind fun (v1 : Int × List UInt8 × Int × List UInt8 × Unit) =>
       (if decide (100 < (↑v1.2.1.length : Int)) = false then some (v0.1, v0.2.1, v0.2.2.1, decide (100 < (↑v1.2.2.2.1.length : Int)), ())
         else some (v0.1, v0.2.1, v0.2.2.1, true, ())).bind
        fun (v2 : List (Int × List UInt8 × Int × List UInt8 × Unit) × Int × Int × Bool × Unit) =>
        if v2.2.2.2.1 = true then some (Sum.inr (Sum.inr (false, ()))) else some (Sum.inl (v2.1, v2.2.1, IntKind.i64.wrap (v2.2.2.1 + 1), ()))
     else some (Sum.inr (Sum.inl ()))
noncomputable def M_conciergelaw23_Small (F : Nat) (x : (List (El .ph))) : Option (Bool) :=
 if decide (10 < (↑x.length : Int)) = true then some false
 else
  (loopM (M_conciergelaw23_Small_l0 F)
     F (x, (↑x.length : Int), 0, ())).bind
   fun (v3 : Unit ⊕ Bool × Unit) => sumC v3 (fun (v4 : Unit) => some true) fun (v5 : Bool × Unit) => some v5.1
theorem t_conciergelaw23_Small (x : (List (El .ph))) (F : Nat) : fnRun TT Tryz.prog (e_conciergelaw23_Small F) s_conciergelaw23_Small (bodyOf 29) F x = M_conciergelaw23_Small F x := by kernel_rfl
theorem c_conciergelaw23_Small (F : Nat) : Ctr TT Tryz.prog 29 (conOf TT s_conciergelaw23_Small (M_conciergelaw23_Small F)) :=
 ctr_of (code := bodyOf 29) Tryz.func29 (by kernel_rfl) (by kernel_rfl) (by kernel_rfl) (by kernel_rfl) envN_ok hm (by kernel_rfl) (fun x r h => ⟨F, (t_conciergelaw23_Small x F).trans h⟩)
end Go.Vm
/- Models of functions of the program, and that each keeps its contract: for all arguments of its shape. No condition. -/
namespace Go.Vm
open Go.Proofs
set_option linter.unusedVariables false
noncomputable def s_conciergelaw18_Small : Spec Kd := { params := [(.a (.slc .rd)), (.a (.int .i64))], ret := (.one (.a .bool)), pins := [], pl := { nt := 55, loops := [(0, ⟨[.tmp 12 (.a (.slc .rd)), .tmp 13 (.a (.int .i64)), .tmp 14 (.a (.int .i64))], [], []⟩, (.exit 0, ⟨[], [], []⟩), [(.ret, ⟨[.tmp 4 (.a .bool)], [], []⟩)])], cuts := [(7, [(10, ⟨[.tmp 7 (.a (.ptr 448 0)), .tmp 12 (.a (.slc .rd)), .tmp 13 (.a (.int .i64)), .tmp 14 (.a (.int .i64)), .tmp 29 (.a .bool), .box 448 (.cells 35 [(.int .i64), .str, (.int .i64), (.int .i64), (.int .i64), (.int .i64), .str, (.int .i64), (.int .i64), (.int .i64), .str, .str, .str, .str])], [], []⟩), (6, ⟨[.tmp 7 (.a (.ptr 448 0)), .tmp 12 (.a (.slc .rd)), .tmp 13 (.a (.int .i64)), .tmp 14 (.a (.int .i64)), .tmp 35 (.a .bool), .box 448 (.cells 35 [(.int .i64), .str, (.int .i64), (.int .i64), (.int .i64), (.int .i64), .str, (.int .i64), (.int .i64), (.int .i64), .str, .str, .str, .str])], [], []⟩), (6, ⟨[.tmp 7 (.a (.ptr 448 0)), .tmp 12 (.a (.slc .rd)), .tmp 13 (.a (.int .i64)), .tmp 14 (.a (.int .i64)), .tmp 41 (.a .bool), .box 448 (.cells 35 [(.int .i64), .str, (.int .i64), (.int .i64), (.int .i64), (.int .i64), .str, (.int .i64), (.int .i64), (.int .i64), .str, .str, .str, .str])], [], []⟩), (6, ⟨[.tmp 7 (.a (.ptr 448 0)), .tmp 12 (.a (.slc .rd)), .tmp 13 (.a (.int .i64)), .tmp 14 (.a (.int .i64)), .tmp 47 (.a .bool), .box 448 (.cells 35 [(.int .i64), .str, (.int .i64), (.int .i64), (.int .i64), (.int .i64), .str, (.int .i64), (.int .i64), (.int .i64), .str, .str, .str, .str])], [], []⟩), (6, ⟨[.tmp 12 (.a (.slc .rd)), .tmp 13 (.a (.int .i64)), .tmp 14 (.a (.int .i64)), .tmp 53 (.a .bool)], [], []⟩)])] }, rfrz := [], ts := [4] }
noncomputable def e_conciergelaw18_Small (F : Nat) : Env El := envN
noncomputable def M_conciergelaw18_Small_l0 (F : Nat) (v0 : (List (Int × Int × List UInt8 × Int × Int × Int × Int × List UInt8 × Int × Int × Int × List UInt8 × List UInt8 × List UInt8 × List UInt8 × Unit) ×
     Int × Int × Unit)) : Option ((List (Int × Int × List UInt8 × Int × Int × Int × Int × List UInt8 × Int × Int × Int × List UInt8 × List UInt8 × List UInt8 × List UInt8 × Unit) ×
     Int × Int × Unit) ⊕ (Unit ⊕ Bool × Unit)) :=
 if decide (v0.2.2.1 < v0.2.1) = true then
      (idx v0.1 v0.2.2.1).bind fun v1 =>
       (if decide (100 < (↑v1.2.2.1.length : Int)) = false then
          some ((), v0.1, v0.2.1, v0.2.2.1, decide (100 < (↑v1.2.2.2.2.2.2.2.1.length : Int)), v1.2, ())
         else some ((), v0.1, v0.2.1, v0.2.2.1, true, v1.2, ())).bind
        fun v2 =>
        (if v2.2.2.2.2.1 = false then
           some ((), v2.2.1, v2.2.2.1, v2.2.2.2.1, decide (100 < (↑v2.2.2.2.2.2.1.2.2.2.2.2.2.2.2.2.2.1.length : Int)), v2.2.2.2.2.2.1, ())
          else some ((), v2.2.1, v2.2.2.1, v2.2.2.2.1, true, v2.2.2.2.2.2.1, ())).bind
         fun v3 =>
         (if v3.2.2.2.2.1 = false then
            some ((), v3.2.1, v3.2.2.1, v3.2.2.2.1, decide (100 < (↑v3.2.2.2.2.2.1.2.2.2.2.2.2.2.2.2.2.2.1.length : Int)), v3.2.2.2.2.2.1, ())
           else some ((), v3.2.1, v3.2.2.1, v3.2.2.2.1, true, v3.2.2.2.2.2.1, ())).bind
          fun v4 =>
          (if v4.2.2.2.2.1 = false then
             some ((), v4.2.1, v4.2.2.1, v4.2.2.2.1, decide (100 < (↑v4.2.2.2.2.2.1.2.2.2.2.2.2.2.2.2.2.2.2.1.length : Int)), v4.2.2.2.2.2.1, ())
            else some ((), v4.2.1, v4.2.2.1, v4.2.2.2.1, true, v4.2.2.2.2.2.1, ())).bind
           fun v5 =>
           (if v5.2.2.2.2.1 = false then
              some (v5.2.1, v5.2.2.1, v5.2.2.2.1, decide (100 < (↑v5.2.2.2.2.2.1.2.2.2.2.2.2.2.2.2.2.2.2.2.1.length : Int)), ())
             else some (v5.2.1, v5.2.2.1, v5.2.2.2.1, true, ())).bind
            fun v6 =>
            if v6.2.2.2.1 = true then some (Sum.inr (Sum.inr (false, ()))) else some (Sum.inl (v6.1, v6.2.1, IntKind.i64.wrap (v6.2.2.1 + 1), ()))
     else some (Sum.inr (Sum.inl ()))
noncomputable def M_conciergelaw18_Small (F : Nat) (x : (List (El .rd)) × (Int)) : Option (Bool) :=
 if decide (x.2 < (↑x.1.length : Int)) = true then some false
 else
  (loopM (M_conciergelaw18_Small_l0 F)
     F (x.1, (↑x.1.length : Int), 0, ())).bind
   fun v7 => sumC v7 (fun v8 => some true) fun v9 => some v9.1
theorem t_conciergelaw18_Small (x : (List (El .rd)) × (Int)) (F : Nat) : fnRun TT Tryz.prog (e_conciergelaw18_Small F) s_conciergelaw18_Small (bodyOf 21) F x = M_conciergelaw18_Small F x := by kernel_rfl
theorem c_conciergelaw18_Small (F : Nat) : Ctr TT Tryz.prog 21 (conOf TT s_conciergelaw18_Small (M_conciergelaw18_Small F)) :=
 ctr_of (code := bodyOf 21) Tryz.func21 (by kernel_rfl) (by kernel_rfl) (by kernel_rfl) (by kernel_rfl) envN_ok hm (by kernel_rfl) (fun x r h => ⟨F, (t_conciergelaw18_Small x F).trans h⟩)
end Go.Vm
