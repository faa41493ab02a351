/- Models of functions of the program, and that each keeps its contract: for all arguments of its shape. No condition. -/
import Derived.Test.YtihpjgcbmipdbaaGreatDoorKt
namespace Go.Vm
open Go.Proofs
set_option linter.unusedVariables false
noncomputable def s_conciergelaw23_Small : Spec Kd := { params := [(.a (.slc .ph))], ret := (.one (.a .bool)), pins := [], pl := { nt := 25, loops := [(0, ⟨[.tmp 8 (.a (.slc .ph)), .tmp 9 (.a (.int .i64)), .tmp 10 (.a (.int .i64))], [], []⟩, (.exit 0, ⟨[], [], []⟩), [(.ret, ⟨[.tmp 2 (.a .bool)], [], []⟩)])], cuts := [(6, [(10, ⟨[.tmp 8 (.a (.slc .ph)), .tmp 9 (.a (.int .i64)), .tmp 10 (.a (.int .i64)), .tmp 23 (.a .bool)], [], []⟩)])] }, rfrz := [], ts := [2] }
noncomputable def e_conciergelaw23_Small (F : Nat) : Env El := envN
noncomputable def M_conciergelaw23_Small_l0 (F : Nat) (v0 : (List (Int × List UInt8 × Int × List UInt8 × Unit) × Int × Int × Unit)) : Option ((List (Int × List UInt8 × Int × List UInt8 × Unit) × Int × Int × Unit) ⊕ (Unit ⊕ Bool × Unit)) :=
 if decide (v0.2.2.1 < v0.2.1) = true then
      (idx v0.1 v0.2.2.1).bind fun (v1 : Int × List UInt8 × Int × List UInt8 × Unit) =>
       (if decide (100 < (↑v1.2.1.length : Int)) = false then some (v0.1, v0.2.1, v0.2.2.1, decide (100 < (↑v1.2.2.2.1.length : Int)), ())
         else some (v0.1, v0.2.1, v0.2.2.1, true, ())).bind
        fun (v2 : List (Int × List UInt8 × Int × List UInt8 × Unit) × Int × Int × Bool × Unit) =>
        if v2.2.2.2.1 = true then some (Sum.inr (Sum.inr (false, ()))) else some (Sum.inl (v2.1, v2.2.1, IntKind.i64.wrap (v2.2.2.1 + 1), ()))
     else some (Sum.inr (Sum.inl ()))
noncomputable def M_conciergelaw23_Small (F : Nat) (x : (List (El .ph))) : Option (Bool) :=
 if decide (10 < (↑x.length : Int)) = true then some false
 else
  (loopM (M_conciergelaw23_Small_l0 F)
     F (x, (↑x.length : Int), 0, ())).bind
   fun (v3 : Unit ⊕ Bool × Unit) => sumC v3 (fun (v4 : Unit) => some true) fun (v5 : Bool × Unit) => some v5.1
theorem t_conciergelaw23_Small (x : (List (El .ph))) (F : Nat) : fnRun TT Tryz.prog (e_conciergelaw23_Small F) s_conciergelaw23_Small (bodyOf 29) F x = M_conciergelaw23_Small F x := by kernel_rfl
theorem c_conciergelaw23_Small (F : Nat) : Ctr TT Tryz.prog 29 (conOf TT s_conciergelaw23_Small (M_conciergelaw23_Small F)) :=
 ctr_of (code := bodyOf 29) Tryz.func29 (by kernel_rfl) (by kernel_rfl) (by kernel_rfl) (by kernel_rfl) envN_ok hm (by kernel_rfl) (fun x r h => ⟨F, (t_conciergelaw23_Small x F).trans h⟩)
end Go.Vm
