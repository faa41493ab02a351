import Derived.Test.YtihpjgcbmipdbaaGreatDoorKt
import Derived.Test.YtihpjgcbmipdbaaGreatDoorFref4
/- Models of functions of the program, and that each keeps its contract: for all arguments of its shape. No condition. -/
namespace Go.Vm
open Go.Proofs
set_option linter.unusedVariables false
end Go.Vm
/- Models of functions of the program, and that each keeps its contract: for all arguments of its shape. No condition. -/
namespace Go.Vm
open Go.Proofs
set_option linter.unusedVariables false
end Go.Vm
/- Models of functions of the program, and that each keeps its contract: for all arguments of its shape. No condition. -/
namespace Go.Vm
open Go.Proofs
set_option linter.unusedVariables false
noncomputable def s_conciergeref22_Name : Spec Kd := { params := [(.a .str)], ret := (.one (.a .bool)), pins := [], pl := { nt := 41, loops := [(0, ⟨[.tmp 0 (.a .str), .tmp 3 (.a (.int .i64))], [], []⟩, (.exit 0, ⟨[.tmp 0 (.a .str)], [], []⟩), [(.ret, ⟨[.tmp 2 (.a .bool)], [], []⟩)])], cuts := [(6, [(8, ⟨[.tmp 40 (.a .bool)], [], []⟩)]), (4, [(10, ⟨[.tmp 0 (.a .str), .tmp 3 (.a (.int .i64)), .tmp 19 (.a .bool)], [], []⟩), (12, ⟨[.tmp 0 (.a .str), .tmp 3 (.a (.int .i64)), .tmp 31 (.a .bool)], [], []⟩)])] }, rfrz := [], ts := [2] }
noncomputable def e_conciergeref22_Name (F : Nat) : Env El := envN
noncomputable def M_conciergeref22_Name_l0 (F : Nat) (v0 : (List UInt8 × Int × Unit)) : Option ((List UInt8 × Int × Unit) ⊕ (List UInt8 × Unit ⊕ Bool × Unit)) :=
 if decide (v0.2.1 < (↑v0.1.length : Int)) = true then
     ((idx v0.1 v0.2.1).bind fun v1 =>
        if decide (97 ≤ (↑v1.toNat : Int)) = true then (idx v0.1 v0.2.1).bind fun v2 => some (v0.1, v0.2.1, decide ((↑v2.toNat : Int) ≤ 122), ())
        else some (v0.1, v0.2.1, false, ())).bind
      fun v3 =>
      (if v3.2.2.1 = false then
         (idx v3.1 v3.2.1).bind fun v4 =>
          if decide (48 ≤ (↑v4.toNat : Int)) = true then (idx v3.1 v3.2.1).bind fun v5 => some (v3.1, v3.2.1, decide ((↑v5.toNat : Int) ≤ 57), ())
          else some (v3.1, v3.2.1, false, ())
        else some (v3.1, v3.2.1, true, ())).bind
       fun v6 => if (!v6.2.2.1) = true then some (Sum.inr (Sum.inr (false, ()))) else some (Sum.inl (v6.1, IntKind.i64.wrap (v6.2.1 + 1), ()))
    else some (Sum.inr (Sum.inl (v0.1, ())))
noncomputable def M_conciergeref22_Name (F : Nat) (x : (List UInt8)) : Option (Bool) :=
 (loopM (M_conciergeref22_Name_l0 F)
    F (x, 0, ())).bind
  fun v7 =>
  sumC v7
   (fun v8 => (if decide (1 ≤ (↑v8.1.length : Int)) = true then some (decide ((↑v8.1.length : Int) ≤ 12), ()) else some (false, ())).bind fun v9 => some v9.1)
   fun v10 => some v10.1
theorem t_conciergeref22_Name (x : (List UInt8)) (F : Nat) : fnRun TT Tryz.prog (e_conciergeref22_Name F) s_conciergeref22_Name (bodyOf 138) F x = M_conciergeref22_Name F x := by kernel_rfl
theorem c_conciergeref22_Name (F : Nat) : Ctr TT Tryz.prog 138 (conOf TT s_conciergeref22_Name (M_conciergeref22_Name F)) :=
 ctr_of (code := bodyOf 138) Tryz.func138 (by kernel_rfl) (by kernel_rfl) (by kernel_rfl) (by kernel_rfl) envN_ok hm (by kernel_rfl) (fun x r h => ⟨F, (t_conciergeref22_Name x F).trans h⟩)
noncomputable def s_conciergeref22_gap : Spec Kd := { params := [(.a .str)], ret := (.one (.a (.int .i64))), pins := [], pl := { nt := 58, loops := [(0, ⟨[.tmp 0 (.a .str), .tmp 3 (.a (.int .i64))], [], []⟩, (.exit 0, ⟨[.tmp 0 (.a .str), .tmp 3 (.a (.int .i64))], [], []⟩), [])], cuts := [(10, [(11, ⟨[.tmp 3 (.a (.int .i64)), .tmp 55 (.a .bool)], [], []⟩)]), (8, [(10, ⟨[.tmp 0 (.a .str), .tmp 3 (.a (.int .i64)), .tmp 42 (.a .bool)], [], []⟩)]), (3, [(8, ⟨[.tmp 0 (.a .str), .tmp 14 (.a .bool)], [], []⟩), (5, ⟨[.tmp 0 (.a .str), .tmp 19 (.a .bool)], [], []⟩), (5, ⟨[.tmp 0 (.a .str), .tmp 24 (.a .bool)], [], []⟩), (5, ⟨[.tmp 0 (.a .str), .tmp 29 (.a .bool)], [], []⟩)])] }, rfrz := [], ts := [2] }
noncomputable def e_conciergeref22_gap (F : Nat) : Env El := (envS 138 (conOf TT s_conciergeref22_Name (M_conciergeref22_Name F)) envN)
noncomputable def M_conciergeref22_gap_l0 (F : Nat) (v10 : (List UInt8 × Int × Unit)) : Option ((List UInt8 × Int × Unit) ⊕ (List UInt8 × Int × Unit)) :=
 (if decide (v10.2.1 < (↑v10.1.length : Int)) = true then
               (idx v10.1 v10.2.1).bind fun v11 => some (v10.1, v10.2.1, !decide ((↑v11.toNat : Int) = 125), ())
              else some (v10.1, v10.2.1, false, ())).bind
             fun v12 =>
             if v12.2.2.1 = true then some (Sum.inl (v12.1, IntKind.i64.wrap (v12.2.1 + 1), ())) else some (Sum.inr (v12.1, v12.2.1, ()))
noncomputable def M_conciergeref22_gap (F : Nat) (x : (List UInt8)) : Option (Int) :=
 if decide ((↑x.length : Int) < 2) = true then some 0
 else
  ((idx x 1).bind fun v0 =>
     if decide ((↑v0.toNat : Int) = 37) = false then (idx x 1).bind fun v1 => some (x, decide ((↑v1.toNat : Int) = 98), ()) else some (x, true, ())).bind
   fun v2 =>
   (if v2.2.1 = false then (idx v2.1 1).bind fun v3 => some (v2.1, decide ((↑v3.toNat : Int) = 107), ()) else some (v2.1, true, ())).bind fun v4 =>
    (if v4.2.1 = false then (idx v4.1 1).bind fun v5 => some (v4.1, decide ((↑v5.toNat : Int) = 109), ()) else some (v4.1, true, ())).bind fun v6 =>
     (if v6.2.1 = false then (idx v6.1 1).bind fun v7 => some (v6.1, decide ((↑v7.toNat : Int) = 112), ()) else some (v6.1, true, ())).bind fun v8 =>
      if v8.2.1 = true then some 2
      else
       (idx v8.1 1).bind fun v9 =>
        if (!decide ((↑v9.toNat : Int) = 123)) = true then some 0
        else
         (loopM (M_conciergeref22_gap_l0 F)
            F (v8.1, 2, ())).bind
          fun v13 =>
          (if decide (v13.2.1 = (↑v13.1.length : Int)) = false then
             (sub v13.1 2 v13.2.1).bind fun v14 => (M_conciergeref22_Name F v14).bind fun v15 => some (v13.2.1, !v15, ())
            else some (v13.2.1, true, ())).bind
           fun v16 => if v16.2.1 = true then some 0 else some (IntKind.i64.wrap (v16.1 + 1))
theorem t_conciergeref22_gap (x : (List UInt8)) (F : Nat) : fnRun TT Tryz.prog (e_conciergeref22_gap F) s_conciergeref22_gap (bodyOf 135) F x = M_conciergeref22_gap F x := by kernel_rfl
theorem c_conciergeref22_gap (F : Nat) : Ctr TT Tryz.prog 135 (conOf TT s_conciergeref22_gap (M_conciergeref22_gap F)) :=
 ctr_of (code := bodyOf 135) Tryz.func135 (by kernel_rfl) (by kernel_rfl) (by kernel_rfl) (by kernel_rfl) (envS_ok envN_ok (c_conciergeref22_Name F)) hm (by kernel_rfl) (fun x r h => ⟨F, (t_conciergeref22_gap x F).trans h⟩)
noncomputable def s_conciergeref22_Check : Spec Kd := { params := [(.a .str)], ret := (.one (.a .bool)), pins := [], pl := { nt := 47, loops := [(2, ⟨[.tmp 0 (.a .str), .tmp 6 (.a (.int .i64))], [641, 642], []⟩, (.exit 2, ⟨[.tmp 0 (.a .str)], [641, 642], []⟩), [(.ret, ⟨[.tmp 2 (.a .bool)], [641, 642], []⟩)]), (0, ⟨[.tmp 0 (.a .str), .tmp 3 (.a (.slc .i64)), .tmp 5 (.a (.int .i64))], [641, 642], []⟩, (.exit 0, ⟨[.tmp 0 (.a .str)], [641, 642], []⟩), [(.ret, ⟨[.tmp 2 (.a .bool)], [641, 642], []⟩)])] }, rfrz := [], ts := [2] }
noncomputable def e_conciergeref22_Check (F : Nat) : Env El := (envS 135 (conOf TT s_conciergeref22_gap (M_conciergeref22_gap F)) (envS 133 (conOf TT s_conciergeref04_Sort (M_conciergeref04_Sort F)) (envS 132 (conOf TT s_conciergeref04_Signs (M_conciergeref04_Signs F)) envN)))
noncomputable def M_conciergeref22_Check_l0 (F : Nat) (v1 : (List UInt8 × List Int × Int × Unit)) : Option ((List UInt8 × List Int × Int × Unit) ⊕ (List UInt8 × Unit ⊕ Bool × Unit)) :=
 if decide (v1.2.2.1 < (↑v1.2.1.length : Int)) = true then
      (idx v1.2.1 v1.2.2.1).bind fun v2 =>
       (M_conciergeref04_Sort F v2).bind fun v3 =>
        if decide (v3 = 0) = true then some (Sum.inr (Sum.inr (false, ()))) else some (Sum.inl (v1.1, v1.2.1, IntKind.i64.wrap (v1.2.2.1 + 1), ()))
     else some (Sum.inr (Sum.inl (v1.1, ())))
noncomputable def M_conciergeref22_Check_l1 (F : Nat) (v6 : (List UInt8 × Int × Unit)) : Option ((List UInt8 × Int × Unit) ⊕ (List UInt8 × Unit ⊕ Bool × Unit)) :=
 if decide (v6.2.1 < (↑v6.1.length : Int)) = true then
         (idx v6.1 v6.2.1).bind fun v7 =>
          if (!decide ((↑v7.toNat : Int) = 37)) = true then some (Sum.inl (v6.1, IntKind.i64.wrap (v6.2.1 + 1), ()))
          else
           (sub v6.1 v6.2.1 (↑v6.1.length : Int)).bind fun v8 =>
            (M_conciergeref22_gap F v8).bind fun v9 =>
             if decide (v9 = 0) = true then some (Sum.inr (Sum.inr (false, ()))) else some (Sum.inl (v6.1, IntKind.i64.wrap (v6.2.1 + v9), ()))
        else some (Sum.inr (Sum.inl (v6.1, ())))
noncomputable def M_conciergeref22_Check (F : Nat) (x : (List UInt8)) : Option (Bool) :=
 (M_conciergeref04_Signs F x).bind fun v0 =>
  (loopM (M_conciergeref22_Check_l0 F)
     F (x, v0.1, 0, ())).bind
   fun v4 =>
   sumC v4
    (fun v5 =>
     (loopM (M_conciergeref22_Check_l1 F)
        F (v5.1, 0, ())).bind
      fun v10 => sumC v10 (fun v11 => some (decide ((↑v11.1.length : Int) ≤ 60))) fun v12 => some v12.1)
    fun v13 => some v13.1
theorem t_conciergeref22_Check (x : (List UInt8)) (F : Nat) : fnRun TT Tryz.prog (e_conciergeref22_Check F) s_conciergeref22_Check (bodyOf 134) F x = M_conciergeref22_Check F x := by kernel_rfl
theorem c_conciergeref22_Check (F : Nat) : Ctr TT Tryz.prog 134 (conOf TT s_conciergeref22_Check (M_conciergeref22_Check F)) :=
 ctr_of (code := bodyOf 134) Tryz.func134 (by kernel_rfl) (by kernel_rfl) (by kernel_rfl) (by kernel_rfl) (envS_ok (envS_ok (envS_ok envN_ok (c_conciergeref04_Signs F)) (c_conciergeref04_Sort F)) (c_conciergeref22_gap F)) hm (by kernel_rfl) (fun x r h => ⟨F, (t_conciergeref22_Check x F).trans h⟩)
end Go.Vm
