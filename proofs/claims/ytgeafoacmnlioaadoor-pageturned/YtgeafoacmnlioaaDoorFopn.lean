/- Models of functions of the program, and that each keeps its contract: for all arguments of its shape. No condition. -/
import Derived.Test.YtgeafoacmnlioaaDoorKt
namespace Go.Vm
open Go.Proofs
set_option linter.unusedVariables false
noncomputable def s_pack_Open : Spec Kd := { params := [(.a .str)], ret := (.one (.newb 102 [.str, .bool])), pins := [], pl := { nt := 6 }, rfrz := [], ts := [2] }
noncomputable def e_pack_Open (F : Nat) : Env El := envN
noncomputable def M_pack_Open (F : Nat) (x : (List UInt8)) : Option ((List UInt8) × (Bool) × Unit) :=
  some (x, false, ())
theorem t_pack_Open (x : (List UInt8)) (F : Nat) : fnRun TT Tryd.prog (e_pack_Open F) s_pack_Open (bodyOf 28) F x = M_pack_Open F x := by kernel_rfl
theorem c_pack_Open (F : Nat) : Ctr TT Tryd.prog 28 (conOf TT s_pack_Open (M_pack_Open F)) :=
  ctr_of (code := bodyOf 28) Tryd.func28 (by kernel_rfl) (by kernel_rfl) (by kernel_rfl) (by kernel_rfl) envN_ok hm (by kernel_rfl) (fun x r h => ⟨F, (t_pack_Open x F).trans h⟩)
theorem mo_pack_Open {F F' : Nat} (h : F ≤ F') : ∀ v, Le (M_pack_Open F v) (M_pack_Open F' v) := by
  intro v
  unfold M_pack_Open
  with_reducible repeat (first | (intro v) | exact Le.refl _ | exact h | apply Le.bind | apply Le.ite | apply Le.loop | apply Le.sumC)
noncomputable def s_pack_Opener_OK : Spec Kd := { params := [(.pin 102 [.str, .bool])], ret := (.one (.a .bool)), pins := [[.str, .bool]], pl := { nt := 12, cuts := [(1, [(9, ⟨[.tmp 0 (.a (.ptr 1 0)), .tmp 11 (.a .bool), .box 1 (.cells 102 [.str, .bool])], [], []⟩)])] }, rfrz := [], ts := [2] }
noncomputable def e_pack_Opener_OK (F : Nat) : Env El := envN
noncomputable def M_pack_Opener_OK (F : Nat) (x : ((List UInt8) × (Bool) × Unit)) : Option ((Bool) × ((List UInt8) × (Bool) × Unit)) :=
  some (!x.2.1, x.1, x.2.1, ())
theorem t_pack_Opener_OK (x : ((List UInt8) × (Bool) × Unit)) (F : Nat) : fnRun TT Tryd.prog (e_pack_Opener_OK F) s_pack_Opener_OK (bodyOf 63) F x = M_pack_Opener_OK F x := by kernel_rfl
theorem c_pack_Opener_OK (F : Nat) : Ctr TT Tryd.prog 63 (conOf TT s_pack_Opener_OK (M_pack_Opener_OK F)) :=
  ctr_of (code := bodyOf 63) Tryd.func63 (by kernel_rfl) (by kernel_rfl) (by kernel_rfl) (by kernel_rfl) envN_ok hm (by kernel_rfl) (fun x r h => ⟨F, (t_pack_Opener_OK x F).trans h⟩)
theorem mo_pack_Opener_OK {F F' : Nat} (h : F ≤ F') : ∀ v, Le (M_pack_Opener_OK F v) (M_pack_Opener_OK F' v) := by
  intro v
  unfold M_pack_Opener_OK
  with_reducible repeat (first | (intro v) | exact Le.refl _ | exact h | apply Le.bind | apply Le.ite | apply Le.loop | apply Le.sumC)
noncomputable def s_pack_Opener_Left : Spec Kd := { params := [(.pin 102 [.str, .bool])], ret := (.one (.a (.int .i64))), pins := [[.str, .bool]], pl := { nt := 11 }, rfrz := [], ts := [2] }
noncomputable def e_pack_Opener_Left (F : Nat) : Env El := (envS 63 (conOf TT s_pack_Opener_OK (M_pack_Opener_OK F)) envN)
noncomputable def M_pack_Opener_Left (F : Nat) (x : ((List UInt8) × (Bool) × Unit)) : Option ((Int) × ((List UInt8) × (Bool) × Unit)) :=
  (M_pack_Opener_OK F (x.1, x.2.1, ())).bind fun v0 =>
    if (!v0.1) = true then some (0, v0.2.1, v0.2.2.1, ()) else some ((↑v0.2.1.length : Int), v0.2.1, v0.2.2.1, ())
theorem t_pack_Opener_Left (x : ((List UInt8) × (Bool) × Unit)) (F : Nat) : fnRun TT Tryd.prog (e_pack_Opener_Left F) s_pack_Opener_Left (bodyOf 66) F x = M_pack_Opener_Left F x := by kernel_rfl
theorem c_pack_Opener_Left (F : Nat) : Ctr TT Tryd.prog 66 (conOf TT s_pack_Opener_Left (M_pack_Opener_Left F)) :=
  ctr_of (code := bodyOf 66) Tryd.func66 (by kernel_rfl) (by kernel_rfl) (by kernel_rfl) (by kernel_rfl) (envS_ok envN_ok (c_pack_Opener_OK F)) hm (by kernel_rfl) (fun x r h => ⟨F, (t_pack_Opener_Left x F).trans h⟩)
theorem mo_pack_Opener_Left {F F' : Nat} (h : F ≤ F') : ∀ v, Le (M_pack_Opener_Left F v) (M_pack_Opener_Left F' v) := by
  intro v
  unfold M_pack_Opener_Left
  with_reducible repeat (first | (intro v) | exact Le.refl _ | exact h | exact mo_pack_Opener_OK h _ | apply Le.bind | apply Le.ite | apply Le.loop | apply Le.sumC)
noncomputable def s_pack_Opener_Done : Spec Kd := { params := [(.pin 102 [.str, .bool])], ret := (.one (.a .bool)), pins := [[.str, .bool]], pl := { nt := 10, cuts := [(1, [(7, ⟨[.tmp 0 (.a (.ptr 1 0)), .tmp 9 (.a .bool), .box 1 (.cells 102 [.str, .bool])], [], []⟩)])] }, rfrz := [], ts := [2] }
noncomputable def e_pack_Opener_Done (F : Nat) : Env El := (envS 66 (conOf TT s_pack_Opener_Left (M_pack_Opener_Left F)) (envS 63 (conOf TT s_pack_Opener_OK (M_pack_Opener_OK F)) envN))
noncomputable def M_pack_Opener_Done (F : Nat) (x : ((List UInt8) × (Bool) × Unit)) : Option ((Bool) × ((List UInt8) × (Bool) × Unit)) :=
  ((M_pack_Opener_OK F (x.1, x.2.1, ())).bind fun v0 =>
        if v0.1 = true then (M_pack_Opener_Left F (v0.2.1, v0.2.2.1, ())).bind fun v1 => some ((), decide (v1.1 = 0), (v1.2.1, v1.2.2.1, ()), ())
        else some ((), false, (v0.2.1, v0.2.2.1, ()), ())).bind
    fun v2 => some (v2.2.1, v2.2.2.1.1, v2.2.2.1.2.1, ())
theorem t_pack_Opener_Done (x : ((List UInt8) × (Bool) × Unit)) (F : Nat) : fnRun TT Tryd.prog (e_pack_Opener_Done F) s_pack_Opener_Done (bodyOf 31) F x = M_pack_Opener_Done F x := by kernel_rfl
theorem c_pack_Opener_Done (F : Nat) : Ctr TT Tryd.prog 31 (conOf TT s_pack_Opener_Done (M_pack_Opener_Done F)) :=
  ctr_of (code := bodyOf 31) Tryd.func31 (by kernel_rfl) (by kernel_rfl) (by kernel_rfl) (by kernel_rfl) (envS_ok (envS_ok envN_ok (c_pack_Opener_OK F)) (c_pack_Opener_Left F)) hm (by kernel_rfl) (fun x r h => ⟨F, (t_pack_Opener_Done x F).trans h⟩)
theorem mo_pack_Opener_Done {F F' : Nat} (h : F ≤ F') : ∀ v, Le (M_pack_Opener_Done F v) (M_pack_Opener_Done F' v) := by
  intro v
  unfold M_pack_Opener_Done
  with_reducible repeat (first | (intro v) | exact Le.refl _ | exact h | exact mo_pack_Opener_OK h _ | exact mo_pack_Opener_Left h _ | apply Le.bind | apply Le.ite | apply Le.loop | apply Le.sumC)
noncomputable def s_pack_Opener_fail : Spec Kd := { params := [(.pin 102 [.str, .bool])], ret := (.tup []), pins := [[.str, .bool]], pl := { nt := 10 }, rfrz := [], ts := [] }
noncomputable def e_pack_Opener_fail (F : Nat) : Env El := envN
noncomputable def M_pack_Opener_fail (F : Nat) (x : ((List UInt8) × (Bool) × Unit)) : Option ((Unit) × ((List UInt8) × (Bool) × Unit)) :=
  some ((), [], true, ())
theorem t_pack_Opener_fail (x : ((List UInt8) × (Bool) × Unit)) (F : Nat) : fnRun TT Tryd.prog (e_pack_Opener_fail F) s_pack_Opener_fail (bodyOf 64) F x = M_pack_Opener_fail F x := by kernel_rfl
theorem c_pack_Opener_fail (F : Nat) : Ctr TT Tryd.prog 64 (conOf TT s_pack_Opener_fail (M_pack_Opener_fail F)) :=
  ctr_of (code := bodyOf 64) Tryd.func64 (by kernel_rfl) (by kernel_rfl) (by kernel_rfl) (by kernel_rfl) envN_ok hm (by kernel_rfl) (fun x r h => ⟨F, (t_pack_Opener_fail x F).trans h⟩)
theorem mo_pack_Opener_fail {F F' : Nat} (h : F ≤ F') : ∀ v, Le (M_pack_Opener_fail F v) (M_pack_Opener_fail F' v) := by
  intro v
  unfold M_pack_Opener_fail
  with_reducible repeat (first | (intro v) | exact Le.refl _ | exact h | apply Le.bind | apply Le.ite | apply Le.loop | apply Le.sumC)
noncomputable def s_pack_Opener_Raw : Spec Kd := { params := [(.pin 102 [.str, .bool]), (.a (.int .i64))], ret := (.one (.a .str)), pins := [[.str, .bool]], pl := { nt := 38, cuts := [(6, [(10, ⟨[.tmp 0 (.a (.ptr 1 0)), .tmp 5 (.a .str), .box 1 (.cells 102 [.str, .bool])], [], []⟩)]), (2, [(12, ⟨[.tmp 0 (.a (.ptr 1 0)), .tmp 1 (.a (.int .i64)), .tmp 19 (.a .bool), .box 1 (.cells 102 [.str, .bool])], [], []⟩)])] }, rfrz := [], ts := [4] }
noncomputable def e_pack_Opener_Raw (F : Nat) : Env El := (envS 64 (conOf TT s_pack_Opener_fail (M_pack_Opener_fail F)) (envS 63 (conOf TT s_pack_Opener_OK (M_pack_Opener_OK F)) envN))
noncomputable def M_pack_Opener_Raw (F : Nat) (x : ((List UInt8) × (Bool) × Unit) × (Int)) : Option ((List UInt8) × ((List UInt8) × (Bool) × Unit)) :=
  ((M_pack_Opener_OK F (x.1.1, x.1.2.1, ())).bind fun v0 =>
        if (!v0.1) = false then some ((), if x.2 < 0 then 0 else x.2, decide ((↑v0.2.1.length : Int) < if x.2 < 0 then 0 else x.2), (v0.2.1, v0.2.2.1, ()), ())
        else some ((), if x.2 < 0 then 0 else x.2, true, (v0.2.1, v0.2.2.1, ()), ())).bind
    fun v1 =>
    if v1.2.2.1 = true then (M_pack_Opener_fail F (v1.2.2.2.1.1, v1.2.2.2.1.2.1, ())).bind fun v2 => some ([], v2.2.1, v2.2.2.1, ())
    else
      (sub v1.2.2.2.1.1 0 v1.2.1).bind fun v3 =>
        ((sub v1.2.2.2.1.1 v1.2.1 (↑v1.2.2.2.1.1.length : Int)).bind fun v4 => some ((), v3, (v4, v1.2.2.2.1.2.1, ()), ())).bind fun v5 =>
          some (v5.2.1, v5.2.2.1.1, v5.2.2.1.2.1, ())
theorem t_pack_Opener_Raw (x : ((List UInt8) × (Bool) × Unit) × (Int)) (F : Nat) : fnRun TT Tryd.prog (e_pack_Opener_Raw F) s_pack_Opener_Raw (bodyOf 65) F x = M_pack_Opener_Raw F x := by kernel_rfl
theorem c_pack_Opener_Raw (F : Nat) : Ctr TT Tryd.prog 65 (conOf TT s_pack_Opener_Raw (M_pack_Opener_Raw F)) :=
  ctr_of (code := bodyOf 65) Tryd.func65 (by kernel_rfl) (by kernel_rfl) (by kernel_rfl) (by kernel_rfl) (envS_ok (envS_ok envN_ok (c_pack_Opener_OK F)) (c_pack_Opener_fail F)) hm (by kernel_rfl) (fun x r h => ⟨F, (t_pack_Opener_Raw x F).trans h⟩)
theorem mo_pack_Opener_Raw {F F' : Nat} (h : F ≤ F') : ∀ v, Le (M_pack_Opener_Raw F v) (M_pack_Opener_Raw F' v) := by
  intro v
  unfold M_pack_Opener_Raw
  with_reducible repeat (first | (intro v) | exact Le.refl _ | exact h | exact mo_pack_Opener_OK h _ | exact mo_pack_Opener_fail h _ | apply Le.bind | apply Le.ite | apply Le.loop | apply Le.sumC)
noncomputable def s_pack_Opener_number : Spec Kd := { params := [(.pin 102 [.str, .bool])], ret := (.one (.a (.int .i64))), pins := [[.str, .bool]], pl := { nt := 34, loops := [(0, ⟨[.tmp 0 (.a (.ptr 1 0)), .tmp 3 (.a (.int .i64)), .tmp 6 (.a (.int .i64)), .box 1 (.cells 102 [.str, .bool])], [], []⟩, (.exit 0, ⟨[.tmp 0 (.a (.ptr 1 0)), .box 1 (.cells 102 [.str, .bool])], [], []⟩), [(.ret, ⟨[.tmp 0 (.a (.ptr 1 0)), .tmp 2 (.a (.int .i64)), .box 1 (.cells 102 [.str, .bool])], [], []⟩)])], cuts := [(6, [(11, ⟨[.tmp 0 (.a (.ptr 1 0)), .tmp 3 (.a (.int .i64)), .tmp 5 (.a .str), .tmp 6 (.a (.int .i64)), .tmp 21 (.a .bool), .box 1 (.cells 102 [.str, .bool])], [], []⟩)])] }, rfrz := [], ts := [2] }
noncomputable def e_pack_Opener_number (F : Nat) : Env El := (envS 65 (conOf TT s_pack_Opener_Raw (M_pack_Opener_Raw F)) envN)
noncomputable def M_pack_Opener_number_l0 (F : Nat) (v0 : (Unit × Int × Int × (List UInt8 × Bool × Unit) × Unit)) : Option ((Unit × Int × Int × (List UInt8 × Bool × Unit) × Unit) ⊕ (Unit × (List UInt8 × Bool × Unit) × Unit ⊕ Unit × Int × (List UInt8 × Bool × Unit) × Unit)) :=
  if decide (v0.2.2.1 < 9) = true then
          (M_pack_Opener_Raw F ((v0.2.2.2.1.1, v0.2.2.2.1.2.1, ()), 1)).bind fun v1 =>
            (if decide (v1.1 = []) = false then
                  if decide (v0.2.2.1 = 0) = true then
                    (idx v1.1 0).bind fun v2 => some ((), v0.2.1, v1.1, v0.2.2.1, decide ((↑v2.toNat : Int) = 128), (v1.2.1, v1.2.2.1, ()), ())
                  else some ((), v0.2.1, v1.1, v0.2.2.1, false, (v1.2.1, v1.2.2.1, ()), ())
                else some ((), v0.2.1, v1.1, v0.2.2.1, true, (v1.2.1, v1.2.2.1, ()), ())).bind
              fun v3 =>
              if v3.2.2.2.2.1 = true then some (Sum.inr (Sum.inr ((), -1, (v3.2.2.2.2.2.1.1, v3.2.2.2.2.2.1.2.1, ()), ())))
              else
                (idx v3.2.2.1 0).bind fun v4 =>
                  (idx v3.2.2.1 0).bind fun v5 =>
                    if decide ((↑v5.toNat : Int) < 128) = true then
                      some
                        (Sum.inr
                          (Sum.inr
                            ((), ior IntKind.i64 (shl IntKind.i64 v3.2.1 7) (IntKind.i64.wrap (iand IntKind.u8 (↑v4.toNat : Int) 127)),
                              (v3.2.2.2.2.2.1.1, v3.2.2.2.2.2.1.2.1, ()), ())))
                    else
                      some
                        (Sum.inl
                          ((), ior IntKind.i64 (shl IntKind.i64 v3.2.1 7) (IntKind.i64.wrap (iand IntKind.u8 (↑v4.toNat : Int) 127)),
                            IntKind.i64.wrap (v3.2.2.2.1 + 1), (v3.2.2.2.2.2.1.1, v3.2.2.2.2.2.1.2.1, ()), ()))
        else some (Sum.inr (Sum.inl ((), (v0.2.2.2.1.1, v0.2.2.2.1.2.1, ()), ())))
noncomputable def M_pack_Opener_number (F : Nat) (x : ((List UInt8) × (Bool) × Unit)) : Option ((Int) × ((List UInt8) × (Bool) × Unit)) :=
  (loopM (M_pack_Opener_number_l0 F)
        F ((), 0, 0, (x.1, x.2.1, ()), ())).bind
    fun v6 => sumC v6 (fun v7 => some (-1, v7.2.1.1, v7.2.1.2.1, ())) fun v8 => some (v8.2.1, v8.2.2.1.1, v8.2.2.1.2.1, ())
theorem t_pack_Opener_number (x : ((List UInt8) × (Bool) × Unit)) (F : Nat) : fnRun TT Tryd.prog (e_pack_Opener_number F) s_pack_Opener_number (bodyOf 62) F x = M_pack_Opener_number F x := by kernel_rfl
theorem c_pack_Opener_number (F : Nat) : Ctr TT Tryd.prog 62 (conOf TT s_pack_Opener_number (M_pack_Opener_number F)) :=
  ctr_of (code := bodyOf 62) Tryd.func62 (by kernel_rfl) (by kernel_rfl) (by kernel_rfl) (by kernel_rfl) (envS_ok envN_ok (c_pack_Opener_Raw F)) hm (by kernel_rfl) (fun x r h => ⟨F, (t_pack_Opener_number x F).trans h⟩)
theorem mo_pack_Opener_number_l0 {F F' : Nat} (h : F ≤ F') : ∀ v, Le (M_pack_Opener_number_l0 F v) (M_pack_Opener_number_l0 F' v) := by
  intro v
  unfold M_pack_Opener_number_l0
  with_reducible repeat (first | (intro v) | exact Le.refl _ | exact h | exact mo_pack_Opener_Raw h _ | apply Le.bind | apply Le.ite | apply Le.loop | apply Le.sumC)
theorem mo_pack_Opener_number {F F' : Nat} (h : F ≤ F') : ∀ v, Le (M_pack_Opener_number F v) (M_pack_Opener_number F' v) := by
  intro v
  unfold M_pack_Opener_number
  with_reducible repeat (first | (intro v) | exact Le.refl _ | exact h | exact mo_pack_Opener_Raw h _ | exact mo_pack_Opener_number_l0 h | exact mo_pack_Opener_number_l0 h _ | apply Le.bind | apply Le.ite | apply Le.loop | apply Le.sumC)
noncomputable def s_pack_Opener_Num : Spec Kd := { params := [(.pin 102 [.str, .bool]), (.a (.int .i64))], ret := (.one (.a (.int .i64))), pins := [[.str, .bool]], pl := { nt := 27, cuts := [(2, [(7, ⟨[.tmp 0 (.a (.ptr 1 0)), .tmp 1 (.a (.int .i64)), .tmp 5 (.a (.int .i64)), .tmp 14 (.a .bool), .box 1 (.cells 102 [.str, .bool])], [], []⟩), (4, ⟨[.tmp 0 (.a (.ptr 1 0)), .tmp 1 (.a (.int .i64)), .tmp 5 (.a (.int .i64)), .tmp 18 (.a .bool), .box 1 (.cells 102 [.str, .bool])], [], []⟩), (5, ⟨[.tmp 0 (.a (.ptr 1 0)), .tmp 5 (.a (.int .i64)), .tmp 23 (.a .bool), .box 1 (.cells 102 [.str, .bool])], [], []⟩)])] }, rfrz := [], ts := [4] }
noncomputable def e_pack_Opener_Num (F : Nat) : Env El := (envS 64 (conOf TT s_pack_Opener_fail (M_pack_Opener_fail F)) (envS 63 (conOf TT s_pack_Opener_OK (M_pack_Opener_OK F)) (envS 62 (conOf TT s_pack_Opener_number (M_pack_Opener_number F)) envN)))
noncomputable def M_pack_Opener_Num (F : Nat) (x : ((List UInt8) × (Bool) × Unit) × (Int)) : Option ((Int) × ((List UInt8) × (Bool) × Unit)) :=
  (M_pack_Opener_number F (x.1.1, x.1.2.1, ())).bind fun v0 =>
    ((M_pack_Opener_OK F (v0.2.1, v0.2.2.1, ())).bind fun v1 =>
          if (!v1.1) = false then some ((), x.2, v0.1, decide (v0.1 < 0), (v1.2.1, v1.2.2.1, ()), ())
          else some ((), x.2, v0.1, true, (v1.2.1, v1.2.2.1, ()), ())).bind
      fun v2 =>
      (if v2.2.2.2.1 = false then some ((), v2.2.1, v2.2.2.1, decide (4611686018427387904 < v2.2.2.1), (v2.2.2.2.2.1.1, v2.2.2.2.2.1.2.1, ()), ())
          else some ((), v2.2.1, v2.2.2.1, true, (v2.2.2.2.2.1.1, v2.2.2.2.2.1.2.1, ()), ())).bind
        fun v3 =>
        (if v3.2.2.2.1 = false then some ((), v3.2.2.1, decide (v3.2.1 < v3.2.2.1), (v3.2.2.2.2.1.1, v3.2.2.2.2.1.2.1, ()), ())
            else some ((), v3.2.2.1, true, (v3.2.2.2.2.1.1, v3.2.2.2.2.1.2.1, ()), ())).bind
          fun v4 =>
          if v4.2.2.1 = true then (M_pack_Opener_fail F (v4.2.2.2.1.1, v4.2.2.2.1.2.1, ())).bind fun v5 => some (0, v5.2.1, v5.2.2.1, ())
          else some (v4.2.1, v4.2.2.2.1.1, v4.2.2.2.1.2.1, ())
theorem t_pack_Opener_Num (x : ((List UInt8) × (Bool) × Unit) × (Int)) (F : Nat) : fnRun TT Tryd.prog (e_pack_Opener_Num F) s_pack_Opener_Num (bodyOf 29) F x = M_pack_Opener_Num F x := by kernel_rfl
theorem c_pack_Opener_Num (F : Nat) : Ctr TT Tryd.prog 29 (conOf TT s_pack_Opener_Num (M_pack_Opener_Num F)) :=
  ctr_of (code := bodyOf 29) Tryd.func29 (by kernel_rfl) (by kernel_rfl) (by kernel_rfl) (by kernel_rfl) (envS_ok (envS_ok (envS_ok envN_ok (c_pack_Opener_number F)) (c_pack_Opener_OK F)) (c_pack_Opener_fail F)) hm (by kernel_rfl) (fun x r h => ⟨F, (t_pack_Opener_Num x F).trans h⟩)
theorem mo_pack_Opener_Num {F F' : Nat} (h : F ≤ F') : ∀ v, Le (M_pack_Opener_Num F v) (M_pack_Opener_Num F' v) := by
  intro v
  unfold M_pack_Opener_Num
  with_reducible repeat (first | (intro v) | exact Le.refl _ | exact h | exact mo_pack_Opener_number h _ | exact mo_pack_Opener_OK h _ | exact mo_pack_Opener_fail h _ | apply Le.bind | apply Le.ite | apply Le.loop | apply Le.sumC)
noncomputable def s_pack_Opener_Text : Spec Kd := { params := [(.pin 102 [.str, .bool]), (.a (.int .i64))], ret := (.one (.a .str)), pins := [[.str, .bool]], pl := { nt := 10 }, rfrz := [], ts := [4] }
noncomputable def e_pack_Opener_Text (F : Nat) : Env El := (envS 65 (conOf TT s_pack_Opener_Raw (M_pack_Opener_Raw F)) (envS 29 (conOf TT s_pack_Opener_Num (M_pack_Opener_Num F)) envN))
noncomputable def M_pack_Opener_Text (F : Nat) (x : ((List UInt8) × (Bool) × Unit) × (Int)) : Option ((List UInt8) × ((List UInt8) × (Bool) × Unit)) :=
  (M_pack_Opener_Num F x).bind fun v0 => (M_pack_Opener_Raw F ((v0.2.1, v0.2.2.1, ()), v0.1)).bind fun v1 => some (v1.1, v1.2.1, v1.2.2.1, ())
theorem t_pack_Opener_Text (x : ((List UInt8) × (Bool) × Unit) × (Int)) (F : Nat) : fnRun TT Tryd.prog (e_pack_Opener_Text F) s_pack_Opener_Text (bodyOf 30) F x = M_pack_Opener_Text F x := by kernel_rfl
theorem c_pack_Opener_Text (F : Nat) : Ctr TT Tryd.prog 30 (conOf TT s_pack_Opener_Text (M_pack_Opener_Text F)) :=
  ctr_of (code := bodyOf 30) Tryd.func30 (by kernel_rfl) (by kernel_rfl) (by kernel_rfl) (by kernel_rfl) (envS_ok (envS_ok envN_ok (c_pack_Opener_Num F)) (c_pack_Opener_Raw F)) hm (by kernel_rfl) (fun x r h => ⟨F, (t_pack_Opener_Text x F).trans h⟩)
theorem mo_pack_Opener_Text {F F' : Nat} (h : F ≤ F') : ∀ v, Le (M_pack_Opener_Text F v) (M_pack_Opener_Text F' v) := by
  intro v
  unfold M_pack_Opener_Text
  with_reducible repeat (first | (intro v) | exact Le.refl _ | exact h | exact mo_pack_Opener_Num h _ | exact mo_pack_Opener_Raw h _ | apply Le.bind | apply Le.ite | apply Le.loop | apply Le.sumC)
end Go.Vm
