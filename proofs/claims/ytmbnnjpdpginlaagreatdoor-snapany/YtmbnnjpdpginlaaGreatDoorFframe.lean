/- Models of functions of the program, and that each keeps its contract: for all arguments of its shape. No condition. -/
import Derived.Test.YtmbnnjpdpginlaaGreatDoorKt
import Derived.Test.YtmbnnjpdpginlaaGreatDoorFcrc
namespace Go.Vm
open Go.Proofs
set_option linter.unusedVariables false
noncomputable def s_frame_Size : Spec Kd := { params := [(.a (.int .i64))], ret := (.one (.a (.int .i64))), pins := [], pl := { nt := 11, cuts := [(1, [(6, ⟨[.tmp 0 (.a (.int .i64)), .tmp 8 (.a .bool)], [], []⟩)])] }, rfrz := [], ts := [2] }
noncomputable def e_frame_Size (F : Nat) : Env El := envN
/-- concierge/frame.Size -/
noncomputable def M_frame_Size (F : Nat) (x : (Int)) : Option (Int) :=
  (if decide (x < 0) = false then some (x, decide (2000 < x), ()) else some (x, true, ())).bind fun v0 =>
    if v0.2.1 = true then some 0 else some (IntKind.i64.wrap (v0.1 + 10))
theorem t_frame_Size (x : (Int)) (F : Nat) : fnRun TT Tryz.prog (e_frame_Size F) s_frame_Size (bodyOf 95) F x = M_frame_Size F x := by kernel_rfl
theorem c_frame_Size (F : Nat) : Ctr TT Tryz.prog 95 (conOf TT s_frame_Size (M_frame_Size F)) :=
  ctr_of (code := bodyOf 95) Tryz.func95 (by kernel_rfl) (by kernel_rfl) (by kernel_rfl) (by kernel_rfl) envN_ok hm (by kernel_rfl) (fun x r h => ⟨F, (t_frame_Size x F).trans h⟩)
theorem mo_frame_Size {F F' : Nat} (h : F ≤ F') : ∀ v, Le (M_frame_Size F v) (M_frame_Size F' v) := by
  intro v
  unfold M_frame_Size
  with_reducible repeat (first | (intro v) | exact Le.refl _ | exact h | apply Le.bind | apply Le.ite | apply Le.loop | apply Le.sumC)
noncomputable def s_frame_Make : Spec Kd := { params := [(.a .str)], ret := (.tup [(.a .str), (.a (.int .i64))]), pins := [], pl := { nt := 22 }, rfrz := [], ts := [2, 3] }
noncomputable def e_frame_Make (F : Nat) : Env El := (envS 62 (conOf TT s_crc_Seal (M_crc_Seal F)) envN)
/-- concierge/frame.Make -/
noncomputable def M_frame_Make (F : Nat) (x : (List UInt8)) : Option ((List UInt8) × (Int)) :=
  if decide (2000 < (↑x.length : Int)) = true then some ([], 5)
  else
    (M_crc_Seal F [UInt8.ofNat (IntKind.u8.wrap (shr IntKind.i64 (↑x.length : Int) 8)).toNat, UInt8.ofNat (IntKind.u8.wrap (↑x.length : Int)).toNat]).bind
      fun v0 => (M_crc_Seal F x).bind fun v1 => if decide (v0.length + v1.length ≤ 9223372036854775807) = true then some (v0 ++ v1, 0) else none
theorem t_frame_Make (x : (List UInt8)) (F : Nat) : fnRun TT Tryz.prog (e_frame_Make F) s_frame_Make (bodyOf 25) F x = M_frame_Make F x := by kernel_rfl
theorem c_frame_Make (F : Nat) : Ctr TT Tryz.prog 25 (conOf TT s_frame_Make (M_frame_Make F)) :=
  ctr_of (code := bodyOf 25) Tryz.func25 (by kernel_rfl) (by kernel_rfl) (by kernel_rfl) (by kernel_rfl) (envS_ok envN_ok (c_crc_Seal F)) hm (by kernel_rfl) (fun x r h => ⟨F, (t_frame_Make x F).trans h⟩)
theorem mo_frame_Make {F F' : Nat} (h : F ≤ F') : ∀ v, Le (M_frame_Make F v) (M_frame_Make F' v) := by
  intro v
  unfold M_frame_Make
  with_reducible repeat (first | (intro v) | exact Le.refl _ | exact h | exact mo_crc_Seal h _ | apply Le.bind | apply Le.ite | apply Le.loop | apply Le.sumC)
noncomputable def s_frame_First : Spec Kd := { params := [(.a .str)], ret := (.tup [(.a .str), (.a (.int .i64)), (.a (.int .i64))]), pins := [], pl := { nt := 48, ends := [(6, ⟨[.tmp 0 (.a .str), .tmp 7 (.a (.int .i64))], [], []⟩)] }, rfrz := [], ts := [2, 3, 4] }
noncomputable def e_frame_First (F : Nat) : Env El := (envS 95 (conOf TT s_frame_Size (M_frame_Size F)) (envS 94 (conOf TT s_crc_Open (M_crc_Open F)) envN))
/-- concierge/frame.First -/
noncomputable def M_frame_First (F : Nat) (x : (List UInt8)) : Option ((List UInt8) × (Int) × (Int)) :=
  if decide ((↑x.length : Int) < 6) = true then some ([], 0, 3)
  else
    (sub x 0 6).bind fun v0 =>
      (M_crc_Open F v0).bind fun v1 =>
        if (!v1.2) = true then some ([], 0, 4)
        else
          ((idx v1.1 0).bind fun v2 =>
                (idx v1.1 1).bind fun v3 =>
                  some (x, ior IntKind.i64 (shl IntKind.i64 (IntKind.i64.wrap (↑v2.toNat : Int)) 8) (IntKind.i64.wrap (↑v3.toNat : Int)), ())).bind
            fun v4 =>
            if decide (2000 < v4.2.1) = true then some ([], 0, 5)
            else
              (M_frame_Size F v4.2.1).bind fun v5 =>
                if decide ((↑v4.1.length : Int) < v5) = true then some ([], 0, 3)
                else (sub v4.1 6 v5).bind fun v6 => (M_crc_Open F v6).bind fun v7 => if (!v7.2) = true then some ([], 0, 4) else some (v7.1, v5, 0)
theorem t_frame_First (x : (List UInt8)) (F : Nat) : fnRun TT Tryz.prog (e_frame_First F) s_frame_First (bodyOf 66) F x = M_frame_First F x := by kernel_rfl
theorem c_frame_First (F : Nat) : Ctr TT Tryz.prog 66 (conOf TT s_frame_First (M_frame_First F)) :=
  ctr_of (code := bodyOf 66) Tryz.func66 (by kernel_rfl) (by kernel_rfl) (by kernel_rfl) (by kernel_rfl) (envS_ok (envS_ok envN_ok (c_crc_Open F)) (c_frame_Size F)) hm (by kernel_rfl) (fun x r h => ⟨F, (t_frame_First x F).trans h⟩)
theorem mo_frame_First {F F' : Nat} (h : F ≤ F') : ∀ v, Le (M_frame_First F v) (M_frame_First F' v) := by
  intro v
  unfold M_frame_First
  with_reducible repeat (first | (intro v) | exact Le.refl _ | exact h | exact mo_crc_Open h _ | exact mo_frame_Size h _ | apply Le.bind | apply Le.ite | apply Le.loop | apply Le.sumC)
noncomputable def s_frame_Split : Spec Kd := { params := [(.a .str)], ret := (.tup [(.a (.row 9 .str)), (.a (.int .i64)), (.a (.int .i64))]), pins := [], pl := { nt := 36, orc := { rv := [2, 5, 24, 27, 30, 34], gv := [] }, loops := [(0, ⟨[.tmp 0 (.a .str), .tmp 5 (.a (.rowp 320)), .tmp 6 (.a (.int .i64)), .box 320 (.row 9 .str)], [], [.tmpRow 5 320 9 .str]⟩, (.exit 0, ⟨[.tmp 5 (.a (.rowp 320)), .tmp 6 (.a (.int .i64)), .box 320 (.row 9 .str)], [], [.tmpRow 5 320 9 .str]⟩), [(.ret, ⟨[.tmp 2 (.a (.rowp 128)), .tmp 3 (.a (.int .i64)), .tmp 4 (.a (.int .i64)), .box 128 (.row 9 .str)], [], [.tmpRow 2 128 9 .str]⟩)])], cuts := [(4, [(11, ⟨[.tmp 0 (.a .str), .tmp 5 (.a (.rowp 320)), .tmp 6 (.a (.int .i64)), .tmp 7 (.a .str), .tmp 8 (.a (.int .i64)), .tmp 9 (.a (.int .i64)), .box 320 (.row 9 .str)], [], [.tmpRow 5 320 9 .str]⟩)])] }, rfrz := [], ts := [2, 3, 4] }
noncomputable def e_frame_Split (F : Nat) : Env El := (envS 66 (conOf TT s_frame_First (M_frame_First F)) envN)
/-- concierge/frame.Split -/
noncomputable def M_frame_Split_l0 (F : Nat) (v0 : (List UInt8 × Unit × Int × List (List UInt8) × Unit)) : Option ((List UInt8 × Unit × Int × List (List UInt8) × Unit) ⊕ (Unit × Int × List (List UInt8) × Unit ⊕ Unit × Int × Int × List (List UInt8) × Unit)) :=
  if decide (v0.2.2.1 < (↑v0.1.length : Int)) = true then
          ((sub v0.1 v0.2.2.1 (↑v0.1.length : Int)).bind fun v1 =>
                (M_frame_First F v1).bind fun v2 => some (v0.1, (), v0.2.2.1, v2.1, v2.2.1, v2.2.2, v0.2.2.2.1, ())).bind
            fun v3 =>
            if (!decide (v3.2.2.2.2.2.1 = 0)) = true then some (Sum.inr (Sum.inr ((), v3.2.2.1, v3.2.2.2.2.2.1, v3.2.2.2.2.2.2.1, ())))
            else
              if decide ((v3.2.2.2.2.2.2.1.length + [v3.2.2.2.1].length) * 16 ≤ 140737488355328) = true then
                some (Sum.inl (v3.1, (), IntKind.i64.wrap (v3.2.2.1 + v3.2.2.2.2.1), v3.2.2.2.2.2.2.1 ++ [v3.2.2.2.1], ()))
              else none
        else some (Sum.inr (Sum.inl ((), v0.2.2.1, v0.2.2.2.1, ())))
noncomputable def M_frame_Split (F : Nat) (x : (List UInt8)) : Option ((List (El .str)) × (Int) × (Int)) :=
  (loopM (M_frame_Split_l0 F)
        F (x, (), 0, [], ())).bind
    fun v4 => sumC v4 (fun v5 => some (v5.2.2.1, v5.2.1, 0)) fun v6 => some (v6.2.2.2.1, v6.2.1, v6.2.2.1)
theorem t_frame_Split (x : (List UInt8)) (F : Nat) : fnRun TT Tryz.prog (e_frame_Split F) s_frame_Split (bodyOf 33) F x = M_frame_Split F x := by kernel_rfl
theorem c_frame_Split (F : Nat) : Ctr TT Tryz.prog 33 (conOf TT s_frame_Split (M_frame_Split F)) :=
  ctr_of (code := bodyOf 33) Tryz.func33 (by kernel_rfl) (by kernel_rfl) (by kernel_rfl) (by kernel_rfl) (envS_ok envN_ok (c_frame_First F)) hm (by kernel_rfl) (fun x r h => ⟨F, (t_frame_Split x F).trans h⟩)
theorem mo_frame_Split_l0 {F F' : Nat} (h : F ≤ F') : ∀ v, Le (M_frame_Split_l0 F v) (M_frame_Split_l0 F' v) := by
  intro v
  unfold M_frame_Split_l0
  with_reducible repeat (first | (intro v) | exact Le.refl _ | exact h | exact mo_frame_First h _ | apply Le.bind | apply Le.ite | apply Le.loop | apply Le.sumC)
theorem mo_frame_Split {F F' : Nat} (h : F ≤ F') : ∀ v, Le (M_frame_Split F v) (M_frame_Split F' v) := by
  intro v
  unfold M_frame_Split
  with_reducible repeat (first | (intro v) | exact Le.refl _ | exact h | exact mo_frame_First h _ | exact mo_frame_Split_l0 h | exact mo_frame_Split_l0 h _ | apply Le.bind | apply Le.ite | apply Le.loop | apply Le.sumC)

end Go.Vm
