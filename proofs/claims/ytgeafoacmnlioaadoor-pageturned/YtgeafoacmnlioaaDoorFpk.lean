/- Models of functions of the program, and that each keeps its contract: for all arguments of its shape. No condition. -/
import Derived.Test.YtgeafoacmnlioaaDoorKt
namespace Go.Vm
open Go.Proofs
set_option linter.unusedVariables false
noncomputable def s_pack_Packer_OK : Spec Kd := { params := [(.pin 71 [(.row 5 .u8), .bool])], ret := (.one (.a .bool)), pins := [[(.row 5 .u8), .bool]], pl := { nt := 12, cuts := [(1, [(9, ⟨[.tmp 0 (.a (.ptr 1 0)), .tmp 11 (.a .bool), .box 1 (.cells 71 [(.rowp 1000064), .bool]), .box 1000064 (.row 5 .u8)], [], [.cellRow 1 0 1000064 5 .u8]⟩)])] }, rfrz := [], ts := [2] }
noncomputable def e_pack_Packer_OK (F : Nat) : Env El := envN
noncomputable def M_pack_Packer_OK (F : Nat) (x : ((List (El .u8)) × (Bool) × Unit)) : Option ((Bool) × ((List (El .u8)) × (Bool) × Unit)) :=
  some (!x.2.1, x.1, x.2.1, ())
theorem t_pack_Packer_OK (x : ((List (El .u8)) × (Bool) × Unit)) (F : Nat) : fnRun TT Tryd.prog (e_pack_Packer_OK F) s_pack_Packer_OK (bodyOf 71) F x = M_pack_Packer_OK F x := by kernel_rfl
theorem c_pack_Packer_OK (F : Nat) : Ctr TT Tryd.prog 71 (conOf TT s_pack_Packer_OK (M_pack_Packer_OK F)) :=
  ctr_of (code := bodyOf 71) Tryd.func71 (by kernel_rfl) (by kernel_rfl) (by kernel_rfl) (by kernel_rfl) envN_ok hm (by kernel_rfl) (fun x r h => ⟨F, (t_pack_Packer_OK x F).trans h⟩)
theorem mo_pack_Packer_OK {F F' : Nat} (h : F ≤ F') : ∀ v, Le (M_pack_Packer_OK F v) (M_pack_Packer_OK F' v) := by
  intro v
  unfold M_pack_Packer_OK
  with_reducible repeat (first | (intro v) | exact Le.refl _ | exact h | apply Le.bind | apply Le.ite | apply Le.loop | apply Le.sumC)
noncomputable def s_pack_Packer_String : Spec Kd := { params := [(.pin 71 [(.row 5 .u8), .bool])], ret := (.one (.a .str)), pins := [[(.row 5 .u8), .bool]], pl := { nt := 11 }, rfrz := [], ts := [2] }
noncomputable def e_pack_Packer_String (F : Nat) : Env El := (envS 71 (conOf TT s_pack_Packer_OK (M_pack_Packer_OK F)) envN)
noncomputable def M_pack_Packer_String (F : Nat) (x : ((List (El .u8)) × (Bool) × Unit)) : Option ((List UInt8) × ((List (El .u8)) × (Bool) × Unit)) :=
  (M_pack_Packer_OK F (x.1, x.2.1, ())).bind fun v0 => if (!v0.1) = true then some ([], v0.2.1, v0.2.2.1, ()) else some (v0.2.1, v0.2.1, v0.2.2.1, ())
theorem t_pack_Packer_String (x : ((List (El .u8)) × (Bool) × Unit)) (F : Nat) : fnRun TT Tryd.prog (e_pack_Packer_String F) s_pack_Packer_String (bodyOf 39) F x = M_pack_Packer_String F x := by kernel_rfl
theorem c_pack_Packer_String (F : Nat) : Ctr TT Tryd.prog 39 (conOf TT s_pack_Packer_String (M_pack_Packer_String F)) :=
  ctr_of (code := bodyOf 39) Tryd.func39 (by kernel_rfl) (by kernel_rfl) (by kernel_rfl) (by kernel_rfl) (envS_ok envN_ok (c_pack_Packer_OK F)) hm (by kernel_rfl) (fun x r h => ⟨F, (t_pack_Packer_String x F).trans h⟩)
theorem mo_pack_Packer_String {F F' : Nat} (h : F ≤ F') : ∀ v, Le (M_pack_Packer_String F v) (M_pack_Packer_String F' v) := by
  intro v
  unfold M_pack_Packer_String
  with_reducible repeat (first | (intro v) | exact Le.refl _ | exact h | exact mo_pack_Packer_OK h _ | apply Le.bind | apply Le.ite | apply Le.loop | apply Le.sumC)
noncomputable def s_pack_Packer_Num : Spec Kd := { params := [(.pin 71 [(.row 5 .u8), .bool]), (.a (.int .i64))], ret := (.one (.a (.argp 0))), pins := [[(.row 5 .u8), .bool]], pl := { nt := 59, loops := [(2, ⟨[.tmp 0 (.a (.ptr 1 0)), .tmp 1 (.a (.int .i64)), .tmp 5 (.a (.int .i64)), .box 1 (.cells 71 [(.rowp 1000064), .bool]), .box 1000064 (.row 5 .u8)], [], [.cellRow 1 0 1000064 5 .u8]⟩, (.exit 2, ⟨[.tmp 0 (.a (.ptr 1 0)), .tmp 1 (.a (.int .i64)), .box 1 (.cells 71 [(.rowp 1000064), .bool]), .box 1000064 (.row 5 .u8)], [], [.cellRow 1 0 1000064 5 .u8]⟩), []), (0, ⟨[.tmp 0 (.a (.ptr 1 0)), .tmp 1 (.a (.int .i64)), .tmp 5 (.a (.int .i64)), .box 1 (.cells 71 [(.rowp 1000064), .bool]), .box 1000064 (.row 5 .u8)], [], [.cellRow 1 0 1000064 5 .u8]⟩, (.exit 0, ⟨[.tmp 0 (.a (.ptr 1 0)), .tmp 1 (.a (.int .i64)), .tmp 5 (.a (.int .i64)), .box 1 (.cells 71 [(.rowp 1000064), .bool]), .box 1000064 (.row 5 .u8)], [], [.cellRow 1 0 1000064 5 .u8]⟩), [])], cuts := [(12, [(13, ⟨[.tmp 0 (.a (.ptr 1 0)), .box 1 (.cells 71 [(.rowp 1000064), .bool]), .box 1000064 (.row 5 .u8)], [], [.cellRow 1 0 1000064 5 .u8]⟩)]), (3, [(6, ⟨[.tmp 0 (.a (.ptr 1 0)), .tmp 1 (.a (.int .i64)), .tmp 13 (.a .bool), .box 1 (.cells 71 [(.rowp 1000064), .bool]), .box 1000064 (.row 5 .u8)], [], [.cellRow 1 0 1000064 5 .u8]⟩)])] }, rfrz := [], ts := [4] }
noncomputable def e_pack_Packer_Num (F : Nat) : Env El := envN
noncomputable def M_pack_Packer_Num_l0 (F : Nat) (v1 : (Unit × Int × Int × (Unit × Bool × Unit) × List UInt8 × Unit)) : Option ((Unit × Int × Int × (Unit × Bool × Unit) × List UInt8 × Unit) ⊕ (Unit × Int × Int × (Unit × Bool × Unit) × List UInt8 × Unit)) :=
  if decide (0 ≤ IntKind.i64.wrap (7 * IntKind.i64.wrap (v1.2.2.1 + 1))) = true then
              if decide (0 < shr IntKind.i64 v1.2.1 (IntKind.i64.wrap (7 * IntKind.i64.wrap (v1.2.2.1 + 1)))) = true then
                some (Sum.inl ((), v1.2.1, IntKind.i64.wrap (v1.2.2.1 + 1), ((), v1.2.2.2.1.2.1, ()), v1.2.2.2.2.1, ()))
              else some (Sum.inr v1)
            else none
noncomputable def M_pack_Packer_Num_l1 (F : Nat) (v3 : (Unit × Int × Int × (Unit × Bool × Unit) × List UInt8 × Unit)) : Option ((Unit × Int × Int × (Unit × Bool × Unit) × List UInt8 × Unit) ⊕ (Unit × Int × (Unit × Bool × Unit) × List UInt8 × Unit)) :=
  if decide (0 < v3.2.2.1) = true then
                if decide (0 ≤ IntKind.i64.wrap (7 * v3.2.2.1)) = true then
                  if
                      decide
                          ((v3.2.2.2.2.1.length +
                                [UInt8.ofNat
                                      (ior IntKind.u8 (iand IntKind.u8 (IntKind.u8.wrap (shr IntKind.i64 v3.2.1 (IntKind.i64.wrap (7 * v3.2.2.1)))) 127)
                                          128).toNat].length) *
                              1 ≤
                            140737488355328) =
                        true then
                    some
                      (Sum.inl
                        ((), v3.2.1, IntKind.i64.wrap (v3.2.2.1 - 1), ((), v3.2.2.2.1.2.1, ()),
                          v3.2.2.2.2.1 ++
                            [UInt8.ofNat
                                (ior IntKind.u8 (iand IntKind.u8 (IntKind.u8.wrap (shr IntKind.i64 v3.2.1 (IntKind.i64.wrap (7 * v3.2.2.1)))) 127) 128).toNat],
                          ()))
                  else none
                else none
              else some (Sum.inr ((), v3.2.1, ((), v3.2.2.2.1.2.1, ()), v3.2.2.2.2.1, ()))
noncomputable def M_pack_Packer_Num (F : Nat) (x : ((List (El .u8)) × (Bool) × Unit) × (Int)) : Option ((Unit) × ((List (El .u8)) × (Bool) × Unit)) :=
  (if decide (x.2 < 0) = false then some ((), x.2, decide (4611686018427387904 < x.2), ((), x.1.2.1, ()), x.1.1, ())
      else some ((), x.2, true, ((), x.1.2.1, ()), x.1.1, ())).bind
    fun v0 =>
    if v0.2.2.1 = true then some ((), v0.2.2.2.2.1, true, ())
    else
      (loopM (M_pack_Packer_Num_l0 F)
            F ((), v0.2.1, 0, ((), v0.2.2.2.1.2.1, ()), v0.2.2.2.2.1, ())).bind
        fun v2 =>
        (loopM (M_pack_Packer_Num_l1 F)
              F v2).bind
          fun v4 =>
          (if decide ((v4.2.2.2.1.length + [UInt8.ofNat (iand IntKind.u8 (IntKind.u8.wrap v4.2.1) 127).toNat].length) * 1 ≤ 140737488355328) = true then
                some ((), ((), v4.2.2.1.2.1, ()), v4.2.2.2.1 ++ [UInt8.ofNat (iand IntKind.u8 (IntKind.u8.wrap v4.2.1) 127).toNat], ())
              else none).bind
            fun v5 => some ((), v5.2.2.1, v5.2.1.2.1, ())
theorem t_pack_Packer_Num (x : ((List (El .u8)) × (Bool) × Unit) × (Int)) (F : Nat) : fnRun TT Tryd.prog (e_pack_Packer_Num F) s_pack_Packer_Num (bodyOf 37) F x = M_pack_Packer_Num F x := by kernel_rfl
theorem c_pack_Packer_Num (F : Nat) : Ctr TT Tryd.prog 37 (conOf TT s_pack_Packer_Num (M_pack_Packer_Num F)) :=
  ctr_of (code := bodyOf 37) Tryd.func37 (by kernel_rfl) (by kernel_rfl) (by kernel_rfl) (by kernel_rfl) envN_ok hm (by kernel_rfl) (fun x r h => ⟨F, (t_pack_Packer_Num x F).trans h⟩)
theorem mo_pack_Packer_Num_l0 {F F' : Nat} (h : F ≤ F') : ∀ v, Le (M_pack_Packer_Num_l0 F v) (M_pack_Packer_Num_l0 F' v) := by
  intro v
  unfold M_pack_Packer_Num_l0
  with_reducible repeat (first | (intro v) | exact Le.refl _ | exact h | apply Le.bind | apply Le.ite | apply Le.loop | apply Le.sumC)
theorem mo_pack_Packer_Num_l1 {F F' : Nat} (h : F ≤ F') : ∀ v, Le (M_pack_Packer_Num_l1 F v) (M_pack_Packer_Num_l1 F' v) := by
  intro v
  unfold M_pack_Packer_Num_l1
  with_reducible repeat (first | (intro v) | exact Le.refl _ | exact h | exact mo_pack_Packer_Num_l0 h | exact mo_pack_Packer_Num_l0 h _ | apply Le.bind | apply Le.ite | apply Le.loop | apply Le.sumC)
theorem mo_pack_Packer_Num {F F' : Nat} (h : F ≤ F') : ∀ v, Le (M_pack_Packer_Num F v) (M_pack_Packer_Num F' v) := by
  intro v
  unfold M_pack_Packer_Num
  with_reducible repeat (first | (intro v) | exact Le.refl _ | exact h | exact mo_pack_Packer_Num_l0 h | exact mo_pack_Packer_Num_l0 h _ | exact mo_pack_Packer_Num_l1 h | exact mo_pack_Packer_Num_l1 h _ | apply Le.bind | apply Le.ite | apply Le.loop | apply Le.sumC)
noncomputable def s_pack_Packer_Raw : Spec Kd := { params := [(.pin 71 [(.row 5 .u8), .bool]), (.a .str)], ret := (.one (.a (.argp 0))), pins := [[(.row 5 .u8), .bool]], pl := { nt := 17, cuts := [(3, [(10, ⟨[.tmp 0 (.a (.ptr 1 0)), .box 1 (.cells 71 [(.rowp 1000064), .bool]), .box 1000064 (.row 5 .u8)], [], [.cellRow 1 0 1000064 5 .u8]⟩)])] }, rfrz := [], ts := [4] }
noncomputable def e_pack_Packer_Raw (F : Nat) : Env El := envN
noncomputable def M_pack_Packer_Raw (F : Nat) (x : ((List (El .u8)) × (Bool) × Unit) × (List UInt8)) : Option ((Unit) × ((List (El .u8)) × (Bool) × Unit)) :=
  (if decide ((x.1.1.length + x.2.length) * 1 ≤ 140737488355328) = true then some ((), ((), x.1.2.1, ()), x.1.1 ++ x.2, ()) else none).bind fun v0 =>
    some ((), v0.2.2.1, v0.2.1.2.1, ())
theorem t_pack_Packer_Raw (x : ((List (El .u8)) × (Bool) × Unit) × (List UInt8)) (F : Nat) : fnRun TT Tryd.prog (e_pack_Packer_Raw F) s_pack_Packer_Raw (bodyOf 70) F x = M_pack_Packer_Raw F x := by kernel_rfl
theorem c_pack_Packer_Raw (F : Nat) : Ctr TT Tryd.prog 70 (conOf TT s_pack_Packer_Raw (M_pack_Packer_Raw F)) :=
  ctr_of (code := bodyOf 70) Tryd.func70 (by kernel_rfl) (by kernel_rfl) (by kernel_rfl) (by kernel_rfl) envN_ok hm (by kernel_rfl) (fun x r h => ⟨F, (t_pack_Packer_Raw x F).trans h⟩)
theorem mo_pack_Packer_Raw {F F' : Nat} (h : F ≤ F') : ∀ v, Le (M_pack_Packer_Raw F v) (M_pack_Packer_Raw F' v) := by
  intro v
  unfold M_pack_Packer_Raw
  with_reducible repeat (first | (intro v) | exact Le.refl _ | exact h | apply Le.bind | apply Le.ite | apply Le.loop | apply Le.sumC)
noncomputable def s_pack_Packer_Text : Spec Kd := { params := [(.pin 71 [(.row 5 .u8), .bool]), (.a .str)], ret := (.one (.a (.argp 0))), pins := [[(.row 5 .u8), .bool]], pl := { nt := 11 }, rfrz := [], ts := [4] }
noncomputable def e_pack_Packer_Text (F : Nat) : Env El := (envS 70 (conOf TT s_pack_Packer_Raw (M_pack_Packer_Raw F)) (envS 37 (conOf TT s_pack_Packer_Num (M_pack_Packer_Num F)) envN))
noncomputable def M_pack_Packer_Text (F : Nat) (x : ((List (El .u8)) × (Bool) × Unit) × (List UInt8)) : Option ((Unit) × ((List (El .u8)) × (Bool) × Unit)) :=
  (M_pack_Packer_Num F ((x.1.1, x.1.2.1, ()), (↑x.2.length : Int))).bind fun v0 =>
    (M_pack_Packer_Raw F ((v0.2.1, v0.2.2.1, ()), x.2)).bind fun v1 => some ((), v1.2.1, v1.2.2.1, ())
theorem t_pack_Packer_Text (x : ((List (El .u8)) × (Bool) × Unit) × (List UInt8)) (F : Nat) : fnRun TT Tryd.prog (e_pack_Packer_Text F) s_pack_Packer_Text (bodyOf 38) F x = M_pack_Packer_Text F x := by kernel_rfl
theorem c_pack_Packer_Text (F : Nat) : Ctr TT Tryd.prog 38 (conOf TT s_pack_Packer_Text (M_pack_Packer_Text F)) :=
  ctr_of (code := bodyOf 38) Tryd.func38 (by kernel_rfl) (by kernel_rfl) (by kernel_rfl) (by kernel_rfl) (envS_ok (envS_ok envN_ok (c_pack_Packer_Num F)) (c_pack_Packer_Raw F)) hm (by kernel_rfl) (fun x r h => ⟨F, (t_pack_Packer_Text x F).trans h⟩)
theorem mo_pack_Packer_Text {F F' : Nat} (h : F ≤ F') : ∀ v, Le (M_pack_Packer_Text F v) (M_pack_Packer_Text F' v) := by
  intro v
  unfold M_pack_Packer_Text
  with_reducible repeat (first | (intro v) | exact Le.refl _ | exact h | exact mo_pack_Packer_Num h _ | exact mo_pack_Packer_Raw h _ | apply Le.bind | apply Le.ite | apply Le.loop | apply Le.sumC)
end Go.Vm
