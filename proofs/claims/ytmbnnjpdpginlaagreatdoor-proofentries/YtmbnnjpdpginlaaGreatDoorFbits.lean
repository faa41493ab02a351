/- Models of functions of the program, and that each keeps its contract: for all arguments of its shape. No condition. -/
import Derived.Test.YtmbnnjpdpginlaaGreatDoorKt
namespace Go.Vm
open Go.Proofs
set_option linter.unusedVariables false
noncomputable def s_math_bits_Len64 : Spec Kd := { params := [(.a (.int .u64))], ret := (.one (.a (.int .i64))), pins := [], pl := { nt := 25, joins := [(900014, (.norm, ⟨[.tmp 0 (.a (.int .u64)), .tmp 2 (.a (.int .i64))], [], []⟩), []), (600008, (.norm, ⟨[.tmp 0 (.a (.int .u64)), .tmp 2 (.a (.int .i64))], [], []⟩), []), (300004, (.norm, ⟨[.tmp 0 (.a (.int .u64)), .tmp 2 (.a (.int .i64))], [], []⟩), [])] }, rfrz := [], ts := [2] }
noncomputable def e_math_bits_Len64 (F : Nat) : Env El := envN
/-- math/bits.Len64 -/
noncomputable def M_math_bits_Len64 (F : Nat) (x : (Int)) : Option (Int) :=
  (if decide (4294967296 ≤ x) = true then some (shr IntKind.u64 x 32, 32, ()) else some (x, 0, ())).bind fun v0 =>
    (if decide (65536 ≤ v0.1) = true then some (shr IntKind.u64 v0.1 16, IntKind.i64.wrap (v0.2.1 + 16), ()) else some (v0.1, v0.2.1, ())).bind fun v1 =>
      (if decide (256 ≤ v1.1) = true then some (shr IntKind.u64 v1.1 8, IntKind.i64.wrap (v1.2.1 + 8), ()) else some (v1.1, v1.2.1, ())).bind fun v2 =>
        (idx ([0, 1, 2, 2, 3, 3, 3, 3, 4, 4, 4, 4, 4, 4, 4, 4, 5, 5, 5, 5, 5, 5, 5, 5, 5, 5, 5, 5, 5, 5, 5, 5, 6, 6, 6, 6, 6, 6, 6, 6, 6, 6, 6, 6, 6, 6, 6, 6, 6, 6, 6, 6, 6, 6, 6, 6, 6, 6, 6, 6, 6, 6, 6, 6, 7, 7, 7, 7, 7, 7, 7, 7, 7, 7, 7, 7, 7, 7, 7, 7, 7, 7, 7, 7, 7, 7, 7, 7, 7, 7, 7, 7, 7, 7, 7, 7, 7, 7, 7, 7, 7, 7, 7, 7, 7, 7, 7, 7, 7, 7, 7, 7, 7, 7, 7, 7, 7, 7, 7, 7, 7, 7, 7, 7, 7, 7, 7, 7, 8, 8, 8, 8, 8, 8, 8, 8, 8, 8, 8, 8, 8, 8, 8, 8, 8, 8, 8, 8, 8, 8, 8, 8, 8, 8, 8, 8, 8, 8, 8, 8, 8, 8, 8, 8, 8, 8, 8, 8, 8, 8, 8, 8, 8, 8, 8, 8, 8, 8, 8, 8, 8, 8, 8, 8, 8, 8, 8, 8, 8, 8, 8, 8, 8, 8, 8, 8, 8, 8, 8, 8, 8, 8, 8, 8, 8, 8, 8, 8, 8, 8, 8, 8, 8, 8, 8, 8, 8, 8, 8, 8, 8, 8, 8, 8, 8, 8, 8, 8, 8, 8, 8, 8, 8, 8, 8, 8, 8, 8, 8, 8, 8, 8, 8, 8, 8, 8, 8, 8, 8, 8, 8, 8, 8, 8, 8, 8] : List UInt8)
              (IntKind.u8.wrap v2.1)).bind
          fun v3 => some (IntKind.i64.wrap (v2.2.1 + IntKind.i64.wrap (↑v3.toNat : Int)))
theorem t_math_bits_Len64 (x : (Int)) (F : Nat) : fnRun TT Tryz.prog (e_math_bits_Len64 F) s_math_bits_Len64 (bodyOf 118) F x = M_math_bits_Len64 F x := by kernel_rfl
theorem c_math_bits_Len64 (F : Nat) : Ctr TT Tryz.prog 118 (conOf TT s_math_bits_Len64 (M_math_bits_Len64 F)) :=
  ctr_of (code := bodyOf 118) Tryz.func118 (by kernel_rfl) (by kernel_rfl) (by kernel_rfl) (by kernel_rfl) envN_ok hm (by kernel_rfl) (fun x r h => ⟨F, (t_math_bits_Len64 x F).trans h⟩)
theorem mo_math_bits_Len64 {F F' : Nat} (h : F ≤ F') : ∀ v, Le (M_math_bits_Len64 F v) (M_math_bits_Len64 F' v) := by
  intro v
  unfold M_math_bits_Len64
  with_reducible repeat (first | (intro v) | exact Le.refl _ | exact h | apply Le.bind | apply Le.ite | apply Le.loop | apply Le.sumC)
noncomputable def s_math_bits_Len32 : Spec Kd := { params := [(.a (.int .u32))], ret := (.one (.a (.int .i64))), pins := [], pl := { nt := 19, joins := [(600008, (.norm, ⟨[.tmp 0 (.a (.int .u32)), .tmp 2 (.a (.int .i64))], [], []⟩), []), (300004, (.norm, ⟨[.tmp 0 (.a (.int .u32)), .tmp 2 (.a (.int .i64))], [], []⟩), [])] }, rfrz := [], ts := [2] }
noncomputable def e_math_bits_Len32 (F : Nat) : Env El := envN
/-- math/bits.Len32 -/
noncomputable def M_math_bits_Len32 (F : Nat) (x : (Int)) : Option (Int) :=
  (if decide (65536 ≤ x) = true then some (shr IntKind.u32 x 16, 16, ()) else some (x, 0, ())).bind fun v0 =>
    (if decide (256 ≤ v0.1) = true then some (shr IntKind.u32 v0.1 8, IntKind.i64.wrap (v0.2.1 + 8), ()) else some (v0.1, v0.2.1, ())).bind fun v1 =>
      (idx ([0, 1, 2, 2, 3, 3, 3, 3, 4, 4, 4, 4, 4, 4, 4, 4, 5, 5, 5, 5, 5, 5, 5, 5, 5, 5, 5, 5, 5, 5, 5, 5, 6, 6, 6, 6, 6, 6, 6, 6, 6, 6, 6, 6, 6, 6, 6, 6, 6, 6, 6, 6, 6, 6, 6, 6, 6, 6, 6, 6, 6, 6, 6, 6, 7, 7, 7, 7, 7, 7, 7, 7, 7, 7, 7, 7, 7, 7, 7, 7, 7, 7, 7, 7, 7, 7, 7, 7, 7, 7, 7, 7, 7, 7, 7, 7, 7, 7, 7, 7, 7, 7, 7, 7, 7, 7, 7, 7, 7, 7, 7, 7, 7, 7, 7, 7, 7, 7, 7, 7, 7, 7, 7, 7, 7, 7, 7, 7, 8, 8, 8, 8, 8, 8, 8, 8, 8, 8, 8, 8, 8, 8, 8, 8, 8, 8, 8, 8, 8, 8, 8, 8, 8, 8, 8, 8, 8, 8, 8, 8, 8, 8, 8, 8, 8, 8, 8, 8, 8, 8, 8, 8, 8, 8, 8, 8, 8, 8, 8, 8, 8, 8, 8, 8, 8, 8, 8, 8, 8, 8, 8, 8, 8, 8, 8, 8, 8, 8, 8, 8, 8, 8, 8, 8, 8, 8, 8, 8, 8, 8, 8, 8, 8, 8, 8, 8, 8, 8, 8, 8, 8, 8, 8, 8, 8, 8, 8, 8, 8, 8, 8, 8, 8, 8, 8, 8, 8, 8, 8, 8, 8, 8, 8, 8, 8, 8, 8, 8, 8, 8, 8, 8, 8, 8, 8, 8] : List UInt8)
            (IntKind.u8.wrap v1.1)).bind
        fun v2 => some (IntKind.i64.wrap (v1.2.1 + IntKind.i64.wrap (↑v2.toNat : Int)))
theorem t_math_bits_Len32 (x : (Int)) (F : Nat) : fnRun TT Tryz.prog (e_math_bits_Len32 F) s_math_bits_Len32 (bodyOf 117) F x = M_math_bits_Len32 F x := by kernel_rfl
theorem c_math_bits_Len32 (F : Nat) : Ctr TT Tryz.prog 117 (conOf TT s_math_bits_Len32 (M_math_bits_Len32 F)) :=
  ctr_of (code := bodyOf 117) Tryz.func117 (by kernel_rfl) (by kernel_rfl) (by kernel_rfl) (by kernel_rfl) envN_ok hm (by kernel_rfl) (fun x r h => ⟨F, (t_math_bits_Len32 x F).trans h⟩)
theorem mo_math_bits_Len32 {F F' : Nat} (h : F ≤ F') : ∀ v, Le (M_math_bits_Len32 F v) (M_math_bits_Len32 F' v) := by
  intro v
  unfold M_math_bits_Len32
  with_reducible repeat (first | (intro v) | exact Le.refl _ | exact h | apply Le.bind | apply Le.ite | apply Le.loop | apply Le.sumC)
noncomputable def s_math_bits_Len : Spec Kd := { params := [(.a (.int .u64))], ret := (.one (.a (.int .i64))), pins := [], pl := { nt := 8 }, rfrz := [], ts := [2] }
noncomputable def e_math_bits_Len (F : Nat) : Env El := (envS 118 (conOf TT s_math_bits_Len64 (M_math_bits_Len64 F)) (envS 117 (conOf TT s_math_bits_Len32 (M_math_bits_Len32 F)) envN))
/-- math/bits.Len -/
noncomputable def M_math_bits_Len (F : Nat) (x : (Int)) : Option (Int) :=
  (M_math_bits_Len64 F x).bind fun v0 => some v0
theorem t_math_bits_Len (x : (Int)) (F : Nat) : fnRun TT Tryz.prog (e_math_bits_Len F) s_math_bits_Len (bodyOf 101) F x = M_math_bits_Len F x := by kernel_rfl
theorem c_math_bits_Len (F : Nat) : Ctr TT Tryz.prog 101 (conOf TT s_math_bits_Len (M_math_bits_Len F)) :=
  ctr_of (code := bodyOf 101) Tryz.func101 (by kernel_rfl) (by kernel_rfl) (by kernel_rfl) (by kernel_rfl) (envS_ok (envS_ok envN_ok (c_math_bits_Len32 F)) (c_math_bits_Len64 F)) hm (by kernel_rfl) (fun x r h => ⟨F, (t_math_bits_Len x F).trans h⟩)
theorem mo_math_bits_Len {F F' : Nat} (h : F ≤ F') : ∀ v, Le (M_math_bits_Len F v) (M_math_bits_Len F' v) := by
  intro v
  unfold M_math_bits_Len
  with_reducible repeat (first | (intro v) | exact Le.refl _ | exact h | exact mo_math_bits_Len32 h _ | exact mo_math_bits_Len64 h _ | apply Le.bind | apply Le.ite | apply Le.loop | apply Le.sumC)

end Go.Vm
