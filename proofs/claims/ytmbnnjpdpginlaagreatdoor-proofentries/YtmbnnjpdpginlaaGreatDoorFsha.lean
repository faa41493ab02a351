/- Models of functions of the program, and that each keeps its contract: for all arguments of its shape. No condition. -/
import Derived.Test.YtmbnnjpdpginlaaGreatDoorKt
namespace Go.Vm
open Go.Proofs
set_option linter.unusedVariables false
noncomputable def s_math_bits_RotateLeft32 : Spec Kd := { params := [(.a (.int .u32)), (.a (.int .i64))], ret := (.one (.a (.int .u32))), pins := [], pl := { nt := 17 }, rfrz := [], ts := [4] }
noncomputable def e_math_bits_RotateLeft32 (F : Nat) : Env El := envN
/-- math/bits.RotateLeft32 -/
noncomputable def M_math_bits_RotateLeft32 (F : Nat) (x : (Int) × (Int)) : Option (Int) :=
  if decide (0 ≤ iand IntKind.u64 (IntKind.u64.wrap x.2) 31) = true then
    if decide (0 ≤ IntKind.u64.wrap (32 - iand IntKind.u64 (IntKind.u64.wrap x.2) 31)) = true then
      some
        (ior IntKind.u32 (shl IntKind.u32 x.1 (iand IntKind.u64 (IntKind.u64.wrap x.2) 31))
          (shr IntKind.u32 x.1 (IntKind.u64.wrap (32 - iand IntKind.u64 (IntKind.u64.wrap x.2) 31))))
    else none
  else none
theorem t_math_bits_RotateLeft32 (x : (Int) × (Int)) (F : Nat) : fnRun TT Tryz.prog (e_math_bits_RotateLeft32 F) s_math_bits_RotateLeft32 (bodyOf 140) F x = M_math_bits_RotateLeft32 F x := by kernel_rfl
theorem c_math_bits_RotateLeft32 (F : Nat) : Ctr TT Tryz.prog 140 (conOf TT s_math_bits_RotateLeft32 (M_math_bits_RotateLeft32 F)) :=
  ctr_of (code := bodyOf 140) Tryz.func140 (by kernel_rfl) (by kernel_rfl) (by kernel_rfl) (by kernel_rfl) envN_ok hm (by kernel_rfl) (fun x r h => ⟨F, (t_math_bits_RotateLeft32 x F).trans h⟩)
theorem mo_math_bits_RotateLeft32 {F F' : Nat} (h : F ≤ F') : ∀ v, Le (M_math_bits_RotateLeft32 F v) (M_math_bits_RotateLeft32 F' v) := by
  intro v
  unfold M_math_bits_RotateLeft32
  with_reducible repeat (first | (intro v) | exact Le.refl _ | exact h | apply Le.bind | apply Le.ite | apply Le.loop | apply Le.sumC)
noncomputable def s_sha_right : Spec Kd := { params := [(.a (.int .u32)), (.a (.int .i64))], ret := (.one (.a (.int .u32))), pins := [], pl := { nt := 9 }, rfrz := [], ts := [4] }
noncomputable def e_sha_right (F : Nat) : Env El := (envS 140 (conOf TT s_math_bits_RotateLeft32 (M_math_bits_RotateLeft32 F)) envN)
/-- concierge/sha.right -/
noncomputable def M_sha_right (F : Nat) (x : (Int) × (Int)) : Option (Int) :=
  (M_math_bits_RotateLeft32 F (x.1, IntKind.i64.wrap (0 - x.2))).bind fun v0 => some v0
theorem t_sha_right (x : (Int) × (Int)) (F : Nat) : fnRun TT Tryz.prog (e_sha_right F) s_sha_right (bodyOf 132) F x = M_sha_right F x := by kernel_rfl
theorem c_sha_right (F : Nat) : Ctr TT Tryz.prog 132 (conOf TT s_sha_right (M_sha_right F)) :=
  ctr_of (code := bodyOf 132) Tryz.func132 (by kernel_rfl) (by kernel_rfl) (by kernel_rfl) (by kernel_rfl) (envS_ok envN_ok (c_math_bits_RotateLeft32 F)) hm (by kernel_rfl) (fun x r h => ⟨F, (t_sha_right x F).trans h⟩)
theorem mo_sha_right {F F' : Nat} (h : F ≤ F') : ∀ v, Le (M_sha_right F v) (M_sha_right F' v) := by
  intro v
  unfold M_sha_right
  with_reducible repeat (first | (intro v) | exact Le.refl _ | exact h | exact mo_math_bits_RotateLeft32 h _ | apply Le.bind | apply Le.ite | apply Le.loop | apply Le.sumC)
noncomputable def s_sha_schedule : Spec Kd := { params := [(.a .str)], ret := (.one (.a (.arr 64 .u32))), pins := [], pl := { nt := 85, loops := [(2, ⟨[.tmp 2 (.a (.ptr 128 0)), .tmp 3 (.a (.ptr 192 0)), .tmp 5 (.a (.int .i64)), .box 128 (.arr 123 64 .u32), .box 192 (.arr 123 64 .u32)], [], []⟩, (.exit 2, ⟨[.tmp 2 (.a (.ptr 128 0)), .tmp 3 (.a (.ptr 192 0)), .box 128 (.arr 123 64 .u32), .box 192 (.arr 123 64 .u32)], [], []⟩), []), (0, ⟨[.tmp 0 (.a .str), .tmp 2 (.a (.ptr 128 0)), .tmp 3 (.a (.ptr 192 0)), .tmp 8 (.a (.int .i64)), .box 128 (.arr 123 64 .u32), .box 192 (.arr 123 64 .u32)], [], []⟩, (.exit 0, ⟨[.tmp 2 (.a (.ptr 128 0)), .tmp 3 (.a (.ptr 192 0)), .box 128 (.arr 123 64 .u32), .box 192 (.arr 123 64 .u32)], [], []⟩), [])], ends := [(10, ⟨[.tmp 2 (.a (.ptr 128 0)), .tmp 3 (.a (.ptr 192 0)), .tmp 5 (.a (.int .i64)), .tmp 6 (.a (.int .u32)), .tmp 7 (.a (.int .u32)), .box 128 (.arr 123 64 .u32), .box 192 (.arr 123 64 .u32)], [], []⟩)] }, rfrz := [], ts := [85], rc := [(2, some 123)] }
noncomputable def e_sha_schedule (F : Nat) : Env El := (envS 132 (conOf TT s_sha_right (M_sha_right F)) envN)
/-- concierge/sha.schedule -/
noncomputable def M_sha_schedule_l0 (F : Nat) (v0 : (List UInt8 × Unit × Unit × Int × List Int × List Int × Unit)) : Option ((List UInt8 × Unit × Unit × Int × List Int × List Int × Unit) ⊕ (Unit × Unit × List Int × List Int × Unit)) :=
  if decide (v0.2.2.2.1 < 16) = true then
          (idx v0.1 (IntKind.i64.wrap (4 * v0.2.2.2.1))).bind fun v1 =>
            (idx v0.1 (IntKind.i64.wrap (IntKind.i64.wrap (4 * v0.2.2.2.1) + 1))).bind fun v2 =>
              (idx v0.1 (IntKind.i64.wrap (IntKind.i64.wrap (4 * v0.2.2.2.1) + 2))).bind fun v3 =>
                (idx v0.1 (IntKind.i64.wrap (IntKind.i64.wrap (4 * v0.2.2.2.1) + 3))).bind fun v4 =>
                  if (decide (0 ≤ v0.2.2.2.1) && decide (v0.2.2.2.1 < 64)) = true then
                    (aset v0.2.2.2.2.2.1 v0.2.2.2.1.toNat
                          (ior IntKind.u32
                            (ior IntKind.u32
                              (ior IntKind.u32 (shl IntKind.u32 (IntKind.u32.wrap (↑v1.toNat : Int)) 24)
                                (shl IntKind.u32 (IntKind.u32.wrap (↑v2.toNat : Int)) 16))
                              (shl IntKind.u32 (IntKind.u32.wrap (↑v3.toNat : Int)) 8))
                            (IntKind.u32.wrap (↑v4.toNat : Int)))).bind
                      fun v5 => some (Sum.inl (v0.1, (), (), IntKind.i64.wrap (v0.2.2.2.1 + 1), v0.2.2.2.2.1, v5, ()))
                  else none
        else some (Sum.inr ((), (), v0.2.2.2.2.1, v0.2.2.2.2.2.1, ()))
noncomputable def M_sha_schedule_l1 (F : Nat) (v7 : (Unit × Unit × Int × List Int × List Int × Unit)) : Option ((Unit × Unit × Int × List Int × List Int × Unit) ⊕ (Unit × Unit × List Int × List Int × Unit)) :=
  if decide (v7.2.2.1 < 64) = true then
            (if (decide (0 ≤ IntKind.i64.wrap (v7.2.2.1 - 15)) && decide (IntKind.i64.wrap (v7.2.2.1 - 15) < 64)) = true then
                  (anth v7.2.2.2.2.1 (IntKind.i64.wrap (v7.2.2.1 - 15)).toNat).bind fun v8 =>
                    if (decide (0 ≤ IntKind.i64.wrap (v7.2.2.1 - 2)) && decide (IntKind.i64.wrap (v7.2.2.1 - 2) < 64)) = true then
                      (anth v7.2.2.2.2.1 (IntKind.i64.wrap (v7.2.2.1 - 2)).toNat).bind fun v9 => some ((), (), v7.2.2.1, v8, v9, v7.2.2.2.1, v7.2.2.2.2.1, ())
                    else none
                else none).bind
              fun v10 =>
              if (decide (0 ≤ IntKind.i64.wrap (v10.2.2.1 - 16)) && decide (IntKind.i64.wrap (v10.2.2.1 - 16) < 64)) = true then
                (anth v10.2.2.2.2.2.2.1 (IntKind.i64.wrap (v10.2.2.1 - 16)).toNat).bind fun v11 =>
                  (M_sha_right F (v10.2.2.2.1, 7)).bind fun v12 =>
                    (M_sha_right F (v10.2.2.2.1, 18)).bind fun v13 =>
                      if (decide (0 ≤ IntKind.i64.wrap (v10.2.2.1 - 7)) && decide (IntKind.i64.wrap (v10.2.2.1 - 7) < 64)) = true then
                        (anth v10.2.2.2.2.2.2.1 (IntKind.i64.wrap (v10.2.2.1 - 7)).toNat).bind fun v14 =>
                          (M_sha_right F (v10.2.2.2.2.1, 17)).bind fun v15 =>
                            (M_sha_right F (v10.2.2.2.2.1, 19)).bind fun v16 =>
                              if (decide (0 ≤ v10.2.2.1) && decide (v10.2.2.1 < 64)) = true then
                                (aset v10.2.2.2.2.2.2.1 v10.2.2.1.toNat
                                      (IntKind.u32.wrap
                                        (IntKind.u32.wrap
                                            (IntKind.u32.wrap (v11 + ixor IntKind.u32 (ixor IntKind.u32 v12 v13) (shr IntKind.u32 v10.2.2.2.1 3)) + v14) +
                                          ixor IntKind.u32 (ixor IntKind.u32 v15 v16) (shr IntKind.u32 v10.2.2.2.2.1 10)))).bind
                                  fun v17 => some (Sum.inl ((), (), IntKind.i64.wrap (v10.2.2.1 + 1), v10.2.2.2.2.2.1, v17, ()))
                              else none
                      else none
              else none
          else some (Sum.inr ((), (), v7.2.2.2.1, v7.2.2.2.2.1, ()))
noncomputable def M_sha_schedule (F : Nat) (x : (List UInt8)) : Option (List (El .u32)) :=
  (loopM (M_sha_schedule_l0 F)
        F
        (x, (), (), 0,
          [0, 0, 0, 0, 0, 0, 0, 0, 0, 0, 0, 0, 0, 0, 0, 0, 0, 0, 0, 0, 0, 0, 0, 0, 0, 0, 0, 0, 0, 0, 0, 0, 0, 0, 0, 0, 0, 0, 0, 0, 0, 0, 0, 0, 0, 0, 0, 0, 0, 0,
            0, 0, 0, 0, 0, 0, 0, 0, 0, 0, 0, 0, 0, 0],
          [0, 0, 0, 0, 0, 0, 0, 0, 0, 0, 0, 0, 0, 0, 0, 0, 0, 0, 0, 0, 0, 0, 0, 0, 0, 0, 0, 0, 0, 0, 0, 0, 0, 0, 0, 0, 0, 0, 0, 0, 0, 0, 0, 0, 0, 0, 0, 0, 0, 0,
            0, 0, 0, 0, 0, 0, 0, 0, 0, 0, 0, 0, 0, 0],
          ())).bind
    fun v6 =>
    (loopM (M_sha_schedule_l1 F)
          F ((), (), 16, v6.2.2.1, v6.2.2.2.1, ())).bind
      fun v18 => some v18.2.2.2.1
theorem t_sha_schedule (x : (List UInt8)) (F : Nat) : fnRun TT Tryz.prog (e_sha_schedule F) s_sha_schedule (bodyOf 131) F x = M_sha_schedule F x := by kernel_rfl
theorem c_sha_schedule (F : Nat) : Ctr TT Tryz.prog 131 (conOf TT s_sha_schedule (M_sha_schedule F)) :=
  ctr_of (code := bodyOf 131) Tryz.func131 (by kernel_rfl) (by kernel_rfl) (by kernel_rfl) (by kernel_rfl) (envS_ok envN_ok (c_sha_right F)) hm (by kernel_rfl) (fun x r h => ⟨F, (t_sha_schedule x F).trans h⟩)
theorem mo_sha_schedule_l0 {F F' : Nat} (h : F ≤ F') : ∀ v, Le (M_sha_schedule_l0 F v) (M_sha_schedule_l0 F' v) := by
  intro v
  unfold M_sha_schedule_l0
  with_reducible repeat (first | (intro v) | exact Le.refl _ | exact h | exact mo_sha_right h _ | apply Le.bind | apply Le.ite | apply Le.loop | apply Le.sumC)
theorem mo_sha_schedule_l1 {F F' : Nat} (h : F ≤ F') : ∀ v, Le (M_sha_schedule_l1 F v) (M_sha_schedule_l1 F' v) := by
  intro v
  unfold M_sha_schedule_l1
  with_reducible repeat (first | (intro v) | exact Le.refl _ | exact h | exact mo_sha_right h _ | exact mo_sha_schedule_l0 h | exact mo_sha_schedule_l0 h _ | apply Le.bind | apply Le.ite | apply Le.loop | apply Le.sumC)
theorem mo_sha_schedule {F F' : Nat} (h : F ≤ F') : ∀ v, Le (M_sha_schedule F v) (M_sha_schedule F' v) := by
  intro v
  unfold M_sha_schedule
  with_reducible repeat (first | (intro v) | exact Le.refl _ | exact h | exact mo_sha_right h _ | exact mo_sha_schedule_l0 h | exact mo_sha_schedule_l0 h _ | exact mo_sha_schedule_l1 h | exact mo_sha_schedule_l1 h _ | apply Le.bind | apply Le.ite | apply Le.loop | apply Le.sumC)
noncomputable def s_sha_constants : Spec Kd := { params := [], ret := (.one (.a (.arr 64 .u32))), pins := [], pl := { nt := 2 }, rfrz := [], ts := [2], rc := [(0, some 123)] }
noncomputable def e_sha_constants (F : Nat) : Env El := envN
/-- concierge/sha.constants -/
noncomputable def M_sha_constants (F : Nat) (x : Unit) : Option (List (El .u32)) :=
  some
    [1116352408, 1899447441, 3049323471, 3921009573, 961987163, 1508970993, 2453635748, 2870763221, 3624381080, 310598401, 607225278, 1426881987, 1925078388,
      2162078206, 2614888103, 3248222580, 3835390401, 4022224774, 264347078, 604807628, 770255983, 1249150122, 1555081692, 1996064986, 2554220882, 2821834349,
      2952996808, 3210313671, 3336571891, 3584528711, 113926993, 338241895, 666307205, 773529912, 1294757372, 1396182291, 1695183700, 1986661051, 2177026350,
      2456956037, 2730485921, 2820302411, 3259730800, 3345764771, 3516065817, 3600352804, 4094571909, 275423344, 430227734, 506948616, 659060556, 883997877,
      958139571, 1322822218, 1537002063, 1747873779, 1955562222, 2024104815, 2227730452, 2361852424, 2428436474, 2756734187, 3204031479, 3329325298]
theorem t_sha_constants (x : Unit) (F : Nat) : fnRun TT Tryz.prog (e_sha_constants F) s_sha_constants (bodyOf 130) F x = M_sha_constants F x := by kernel_rfl
theorem c_sha_constants (F : Nat) : Ctr TT Tryz.prog 130 (conOf TT s_sha_constants (M_sha_constants F)) :=
  ctr_of (code := bodyOf 130) Tryz.func130 (by kernel_rfl) (by kernel_rfl) (by kernel_rfl) (by kernel_rfl) envN_ok hm (by kernel_rfl) (fun x r h => ⟨F, (t_sha_constants x F).trans h⟩)
theorem mo_sha_constants {F F' : Nat} (h : F ≤ F') : ∀ v, Le (M_sha_constants F v) (M_sha_constants F' v) := by
  intro v
  unfold M_sha_constants
  with_reducible repeat (first | (intro v) | exact Le.refl _ | exact h | apply Le.bind | apply Le.ite | apply Le.loop | apply Le.sumC)
noncomputable def s_sha_start : Spec Kd := { params := [], ret := (.one (.a (.arr 8 .u32))), pins := [], pl := { nt := 2 }, rfrz := [], ts := [2], rc := [(0, some 122)] }
noncomputable def e_sha_start (F : Nat) : Env El := envN
/-- concierge/sha.start -/
noncomputable def M_sha_start (F : Nat) (x : Unit) : Option (List (El .u32)) :=
  some [1779033703, 3144134277, 1013904242, 2773480762, 1359893119, 2600822924, 528734635, 1541459225]
theorem t_sha_start (x : Unit) (F : Nat) : fnRun TT Tryz.prog (e_sha_start F) s_sha_start (bodyOf 120) F x = M_sha_start F x := by kernel_rfl
theorem c_sha_start (F : Nat) : Ctr TT Tryz.prog 120 (conOf TT s_sha_start (M_sha_start F)) :=
  ctr_of (code := bodyOf 120) Tryz.func120 (by kernel_rfl) (by kernel_rfl) (by kernel_rfl) (by kernel_rfl) envN_ok hm (by kernel_rfl) (fun x r h => ⟨F, (t_sha_start x F).trans h⟩)
theorem mo_sha_start {F F' : Nat} (h : F ≤ F') : ∀ v, Le (M_sha_start F v) (M_sha_start F' v) := by
  intro v
  unfold M_sha_start
  with_reducible repeat (first | (intro v) | exact Le.refl _ | exact h | apply Le.bind | apply Le.ite | apply Le.loop | apply Le.sumC)
noncomputable def s_sha_step : Spec Kd := { params := [(.a (.arr 8 .u32)), (.a .str)], ret := (.one (.a (.arr 8 .u32))), pins := [], pl := { nt := 111, loops := [(2, ⟨[.tmp 2 (.a (.ptr 128 0)), .tmp 4 (.a (.ptr 256 0)), .tmp 7 (.a (.ptr 448 0)), .tmp 98 (.a (.int .i64)), .box 128 (.arr 122 8 .u32), .box 256 (.arr 122 8 .u32), .box 448 (.arr 122 8 .u32)], [], []⟩, (.exit 2, ⟨[.tmp 2 (.a (.ptr 128 0)), .tmp 4 (.a (.ptr 256 0)), .box 128 (.arr 122 8 .u32), .box 256 (.arr 122 8 .u32)], [], []⟩), []), (0, ⟨[.tmp 2 (.a (.ptr 128 0)), .tmp 4 (.a (.ptr 256 0)), .tmp 5 (.a (.ptr 320 0)), .tmp 6 (.a (.ptr 384 0)), .tmp 7 (.a (.ptr 448 0)), .tmp 18 (.a (.int .i64)), .box 128 (.arr 122 8 .u32), .box 256 (.arr 122 8 .u32), .box 320 (.arr 123 64 .u32), .box 384 (.arr 123 64 .u32), .box 448 (.arr 122 8 .u32)], [], []⟩, (.exit 0, ⟨[.tmp 2 (.a (.ptr 128 0)), .tmp 4 (.a (.ptr 256 0)), .tmp 7 (.a (.ptr 448 0)), .box 128 (.arr 122 8 .u32), .box 256 (.arr 122 8 .u32), .box 448 (.arr 122 8 .u32)], [], []⟩), [])], ends := [(8, ⟨[.tmp 2 (.a (.ptr 128 0)), .tmp 4 (.a (.ptr 256 0)), .tmp 5 (.a (.ptr 320 0)), .tmp 6 (.a (.ptr 384 0)), .tmp 7 (.a (.ptr 448 0)), .tmp 9 (.a (.int .u32)), .tmp 10 (.a (.int .u32)), .tmp 11 (.a (.int .u32)), .tmp 12 (.a (.int .u32)), .tmp 18 (.a (.int .i64)), .box 128 (.arr 122 8 .u32), .box 256 (.arr 122 8 .u32), .box 320 (.arr 123 64 .u32), .box 384 (.arr 123 64 .u32), .box 448 (.arr 122 8 .u32)], [], []⟩), (7, ⟨[.tmp 2 (.a (.ptr 128 0)), .tmp 4 (.a (.ptr 256 0)), .tmp 5 (.a (.ptr 320 0)), .tmp 6 (.a (.ptr 384 0)), .tmp 7 (.a (.ptr 448 0)), .tmp 9 (.a (.int .u32)), .tmp 10 (.a (.int .u32)), .tmp 11 (.a (.int .u32)), .tmp 18 (.a (.int .i64)), .box 128 (.arr 122 8 .u32), .box 256 (.arr 122 8 .u32), .box 320 (.arr 123 64 .u32), .box 384 (.arr 123 64 .u32), .box 448 (.arr 122 8 .u32)], [], []⟩)] }, rfrz := [], ts := [111], rc := [(4, some 122)] }
noncomputable def e_sha_step (F : Nat) : Env El := (envS 132 (conOf TT s_sha_right (M_sha_right F)) (envS 131 (conOf TT s_sha_schedule (M_sha_schedule F)) (envS 130 (conOf TT s_sha_constants (M_sha_constants F)) envN)))
/-- concierge/sha.step -/
noncomputable def M_sha_step_l0 (F : Nat) (v2 : (Unit × Unit × Unit × Unit × Unit × Int × List Int × List Int × List Int × List Int × List Int × Unit)) : Option ((Unit × Unit × Unit × Unit × Unit × Int × List Int × List Int × List Int × List Int × List Int × Unit) ⊕ (Unit × Unit × Unit × List Int × List Int × List Int × Unit)) :=
  if decide (v2.2.2.2.2.2.1 < 64) = true then
              (anth v2.2.2.2.2.2.2.2.2.2.2.1 0).bind fun v3 =>
                (anth v2.2.2.2.2.2.2.2.2.2.2.1 4).bind fun v4 =>
                  ((anth v2.2.2.2.2.2.2.2.2.2.2.1 7).bind fun v5 =>
                        (M_sha_right F (v4, 6)).bind fun v6 =>
                          (M_sha_right F (v4, 11)).bind fun v7 =>
                            (M_sha_right F (v4, 25)).bind fun v8 =>
                              (anth v2.2.2.2.2.2.2.2.2.2.2.1 5).bind fun v9 =>
                                (anth v2.2.2.2.2.2.2.2.2.2.2.1 6).bind fun v10 =>
                                  if (decide (0 ≤ v2.2.2.2.2.2.1) && decide (v2.2.2.2.2.2.1 < 64)) = true then
                                    (anth v2.2.2.2.2.2.2.2.2.1 v2.2.2.2.2.2.1.toNat).bind fun v11 =>
                                      if (decide (0 ≤ v2.2.2.2.2.2.1) && decide (v2.2.2.2.2.2.1 < 64)) = true then
                                        (anth v2.2.2.2.2.2.2.2.2.2.1 v2.2.2.2.2.2.1.toNat).bind fun v12 =>
                                          some
                                            ((), (), (), (), (), v3, v4,
                                              IntKind.u32.wrap
                                                (IntKind.u32.wrap
                                                    (IntKind.u32.wrap
                                                        (IntKind.u32.wrap (v5 + ixor IntKind.u32 (ixor IntKind.u32 v6 v7) v8) +
                                                          ixor IntKind.u32 (iand IntKind.u32 v4 v9) (iand IntKind.u32 (inot IntKind.u32 v4) v10)) +
                                                      v11) +
                                                  v12),
                                              v2.2.2.2.2.2)
                                      else none
                                  else none).bind
                    fun v13 =>
                    ((M_sha_right F (v13.2.2.2.2.2.1, 2)).bind fun v14 =>
                          (M_sha_right F (v13.2.2.2.2.2.1, 13)).bind fun v15 =>
                            (M_sha_right F (v13.2.2.2.2.2.1, 22)).bind fun v16 =>
                              (anth v13.2.2.2.2.2.2.2.2.2.2.2.2.2.1 1).bind fun v17 =>
                                (anth v13.2.2.2.2.2.2.2.2.2.2.2.2.2.1 2).bind fun v18 =>
                                  (anth v13.2.2.2.2.2.2.2.2.2.2.2.2.2.1 1).bind fun v19 =>
                                    (anth v13.2.2.2.2.2.2.2.2.2.2.2.2.2.1 2).bind fun v20 =>
                                      some
                                        ((), (), (), (), (), v13.2.2.2.2.2.1, v13.2.2.2.2.2.2.1, v13.2.2.2.2.2.2.2.1,
                                          IntKind.u32.wrap
                                            (ixor IntKind.u32 (ixor IntKind.u32 v14 v15) v16 +
                                              ixor IntKind.u32 (ixor IntKind.u32 (iand IntKind.u32 v13.2.2.2.2.2.1 v17) (iand IntKind.u32 v13.2.2.2.2.2.1 v18))
                                                (iand IntKind.u32 v19 v20)),
                                          v13.2.2.2.2.2.2.2.2)).bind
                      fun v21 =>
                      (anth v21.2.2.2.2.2.2.2.2.2.2.2.2.2.2.1 1).bind fun v22 =>
                        (anth v21.2.2.2.2.2.2.2.2.2.2.2.2.2.2.1 2).bind fun v23 =>
                          (anth v21.2.2.2.2.2.2.2.2.2.2.2.2.2.2.1 3).bind fun v24 =>
                            (anth v21.2.2.2.2.2.2.2.2.2.2.2.2.2.2.1 5).bind fun v25 =>
                              (anth v21.2.2.2.2.2.2.2.2.2.2.2.2.2.2.1 6).bind fun v26 =>
                                some
                                  (Sum.inl
                                    ((), (), (), (), (), IntKind.i64.wrap (v21.2.2.2.2.2.2.2.2.2.1 + 1), v21.2.2.2.2.2.2.2.2.2.2.1, v21.2.2.2.2.2.2.2.2.2.2.2.1,
                                      v21.2.2.2.2.2.2.2.2.2.2.2.2.1, v21.2.2.2.2.2.2.2.2.2.2.2.2.2.1,
                                      [IntKind.u32.wrap (v21.2.2.2.2.2.2.2.1 + v21.2.2.2.2.2.2.2.2.1), v21.2.2.2.2.2.1, v22, v23,
                                        IntKind.u32.wrap (v24 + v21.2.2.2.2.2.2.2.1), v21.2.2.2.2.2.2.1, v25, v26],
                                      ()))
            else some (Sum.inr ((), (), (), v2.2.2.2.2.2.2.1, v2.2.2.2.2.2.2.2.1, v2.2.2.2.2.2.2.2.2.2.2.1, ()))
noncomputable def M_sha_step_l1 (F : Nat) (v28 : (Unit × Unit × Unit × Int × List Int × List Int × List Int × Unit)) : Option ((Unit × Unit × Unit × Int × List Int × List Int × List Int × Unit) ⊕ (Unit × Unit × List Int × List Int × Unit)) :=
  if decide (v28.2.2.2.1 < 8) = true then
                if (decide (0 ≤ v28.2.2.2.1) && decide (v28.2.2.2.1 < 8)) = true then
                  (anth v28.2.2.2.2.1 v28.2.2.2.1.toNat).bind fun v29 =>
                    if (decide (0 ≤ v28.2.2.2.1) && decide (v28.2.2.2.1 < 8)) = true then
                      (anth v28.2.2.2.2.2.2.1 v28.2.2.2.1.toNat).bind fun v30 =>
                        if (decide (0 ≤ v28.2.2.2.1) && decide (v28.2.2.2.1 < 8)) = true then
                          (aset v28.2.2.2.2.1 v28.2.2.2.1.toNat (IntKind.u32.wrap (v29 + v30))).bind fun v31 =>
                            some (Sum.inl ((), (), (), IntKind.i64.wrap (v28.2.2.2.1 + 1), v31, v28.2.2.2.2.2.1, v28.2.2.2.2.2.2.1, ()))
                        else none
                    else none
                else none
              else some (Sum.inr ((), (), v28.2.2.2.2.1, v28.2.2.2.2.2.1, ()))
noncomputable def M_sha_step (F : Nat) (x : (List (El .u32)) × (List UInt8)) : Option (List (El .u32)) :=
  (M_sha_constants F ()).bind fun v0 =>
    (M_sha_schedule F x.2).bind fun v1 =>
      (loopM (M_sha_step_l0 F)
            F ((), (), (), (), (), 0, x.1, [0, 0, 0, 0, 0, 0, 0, 0], v0, v1, x.1, ())).bind
        fun v27 =>
        (loopM (M_sha_step_l1 F)
              F ((), (), (), 0, v27.2.2.2.1, v27.2.2.2.2.1, v27.2.2.2.2.2.1, ())).bind
          fun v32 => some v32.2.2.1
theorem t_sha_step (x : (List (El .u32)) × (List UInt8)) (F : Nat) : fnRun TT Tryz.prog (e_sha_step F) s_sha_step (bodyOf 121) F x = M_sha_step F x := by kernel_rfl
theorem c_sha_step (F : Nat) : Ctr TT Tryz.prog 121 (conOf TT s_sha_step (M_sha_step F)) :=
  ctr_of (code := bodyOf 121) Tryz.func121 (by kernel_rfl) (by kernel_rfl) (by kernel_rfl) (by kernel_rfl) (envS_ok (envS_ok (envS_ok envN_ok (c_sha_constants F)) (c_sha_schedule F)) (c_sha_right F)) hm (by kernel_rfl) (fun x r h => ⟨F, (t_sha_step x F).trans h⟩)
theorem mo_sha_step_l0 {F F' : Nat} (h : F ≤ F') : ∀ v, Le (M_sha_step_l0 F v) (M_sha_step_l0 F' v) := by
  intro v
  unfold M_sha_step_l0
  with_reducible repeat (first | (intro v) | exact Le.refl _ | exact h | exact mo_sha_constants h _ | exact mo_sha_schedule h _ | exact mo_sha_right h _ | apply Le.bind | apply Le.ite | apply Le.loop | apply Le.sumC)
theorem mo_sha_step_l1 {F F' : Nat} (h : F ≤ F') : ∀ v, Le (M_sha_step_l1 F v) (M_sha_step_l1 F' v) := by
  intro v
  unfold M_sha_step_l1
  with_reducible repeat (first | (intro v) | exact Le.refl _ | exact h | exact mo_sha_constants h _ | exact mo_sha_schedule h _ | exact mo_sha_right h _ | exact mo_sha_step_l0 h | exact mo_sha_step_l0 h _ | apply Le.bind | apply Le.ite | apply Le.loop | apply Le.sumC)
theorem mo_sha_step {F F' : Nat} (h : F ≤ F') : ∀ v, Le (M_sha_step F v) (M_sha_step F' v) := by
  intro v
  unfold M_sha_step
  with_reducible repeat (first | (intro v) | exact Le.refl _ | exact h | exact mo_sha_constants h _ | exact mo_sha_schedule h _ | exact mo_sha_right h _ | exact mo_sha_step_l0 h | exact mo_sha_step_l0 h _ | exact mo_sha_step_l1 h | exact mo_sha_step_l1 h _ | apply Le.bind | apply Le.ite | apply Le.loop | apply Le.sumC)
noncomputable def s_sha_New : Spec Kd := { params := [], ret := (.one (.newb 136 [(.int .u32), (.int .u32), (.int .u32), (.int .u32), (.int .u32), (.int .u32), (.int .u32), (.int .u32), .str, (.int .i64)])), pins := [], pl := { nt := 4 }, rfrz := [], ts := [0] }
noncomputable def e_sha_New (F : Nat) : Env El := (envS 120 (conOf TT s_sha_start (M_sha_start F)) envN)
/-- concierge/sha.New -/
noncomputable def M_sha_New (F : Nat) (x : Unit) : Option ((Int) × (Int) × (Int) × (Int) × (Int) × (Int) × (Int) × (Int) × (List UInt8) × (Int) × Unit) :=
  (M_sha_start F ()).bind fun v0 => some (agd v0 0 0, agd v0 1 0, agd v0 2 0, agd v0 3 0, agd v0 4 0, agd v0 5 0, agd v0 6 0, agd v0 7 0, [], 0, ())
theorem t_sha_New (x : Unit) (F : Nat) : fnRun TT Tryz.prog (e_sha_New F) s_sha_New (bodyOf 110) F x = M_sha_New F x := by kernel_rfl
theorem c_sha_New (F : Nat) : Ctr TT Tryz.prog 110 (conOf TT s_sha_New (M_sha_New F)) :=
  ctr_of (code := bodyOf 110) Tryz.func110 (by kernel_rfl) (by kernel_rfl) (by kernel_rfl) (by kernel_rfl) (envS_ok envN_ok (c_sha_start F)) hm (by kernel_rfl) (fun x r h => ⟨F, (t_sha_New x F).trans h⟩)
theorem mo_sha_New {F F' : Nat} (h : F ≤ F') : ∀ v, Le (M_sha_New F v) (M_sha_New F' v) := by
  intro v
  unfold M_sha_New
  with_reducible repeat (first | (intro v) | exact Le.refl _ | exact h | exact mo_sha_start h _ | apply Le.bind | apply Le.ite | apply Le.loop | apply Le.sumC)
noncomputable def s_sha_Hash_Write : Spec Kd := { params := [(.pin 136 [(.int .u32), (.int .u32), (.int .u32), (.int .u32), (.int .u32), (.int .u32), (.int .u32), (.int .u32), .str, (.int .i64)]), (.a .str)], ret := (.tup []), pins := [[(.int .u32), (.int .u32), (.int .u32), (.int .u32), (.int .u32), (.int .u32), (.int .u32), (.int .u32), .str, (.int .i64)]], pl := { nt := 50, loops := [(0, ⟨[.tmp 0 (.a (.ptr 1 0)), .box 1 (.cells 136 [(.int .u32), (.int .u32), (.int .u32), (.int .u32), (.int .u32), (.int .u32), (.int .u32), (.int .u32), .str, (.int .i64)])], [], []⟩, (.exit 0, ⟨[.tmp 0 (.a (.ptr 1 0)), .box 1 (.cells 136 [(.int .u32), (.int .u32), (.int .u32), (.int .u32), (.int .u32), (.int .u32), (.int .u32), (.int .u32), .str, (.int .i64)])], [], []⟩), [])], cuts := [(1, [(10, ⟨[.tmp 0 (.a (.ptr 1 0)), .tmp 1 (.a .str), .box 1 (.cells 136 [(.int .u32), (.int .u32), (.int .u32), (.int .u32), (.int .u32), (.int .u32), (.int .u32), (.int .u32), .str, (.int .i64)])], [], []⟩)])], ends := [(4, ⟨[.tmp 0 (.a (.ptr 1 0)), .box 1 (.cells 136 [(.int .u32), (.int .u32), (.int .u32), (.int .u32), (.int .u32), (.int .u32), (.int .u32), (.int .u32), .str, (.int .i64)])], [], []⟩)] }, rfrz := [], ts := [] }
noncomputable def e_sha_Hash_Write (F : Nat) : Env El := (envS 121 (conOf TT s_sha_step (M_sha_step F)) envN)
/-- (*concierge/sha.Hash).Write -/
noncomputable def M_sha_Hash_Write_l0 (F : Nat) (v0 : (Unit × (Int × Int × Int × Int × Int × Int × Int × Int × List UInt8 × Int × Unit) × Unit)) : Option ((Unit × (Int × Int × Int × Int × Int × Int × Int × Int × List UInt8 × Int × Unit) × Unit) ⊕ (Unit × (Int × Int × Int × Int × Int × Int × Int × Int × List UInt8 × Int × Unit) × Unit)) :=
  if decide (64 ≤ (↑v0.2.1.2.2.2.2.2.2.2.2.1.length : Int)) = true then
            ((sub v0.2.1.2.2.2.2.2.2.2.2.1 0 64).bind fun v1 =>
                  (M_sha_step F
                        ([v0.2.1.1, v0.2.1.2.1, v0.2.1.2.2.1, v0.2.1.2.2.2.1, v0.2.1.2.2.2.2.1, v0.2.1.2.2.2.2.2.1, v0.2.1.2.2.2.2.2.2.1,
                            v0.2.1.2.2.2.2.2.2.2.1],
                          v1)).bind
                    fun v2 =>
                    some
                      ((),
                        (agd v2 0 0, agd v2 1 0, agd v2 2 0, agd v2 3 0, agd v2 4 0, agd v2 5 0, agd v2 6 0, agd v2 7 0, v0.2.1.2.2.2.2.2.2.2.2.1,
                          v0.2.1.2.2.2.2.2.2.2.2.2.1, ()),
                        ())).bind
              fun v3 =>
              (sub v3.2.1.2.2.2.2.2.2.2.2.1 64 (↑v3.2.1.2.2.2.2.2.2.2.2.1.length : Int)).bind fun v4 =>
                some
                  (Sum.inl
                    ((),
                      (v3.2.1.1, v3.2.1.2.1, v3.2.1.2.2.1, v3.2.1.2.2.2.1, v3.2.1.2.2.2.2.1, v3.2.1.2.2.2.2.2.1, v3.2.1.2.2.2.2.2.2.1, v3.2.1.2.2.2.2.2.2.2.1,
                        v4, v3.2.1.2.2.2.2.2.2.2.2.2.1, ()),
                      ()))
          else some (Sum.inr ((), v0.2.1, ()))
noncomputable def M_sha_Hash_Write (F : Nat) (x : ((Int) × (Int) × (Int) × (Int) × (Int) × (Int) × (Int) × (Int) × (List UInt8) × (Int) × Unit) × (List UInt8)) : Option ((Unit) × ((Int) × (Int) × (Int) × (Int) × (Int) × (Int) × (Int) × (Int) × (List UInt8) × (Int) × Unit)) :=
  if decide (x.1.2.2.2.2.2.2.2.2.1.length + x.2.length ≤ 9223372036854775807) = true then
    (loopM (M_sha_Hash_Write_l0 F)
          F
          ((),
            (x.1.1, x.1.2.1, x.1.2.2.1, x.1.2.2.2.1, x.1.2.2.2.2.1, x.1.2.2.2.2.2.1, x.1.2.2.2.2.2.2.1, x.1.2.2.2.2.2.2.2.1, x.1.2.2.2.2.2.2.2.2.1 ++ x.2,
              IntKind.i64.wrap (x.1.2.2.2.2.2.2.2.2.2.1 + (↑x.2.length : Int)), ()),
            ())).bind
      fun v5 => some ((), v5.2.1)
  else none
theorem t_sha_Hash_Write (x : ((Int) × (Int) × (Int) × (Int) × (Int) × (Int) × (Int) × (Int) × (List UInt8) × (Int) × Unit) × (List UInt8)) (F : Nat) : fnRun TT Tryz.prog (e_sha_Hash_Write F) s_sha_Hash_Write (bodyOf 111) F x = M_sha_Hash_Write F x := by kernel_rfl
theorem c_sha_Hash_Write (F : Nat) : Ctr TT Tryz.prog 111 (conOf TT s_sha_Hash_Write (M_sha_Hash_Write F)) :=
  ctr_of (code := bodyOf 111) Tryz.func111 (by kernel_rfl) (by kernel_rfl) (by kernel_rfl) (by kernel_rfl) (envS_ok envN_ok (c_sha_step F)) hm (by kernel_rfl) (fun x r h => ⟨F, (t_sha_Hash_Write x F).trans h⟩)
theorem mo_sha_Hash_Write_l0 {F F' : Nat} (h : F ≤ F') : ∀ v, Le (M_sha_Hash_Write_l0 F v) (M_sha_Hash_Write_l0 F' v) := by
  intro v
  unfold M_sha_Hash_Write_l0
  with_reducible repeat (first | (intro v) | exact Le.refl _ | exact h | exact mo_sha_step h _ | apply Le.bind | apply Le.ite | apply Le.loop | apply Le.sumC)
theorem mo_sha_Hash_Write {F F' : Nat} (h : F ≤ F') : ∀ v, Le (M_sha_Hash_Write F v) (M_sha_Hash_Write F' v) := by
  intro v
  unfold M_sha_Hash_Write
  with_reducible repeat (first | (intro v) | exact Le.refl _ | exact h | exact mo_sha_step h _ | exact mo_sha_Hash_Write_l0 h | exact mo_sha_Hash_Write_l0 h _ | apply Le.bind | apply Le.ite | apply Le.loop | apply Le.sumC)
noncomputable def s_sha_Hash_end : Spec Kd := { params := [(.pin 136 [(.int .u32), (.int .u32), (.int .u32), (.int .u32), (.int .u32), (.int .u32), (.int .u32), (.int .u32), .str, (.int .i64)])], ret := (.one (.a .str)), pins := [[(.int .u32), (.int .u32), (.int .u32), (.int .u32), (.int .u32), (.int .u32), (.int .u32), (.int .u32), .str, (.int .i64)]], pl := { nt := 41, orc := { rv := [3, 6, 18, 20, 31, 38], gv := [] }, loops := [(2, ⟨[.tmp 0 (.a (.ptr 1 0)), .tmp 3 (.a (.rowp 192)), .tmp 4 (.a (.int .u64)), .tmp 5 (.a (.int .i64)), .box 192 (.row 5 .u8), .box 1 (.cells 136 [(.int .u32), (.int .u32), (.int .u32), (.int .u32), (.int .u32), (.int .u32), (.int .u32), (.int .u32), .str, (.int .i64)])], [], [.tmpRow 3 192 5 .u8]⟩, (.exit 2, ⟨[.tmp 0 (.a (.ptr 1 0)), .tmp 3 (.a (.rowp 192)), .box 192 (.row 5 .u8), .box 1 (.cells 136 [(.int .u32), (.int .u32), (.int .u32), (.int .u32), (.int .u32), (.int .u32), (.int .u32), (.int .u32), .str, (.int .i64)])], [], [.tmpRow 3 192 5 .u8]⟩), []), (0, ⟨[.tmp 0 (.a (.ptr 1 0)), .tmp 3 (.a (.rowp 192)), .box 192 (.row 5 .u8), .box 1 (.cells 136 [(.int .u32), (.int .u32), (.int .u32), (.int .u32), (.int .u32), (.int .u32), (.int .u32), (.int .u32), .str, (.int .i64)])], [], [.tmpRow 3 192 5 .u8]⟩, (.exit 0, ⟨[.tmp 0 (.a (.ptr 1 0)), .tmp 3 (.a (.rowp 192)), .box 192 (.row 5 .u8), .box 1 (.cells 136 [(.int .u32), (.int .u32), (.int .u32), (.int .u32), (.int .u32), (.int .u32), (.int .u32), (.int .u32), .str, (.int .i64)])], [], [.tmpRow 3 192 5 .u8]⟩), [])], cuts := [(2, [(11, ⟨[.tmp 0 (.a (.ptr 1 0)), .tmp 3 (.a (.rowp 192)), .tmp 17 (.a .bool), .box 192 (.row 5 .u8), .box 1 (.cells 136 [(.int .u32), (.int .u32), (.int .u32), (.int .u32), (.int .u32), (.int .u32), (.int .u32), (.int .u32), .str, (.int .i64)])], [], [.tmpRow 3 192 5 .u8]⟩)])] }, rfrz := [], ts := [2] }
noncomputable def e_sha_Hash_end (F : Nat) : Env El := envN
/-- (*concierge/sha.Hash).end -/
noncomputable def M_sha_Hash_end_l0 (F : Nat) (v0 : (Unit × Unit × List UInt8 × (Int × Int × Int × Int × Int × Int × Int × Int × List UInt8 × Int × Unit) × Unit)) : Option ((Unit × Unit × List UInt8 × (Int × Int × Int × Int × Int × Int × Int × Int × List UInt8 × Int × Unit) × Unit) ⊕ (Unit × Unit × List UInt8 × (Int × Int × Int × Int × Int × Int × Int × Int × List UInt8 × Int × Unit) × Unit)) :=
  if
            (!decide ((IntKind.i64.wrap (IntKind.i64.wrap ((↑v0.2.2.2.1.2.2.2.2.2.2.2.2.1.length : Int) + (↑v0.2.2.1.length : Int)) + 8)).tmod 64 = 0)) =
              true then
          if decide ((v0.2.2.1.length + [UInt8.ofNat 0].length) * 1 ≤ 140737488355328) = true then
            some (Sum.inl ((), (), v0.2.2.1 ++ [UInt8.ofNat 0], v0.2.2.2.1, ()))
          else none
        else some (Sum.inr ((), (), v0.2.2.1, v0.2.2.2.1, ()))
noncomputable def M_sha_Hash_end_l1 (F : Nat) (v2 : (Unit × Unit × Int × Int × List UInt8 × (Int × Int × Int × Int × Int × Int × Int × Int × List UInt8 × Int × Unit) × Unit)) : Option ((Unit × Unit × Int × Int × List UInt8 × (Int × Int × Int × Int × Int × Int × Int × Int × List UInt8 × Int × Unit) × Unit) ⊕ (Unit × Unit × List UInt8 × (Int × Int × Int × Int × Int × Int × Int × Int × List UInt8 × Int × Unit) × Unit)) :=
  if decide (0 ≤ v2.2.2.2.1) = true then
            if decide (0 ≤ IntKind.i64.wrap (8 * v2.2.2.2.1)) = true then
              if
                  decide
                      ((v2.2.2.2.2.1.length + [UInt8.ofNat (IntKind.u8.wrap (shr IntKind.u64 v2.2.2.1 (IntKind.i64.wrap (8 * v2.2.2.2.1)))).toNat].length) * 1 ≤
                        140737488355328) =
                    true then
                some
                  (Sum.inl
                    ((), (), v2.2.2.1, IntKind.i64.wrap (v2.2.2.2.1 - 1),
                      v2.2.2.2.2.1 ++ [UInt8.ofNat (IntKind.u8.wrap (shr IntKind.u64 v2.2.2.1 (IntKind.i64.wrap (8 * v2.2.2.2.1)))).toNat], v2.2.2.2.2.2.1, ()))
              else none
            else none
          else some (Sum.inr ((), (), v2.2.2.2.2.1, v2.2.2.2.2.2.1, ()))
noncomputable def M_sha_Hash_end (F : Nat) (x : ((Int) × (Int) × (Int) × (Int) × (Int) × (Int) × (Int) × (Int) × (List UInt8) × (Int) × Unit)) : Option ((List UInt8) × ((Int) × (Int) × (Int) × (Int) × (Int) × (Int) × (Int) × (Int) × (List UInt8) × (Int) × Unit)) :=
  (loopM (M_sha_Hash_end_l0 F)
        F ((), (), [UInt8.ofNat 128], x, ())).bind
    fun v1 =>
    (loopM (M_sha_Hash_end_l1 F)
          F ((), (), IntKind.u64.wrap (IntKind.u64.wrap v1.2.2.2.1.2.2.2.2.2.2.2.2.2.1 * 8), 7, v1.2.2.1, v1.2.2.2.1, ())).bind
      fun v3 => some (v3.2.2.1, v3.2.2.2.1)
theorem t_sha_Hash_end (x : ((Int) × (Int) × (Int) × (Int) × (Int) × (Int) × (Int) × (Int) × (List UInt8) × (Int) × Unit)) (F : Nat) : fnRun TT Tryz.prog (e_sha_Hash_end F) s_sha_Hash_end (bodyOf 122) F x = M_sha_Hash_end F x := by kernel_rfl
theorem c_sha_Hash_end (F : Nat) : Ctr TT Tryz.prog 122 (conOf TT s_sha_Hash_end (M_sha_Hash_end F)) :=
  ctr_of (code := bodyOf 122) Tryz.func122 (by kernel_rfl) (by kernel_rfl) (by kernel_rfl) (by kernel_rfl) envN_ok hm (by kernel_rfl) (fun x r h => ⟨F, (t_sha_Hash_end x F).trans h⟩)
theorem mo_sha_Hash_end_l0 {F F' : Nat} (h : F ≤ F') : ∀ v, Le (M_sha_Hash_end_l0 F v) (M_sha_Hash_end_l0 F' v) := by
  intro v
  unfold M_sha_Hash_end_l0
  with_reducible repeat (first | (intro v) | exact Le.refl _ | exact h | apply Le.bind | apply Le.ite | apply Le.loop | apply Le.sumC)
theorem mo_sha_Hash_end_l1 {F F' : Nat} (h : F ≤ F') : ∀ v, Le (M_sha_Hash_end_l1 F v) (M_sha_Hash_end_l1 F' v) := by
  intro v
  unfold M_sha_Hash_end_l1
  with_reducible repeat (first | (intro v) | exact Le.refl _ | exact h | exact mo_sha_Hash_end_l0 h | exact mo_sha_Hash_end_l0 h _ | apply Le.bind | apply Le.ite | apply Le.loop | apply Le.sumC)
theorem mo_sha_Hash_end {F F' : Nat} (h : F ≤ F') : ∀ v, Le (M_sha_Hash_end F v) (M_sha_Hash_end F' v) := by
  intro v
  unfold M_sha_Hash_end
  with_reducible repeat (first | (intro v) | exact Le.refl _ | exact h | exact mo_sha_Hash_end_l0 h | exact mo_sha_Hash_end_l0 h _ | exact mo_sha_Hash_end_l1 h | exact mo_sha_Hash_end_l1 h _ | apply Le.bind | apply Le.ite | apply Le.loop | apply Le.sumC)
noncomputable def s_sha_Hash_Sum : Spec Kd := { params := [(.pin 136 [(.int .u32), (.int .u32), (.int .u32), (.int .u32), (.int .u32), (.int .u32), (.int .u32), (.int .u32), .str, (.int .i64)])], ret := (.one (.a .str)), pins := [[(.int .u32), (.int .u32), (.int .u32), (.int .u32), (.int .u32), (.int .u32), (.int .u32), (.int .u32), .str, (.int .i64)]], pl := { nt := 37, orc := { rv := [4, 20, 33], gv := [] }, loops := [(0, ⟨[.tmp 0 (.a (.ptr 1 0)), .tmp 4 (.a (.rowp 256)), .tmp 16 (.a (.arr 8 .u32)), .tmp 17 (.a (.int .i64)), .box 256 (.row 5 .u8), .box 1 (.cells 136 [(.int .u32), (.int .u32), (.int .u32), (.int .u32), (.int .u32), (.int .u32), (.int .u32), (.int .u32), .str, (.int .i64)])], [], [.tmpRow 4 256 5 .u8]⟩, (.exit 0, ⟨[.tmp 0 (.a (.ptr 1 0)), .tmp 4 (.a (.rowp 256)), .box 256 (.row 5 .u8), .box 1 (.cells 136 [(.int .u32), (.int .u32), (.int .u32), (.int .u32), (.int .u32), (.int .u32), (.int .u32), (.int .u32), .str, (.int .i64)])], [], [.tmpRow 4 256 5 .u8]⟩), [])] }, rfrz := [], ts := [2] }
noncomputable def e_sha_Hash_Sum (F : Nat) : Env El := (envS 111 (conOf TT s_sha_Hash_Write (M_sha_Hash_Write F)) (envS 122 (conOf TT s_sha_Hash_end (M_sha_Hash_end F)) envN))
/-- (*concierge/sha.Hash).Sum -/
noncomputable def M_sha_Hash_Sum_l0 (F : Nat) (v2 : (Unit × Unit × List Int × Int × List UInt8 × (Int × Int × Int × Int × Int × Int × Int × Int × List UInt8 × Int × Unit) × Unit)) : Option ((Unit × Unit × List Int × Int × List UInt8 × (Int × Int × Int × Int × Int × Int × Int × Int × List UInt8 × Int × Unit) × Unit) ⊕ (Unit × Unit × List UInt8 × (Int × Int × Int × Int × Int × Int × Int × Int × List UInt8 × Int × Unit) × Unit)) :=
  if decide (v2.2.2.2.1 < 8) = true then
              (idx v2.2.2.1 v2.2.2.2.1).bind fun v3 =>
                if
                    decide
                        ((v2.2.2.2.2.1.length +
                              [UInt8.ofNat (IntKind.u8.wrap (shr IntKind.u32 v3 24)).toNat, UInt8.ofNat (IntKind.u8.wrap (shr IntKind.u32 v3 16)).toNat,
                                  UInt8.ofNat (IntKind.u8.wrap (shr IntKind.u32 v3 8)).toNat, UInt8.ofNat (IntKind.u8.wrap v3).toNat].length) *
                            1 ≤
                          140737488355328) =
                      true then
                  some
                    (Sum.inl
                      ((), (), v2.2.2.1, IntKind.i64.wrap (v2.2.2.2.1 + 1),
                        v2.2.2.2.2.1 ++
                          [UInt8.ofNat (IntKind.u8.wrap (shr IntKind.u32 v3 24)).toNat, UInt8.ofNat (IntKind.u8.wrap (shr IntKind.u32 v3 16)).toNat,
                            UInt8.ofNat (IntKind.u8.wrap (shr IntKind.u32 v3 8)).toNat, UInt8.ofNat (IntKind.u8.wrap v3).toNat],
                        v2.2.2.2.2.2.1, ()))
                else none
            else some (Sum.inr ((), (), v2.2.2.2.2.1, v2.2.2.2.2.2.1, ()))
noncomputable def M_sha_Hash_Sum (F : Nat) (x : ((Int) × (Int) × (Int) × (Int) × (Int) × (Int) × (Int) × (Int) × (List UInt8) × (Int) × Unit)) : Option ((List UInt8) × ((Int) × (Int) × (Int) × (Int) × (Int) × (Int) × (Int) × (Int) × (List UInt8) × (Int) × Unit)) :=
  (M_sha_Hash_end F x).bind fun v0 =>
    (M_sha_Hash_Write F (x, v0.1)).bind fun v1 =>
      (loopM (M_sha_Hash_Sum_l0 F)
            F
            ((), (), [v1.2.1, v1.2.2.1, v1.2.2.2.1, v1.2.2.2.2.1, v1.2.2.2.2.2.1, v1.2.2.2.2.2.2.1, v1.2.2.2.2.2.2.2.1, v1.2.2.2.2.2.2.2.2.1], 0, [], v0.2,
              ())).bind
        fun v4 => some (v4.2.2.1, v4.2.2.2.1)
theorem t_sha_Hash_Sum (x : ((Int) × (Int) × (Int) × (Int) × (Int) × (Int) × (Int) × (Int) × (List UInt8) × (Int) × Unit)) (F : Nat) : fnRun TT Tryz.prog (e_sha_Hash_Sum F) s_sha_Hash_Sum (bodyOf 112) F x = M_sha_Hash_Sum F x := by kernel_rfl
theorem c_sha_Hash_Sum (F : Nat) : Ctr TT Tryz.prog 112 (conOf TT s_sha_Hash_Sum (M_sha_Hash_Sum F)) :=
  ctr_of (code := bodyOf 112) Tryz.func112 (by kernel_rfl) (by kernel_rfl) (by kernel_rfl) (by kernel_rfl) (envS_ok (envS_ok envN_ok (c_sha_Hash_end F)) (c_sha_Hash_Write F)) hm (by kernel_rfl) (fun x r h => ⟨F, (t_sha_Hash_Sum x F).trans h⟩)
theorem mo_sha_Hash_Sum_l0 {F F' : Nat} (h : F ≤ F') : ∀ v, Le (M_sha_Hash_Sum_l0 F v) (M_sha_Hash_Sum_l0 F' v) := by
  intro v
  unfold M_sha_Hash_Sum_l0
  with_reducible repeat (first | (intro v) | exact Le.refl _ | exact h | exact mo_sha_Hash_end h _ | exact mo_sha_Hash_Write h _ | apply Le.bind | apply Le.ite | apply Le.loop | apply Le.sumC)
theorem mo_sha_Hash_Sum {F F' : Nat} (h : F ≤ F') : ∀ v, Le (M_sha_Hash_Sum F v) (M_sha_Hash_Sum F' v) := by
  intro v
  unfold M_sha_Hash_Sum
  with_reducible repeat (first | (intro v) | exact Le.refl _ | exact h | exact mo_sha_Hash_end h _ | exact mo_sha_Hash_Write h _ | exact mo_sha_Hash_Sum_l0 h | exact mo_sha_Hash_Sum_l0 h _ | apply Le.bind | apply Le.ite | apply Le.loop | apply Le.sumC)
noncomputable def s_sha_Sum : Spec Kd := { params := [(.a .str)], ret := (.one (.a .str)), pins := [], pl := { nt := 10 }, rfrz := [], ts := [2] }
noncomputable def e_sha_Sum (F : Nat) : Env El := (envS 112 (conOf TT s_sha_Hash_Sum (M_sha_Hash_Sum F)) (envS 111 (conOf TT s_sha_Hash_Write (M_sha_Hash_Write F)) (envS 110 (conOf TT s_sha_New (M_sha_New F)) envN)))
/-- concierge/sha.Sum -/
noncomputable def M_sha_Sum (F : Nat) (x : (List UInt8)) : Option (List UInt8) :=
  (M_sha_New F ()).bind fun v0 => (M_sha_Hash_Write F (v0, x)).bind fun v1 => (M_sha_Hash_Sum F v1.2).bind fun v2 => some v2.1
theorem t_sha_Sum (x : (List UInt8)) (F : Nat) : fnRun TT Tryz.prog (e_sha_Sum F) s_sha_Sum (bodyOf 85) F x = M_sha_Sum F x := by kernel_rfl
theorem c_sha_Sum (F : Nat) : Ctr TT Tryz.prog 85 (conOf TT s_sha_Sum (M_sha_Sum F)) :=
  ctr_of (code := bodyOf 85) Tryz.func85 (by kernel_rfl) (by kernel_rfl) (by kernel_rfl) (by kernel_rfl) (envS_ok (envS_ok (envS_ok envN_ok (c_sha_New F)) (c_sha_Hash_Write F)) (c_sha_Hash_Sum F)) hm (by kernel_rfl) (fun x r h => ⟨F, (t_sha_Sum x F).trans h⟩)
theorem mo_sha_Sum {F F' : Nat} (h : F ≤ F') : ∀ v, Le (M_sha_Sum F v) (M_sha_Sum F' v) := by
  intro v
  unfold M_sha_Sum
  with_reducible repeat (first | (intro v) | exact Le.refl _ | exact h | exact mo_sha_New h _ | exact mo_sha_Hash_Write h _ | exact mo_sha_Hash_Sum h _ | apply Le.bind | apply Le.ite | apply Le.loop | apply Le.sumC)

end Go.Vm
