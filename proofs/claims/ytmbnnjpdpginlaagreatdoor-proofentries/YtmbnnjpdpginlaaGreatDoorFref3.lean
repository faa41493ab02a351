/- Models of functions of the program, and that each keeps its contract: for all arguments of its shape. No condition. -/
import Derived.Test.YtmbnnjpdpginlaaGreatDoorKt
namespace Go.Vm
open Go.Proofs
set_option linter.unusedVariables false
noncomputable def s_conciergeref03_right : Spec Kd := { params := [(.a (.int .u32)), (.a (.int .i64))], ret := (.one (.a (.int .u32))), pins := [], pl := { nt := 13, ends := [(1, ⟨[.tmp 4 (.a (.int .u32))], [], []⟩)] }, rfrz := [], ts := [4] }
noncomputable def e_conciergeref03_right (F : Nat) : Env El := envN
/-- concierge/conciergeref03.right -/
noncomputable def M_conciergeref03_right (F : Nat) (x : (Int) × (Int)) : Option (Int) :=
  (if decide (0 ≤ x.2) = true then
        if decide (0 ≤ IntKind.i64.wrap (32 - x.2)) = true then
          some (ior IntKind.u32 (shr IntKind.u32 x.1 x.2) (shl IntKind.u32 x.1 (IntKind.i64.wrap (32 - x.2))), ())
        else none
      else none).bind
    fun v0 => some v0.1
theorem t_conciergeref03_right (x : (Int) × (Int)) (F : Nat) : fnRun TT Tryz.prog (e_conciergeref03_right F) s_conciergeref03_right (bodyOf 109) F x = M_conciergeref03_right F x := by kernel_rfl
theorem c_conciergeref03_right (F : Nat) : Ctr TT Tryz.prog 109 (conOf TT s_conciergeref03_right (M_conciergeref03_right F)) :=
  ctr_of (code := bodyOf 109) Tryz.func109 (by kernel_rfl) (by kernel_rfl) (by kernel_rfl) (by kernel_rfl) envN_ok hm (by kernel_rfl) (fun x r h => ⟨F, (t_conciergeref03_right x F).trans h⟩)
theorem mo_conciergeref03_right {F F' : Nat} (h : F ≤ F') : ∀ v, Le (M_conciergeref03_right F v) (M_conciergeref03_right F' v) := by
  intro v
  unfold M_conciergeref03_right
  with_reducible repeat (first | (intro v) | exact Le.refl _ | exact h | apply Le.bind | apply Le.ite | apply Le.loop | apply Le.sumC)
noncomputable def s_conciergeref03_Padded : Spec Kd := { params := [(.a .str)], ret := (.one (.a .str)), pins := [], pl := { nt := 36, orc := { rv := [3, 7, 8, 10, 15, 17, 26, 33], gv := [] }, loops := [(2, ⟨[.tmp 3 (.a (.rowp 192)), .tmp 4 (.a (.int .u64)), .tmp 5 (.a (.int .i64)), .box 192 (.row 5 .u8)], [], [.tmpRow 3 192 5 .u8]⟩, (.exit 2, ⟨[.tmp 3 (.a (.rowp 192)), .box 192 (.row 5 .u8)], [], [.tmpRow 3 192 5 .u8]⟩), []), (0, ⟨[.tmp 0 (.a .str), .tmp 3 (.a (.rowp 192)), .box 192 (.row 5 .u8)], [], [.tmpRow 3 192 5 .u8]⟩, (.exit 0, ⟨[.tmp 0 (.a .str), .tmp 3 (.a (.rowp 192)), .box 192 (.row 5 .u8)], [], [.tmpRow 3 192 5 .u8]⟩), [])] }, rfrz := [], ts := [2] }
noncomputable def e_conciergeref03_Padded (F : Nat) : Env El := envN
/-- concierge/conciergeref03.Padded -/
noncomputable def M_conciergeref03_Padded_l0 (F : Nat) (v0 : (List UInt8 × Unit × List UInt8 × Unit)) : Option ((List UInt8 × Unit × List UInt8 × Unit) ⊕ (List UInt8 × Unit × List UInt8 × Unit)) :=
  if (!decide ((↑v0.2.2.1.length : Int).tmod 64 = 56)) = true then
              if decide ((v0.2.2.1.length + [UInt8.ofNat 0].length) * 1 ≤ 140737488355328) = true then
                some (Sum.inl (v0.1, (), v0.2.2.1 ++ [UInt8.ofNat 0], ()))
              else none
            else some (Sum.inr (v0.1, (), v0.2.2.1, ()))
noncomputable def M_conciergeref03_Padded_l1 (F : Nat) (v2 : (Unit × Int × Int × List UInt8 × Unit)) : Option ((Unit × Int × Int × List UInt8 × Unit) ⊕ (Unit × List UInt8 × Unit)) :=
  if decide (0 ≤ v2.2.2.1) = true then
                if decide (0 ≤ IntKind.i64.wrap (8 * v2.2.2.1)) = true then
                  if
                      decide
                          ((v2.2.2.2.1.length + [UInt8.ofNat (IntKind.u8.wrap (shr IntKind.u64 v2.2.1 (IntKind.i64.wrap (8 * v2.2.2.1)))).toNat].length) * 1 ≤
                            140737488355328) =
                        true then
                    some
                      (Sum.inl
                        ((), v2.2.1, IntKind.i64.wrap (v2.2.2.1 - 1),
                          v2.2.2.2.1 ++ [UInt8.ofNat (IntKind.u8.wrap (shr IntKind.u64 v2.2.1 (IntKind.i64.wrap (8 * v2.2.2.1)))).toNat], ()))
                  else none
                else none
              else some (Sum.inr ((), v2.2.2.2.1, ()))
noncomputable def M_conciergeref03_Padded (F : Nat) (x : (List UInt8)) : Option (List UInt8) :=
  if decide (x.length ≤ 9223372036854775807) = true then
    if decide ((x.length + [UInt8.ofNat 128].length) * 1 ≤ 140737488355328) = true then
      (loopM (M_conciergeref03_Padded_l0 F)
            F (x, (), x ++ [UInt8.ofNat 128], ())).bind
        fun v1 =>
        (loopM (M_conciergeref03_Padded_l1 F)
              F ((), IntKind.u64.wrap (IntKind.u64.wrap (↑v1.1.length : Int) * 8), 7, v1.2.2.1, ())).bind
          fun v3 => some v3.2.1
    else none
  else none
theorem t_conciergeref03_Padded (x : (List UInt8)) (F : Nat) : fnRun TT Tryz.prog (e_conciergeref03_Padded F) s_conciergeref03_Padded (bodyOf 108) F x = M_conciergeref03_Padded F x := by kernel_rfl
theorem c_conciergeref03_Padded (F : Nat) : Ctr TT Tryz.prog 108 (conOf TT s_conciergeref03_Padded (M_conciergeref03_Padded F)) :=
  ctr_of (code := bodyOf 108) Tryz.func108 (by kernel_rfl) (by kernel_rfl) (by kernel_rfl) (by kernel_rfl) envN_ok hm (by kernel_rfl) (fun x r h => ⟨F, (t_conciergeref03_Padded x F).trans h⟩)
theorem mo_conciergeref03_Padded_l0 {F F' : Nat} (h : F ≤ F') : ∀ v, Le (M_conciergeref03_Padded_l0 F v) (M_conciergeref03_Padded_l0 F' v) := by
  intro v
  unfold M_conciergeref03_Padded_l0
  with_reducible repeat (first | (intro v) | exact Le.refl _ | exact h | apply Le.bind | apply Le.ite | apply Le.loop | apply Le.sumC)
theorem mo_conciergeref03_Padded_l1 {F F' : Nat} (h : F ≤ F') : ∀ v, Le (M_conciergeref03_Padded_l1 F v) (M_conciergeref03_Padded_l1 F' v) := by
  intro v
  unfold M_conciergeref03_Padded_l1
  with_reducible repeat (first | (intro v) | exact Le.refl _ | exact h | exact mo_conciergeref03_Padded_l0 h | exact mo_conciergeref03_Padded_l0 h _ | apply Le.bind | apply Le.ite | apply Le.loop | apply Le.sumC)
theorem mo_conciergeref03_Padded {F F' : Nat} (h : F ≤ F') : ∀ v, Le (M_conciergeref03_Padded F v) (M_conciergeref03_Padded F' v) := by
  intro v
  unfold M_conciergeref03_Padded
  with_reducible repeat (first | (intro v) | exact Le.refl _ | exact h | exact mo_conciergeref03_Padded_l0 h | exact mo_conciergeref03_Padded_l0 h _ | exact mo_conciergeref03_Padded_l1 h | exact mo_conciergeref03_Padded_l1 h _ | apply Le.bind | apply Le.ite | apply Le.loop | apply Le.sumC)
noncomputable def s_conciergeref03_Table : Spec Kd := { params := [], ret := (.tup [(.a (.arr 8 .u32)), (.a (.arr 64 .u32))]), pins := [], pl := { nt := 4 }, rfrz := [], ts := [4, 5], rc := [(0, some 122), (1, some 123)] }
noncomputable def e_conciergeref03_Table (F : Nat) : Env El := envN
/-- concierge/conciergeref03.Table -/
noncomputable def M_conciergeref03_Table (F : Nat) (x : Unit) : Option ((List (El .u32)) × (List (El .u32))) :=
  some
    ([1779033703, 3144134277, 1013904242, 2773480762, 1359893119, 2600822924, 528734635, 1541459225],
      [1116352408, 1899447441, 3049323471, 3921009573, 961987163, 1508970993, 2453635748, 2870763221, 3624381080, 310598401, 607225278, 1426881987, 1925078388,
        2162078206, 2614888103, 3248222580, 3835390401, 4022224774, 264347078, 604807628, 770255983, 1249150122, 1555081692, 1996064986, 2554220882, 2821834349,
        2952996808, 3210313671, 3336571891, 3584528711, 113926993, 338241895, 666307205, 773529912, 1294757372, 1396182291, 1695183700, 1986661051, 2177026350,
        2456956037, 2730485921, 2820302411, 3259730800, 3345764771, 3516065817, 3600352804, 4094571909, 275423344, 430227734, 506948616, 659060556, 883997877,
        958139571, 1322822218, 1537002063, 1747873779, 1955562222, 2024104815, 2227730452, 2361852424, 2428436474, 2756734187, 3204031479, 3329325298])
theorem t_conciergeref03_Table (x : Unit) (F : Nat) : fnRun TT Tryz.prog (e_conciergeref03_Table F) s_conciergeref03_Table (bodyOf 107) F x = M_conciergeref03_Table F x := by kernel_rfl
theorem c_conciergeref03_Table (F : Nat) : Ctr TT Tryz.prog 107 (conOf TT s_conciergeref03_Table (M_conciergeref03_Table F)) :=
  ctr_of (code := bodyOf 107) Tryz.func107 (by kernel_rfl) (by kernel_rfl) (by kernel_rfl) (by kernel_rfl) envN_ok hm (by kernel_rfl) (fun x r h => ⟨F, (t_conciergeref03_Table x F).trans h⟩)
theorem mo_conciergeref03_Table {F F' : Nat} (h : F ≤ F') : ∀ v, Le (M_conciergeref03_Table F v) (M_conciergeref03_Table F' v) := by
  intro v
  unfold M_conciergeref03_Table
  with_reducible repeat (first | (intro v) | exact Le.refl _ | exact h | apply Le.bind | apply Le.ite | apply Le.loop | apply Le.sumC)
noncomputable def s_conciergeref03_Sum : Spec Kd := { params := [(.a .str)], ret := (.one (.a .str)), pins := [], pl := { nt := 252, bjoins := [(3, (.norm, ⟨[.tmp 3 (.a (.ptr 192 0)), .tmp 4 (.a (.ptr 256 0)), .tmp 5 (.a .str), .tmp 6 (.a (.int .i64)), .tmp 7 (.a (.ptr 448 0)), .tmp 8 (.a (.int .i64)), .box 192 (.arr 122 8 .u32), .box 256 (.arr 123 64 .u32), .box 448 (.arr 123 64 .u32)], [], []⟩), [])], loops := [(8, ⟨[.tmp 3 (.a (.ptr 192 0)), .tmp 23 (.a .str), .tmp 24 (.a (.int .i64)), .box 192 (.arr 122 8 .u32)], [], []⟩, (.exit 8, ⟨[.tmp 23 (.a .str)], [], []⟩), []), (6, ⟨[.tmp 3 (.a (.ptr 192 0)), .tmp 4 (.a (.ptr 256 0)), .tmp 5 (.a .str), .tmp 6 (.a (.int .i64)), .tmp 7 (.a (.ptr 448 0)), .tmp 12 (.a (.int .u32)), .tmp 13 (.a (.int .u32)), .tmp 14 (.a (.int .u32)), .tmp 15 (.a (.int .u32)), .tmp 16 (.a (.int .u32)), .tmp 17 (.a (.int .u32)), .tmp 18 (.a (.int .u32)), .tmp 19 (.a (.int .u32)), .tmp 20 (.a (.int .i64)), .box 192 (.arr 122 8 .u32), .box 256 (.arr 123 64 .u32), .box 448 (.arr 123 64 .u32)], [], []⟩, (.exit 6, ⟨[.tmp 3 (.a (.ptr 192 0)), .tmp 4 (.a (.ptr 256 0)), .tmp 5 (.a .str), .tmp 6 (.a (.int .i64)), .tmp 12 (.a (.int .u32)), .tmp 13 (.a (.int .u32)), .tmp 14 (.a (.int .u32)), .tmp 15 (.a (.int .u32)), .tmp 16 (.a (.int .u32)), .tmp 17 (.a (.int .u32)), .tmp 18 (.a (.int .u32)), .tmp 19 (.a (.int .u32)), .box 192 (.arr 122 8 .u32), .box 256 (.arr 123 64 .u32)], [], []⟩), []), (4, ⟨[.tmp 3 (.a (.ptr 192 0)), .tmp 4 (.a (.ptr 256 0)), .tmp 5 (.a .str), .tmp 6 (.a (.int .i64)), .tmp 7 (.a (.ptr 448 0)), .tmp 8 (.a (.int .i64)), .tmp 9 (.a (.int .i64)), .box 192 (.arr 122 8 .u32), .box 256 (.arr 123 64 .u32), .box 448 (.arr 123 64 .u32)], [], []⟩, (.exit 4, ⟨[.tmp 3 (.a (.ptr 192 0)), .tmp 4 (.a (.ptr 256 0)), .tmp 5 (.a .str), .tmp 6 (.a (.int .i64)), .tmp 7 (.a (.ptr 448 0)), .tmp 8 (.a (.int .i64)), .box 192 (.arr 122 8 .u32), .box 256 (.arr 123 64 .u32), .box 448 (.arr 123 64 .u32)], [], []⟩), []), (2, ⟨[.tmp 3 (.a (.ptr 192 0)), .tmp 4 (.a (.ptr 256 0)), .tmp 5 (.a .str), .tmp 6 (.a (.int .i64)), .tmp 7 (.a (.ptr 448 0)), .tmp 8 (.a (.int .i64)), .box 192 (.arr 122 8 .u32), .box 256 (.arr 123 64 .u32), .box 448 (.arr 123 64 .u32)], [], []⟩, (.exit 2, ⟨[.tmp 3 (.a (.ptr 192 0)), .tmp 4 (.a (.ptr 256 0)), .tmp 5 (.a .str), .tmp 6 (.a (.int .i64)), .tmp 7 (.a (.ptr 448 0)), .box 192 (.arr 122 8 .u32), .box 256 (.arr 123 64 .u32), .box 448 (.arr 123 64 .u32)], [], []⟩), []), (0, ⟨[.tmp 3 (.a (.ptr 192 0)), .tmp 4 (.a (.ptr 256 0)), .tmp 5 (.a .str), .tmp 6 (.a (.int .i64)), .box 192 (.arr 122 8 .u32), .box 256 (.arr 123 64 .u32)], [], []⟩, (.exit 0, ⟨[.tmp 3 (.a (.ptr 192 0)), .box 192 (.arr 122 8 .u32)], [], []⟩), [])], cuts := [(23, [(21, ⟨[.tmp 3 (.a (.ptr 192 0)), .tmp 4 (.a (.ptr 256 0)), .tmp 5 (.a .str), .tmp 6 (.a (.int .i64)), .tmp 7 (.a (.ptr 448 0)), .tmp 12 (.a (.int .u32)), .tmp 13 (.a (.int .u32)), .tmp 14 (.a (.int .u32)), .tmp 15 (.a (.int .u32)), .tmp 16 (.a (.int .u32)), .tmp 17 (.a (.int .u32)), .tmp 18 (.a (.int .u32)), .tmp 20 (.a (.int .i64)), .tmp 21 (.a (.int .u32)), .tmp 22 (.a (.int .u32)), .box 192 (.arr 122 8 .u32), .box 256 (.arr 123 64 .u32), .box 448 (.arr 123 64 .u32)], [], []⟩)])], ends := [(22, ⟨[.tmp 3 (.a (.ptr 192 0)), .tmp 4 (.a (.ptr 256 0)), .tmp 5 (.a .str), .tmp 6 (.a (.int .i64)), .tmp 7 (.a (.ptr 448 0)), .tmp 12 (.a (.int .u32)), .tmp 13 (.a (.int .u32)), .tmp 14 (.a (.int .u32)), .tmp 15 (.a (.int .u32)), .tmp 16 (.a (.int .u32)), .tmp 17 (.a (.int .u32)), .tmp 18 (.a (.int .u32)), .tmp 20 (.a (.int .i64)), .tmp 21 (.a (.int .u32)), .box 192 (.arr 122 8 .u32), .box 256 (.arr 123 64 .u32), .box 448 (.arr 123 64 .u32)], [], []⟩), (18, ⟨[.tmp 3 (.a (.ptr 192 0)), .tmp 4 (.a (.ptr 256 0)), .tmp 5 (.a .str), .tmp 6 (.a (.int .i64)), .tmp 7 (.a (.ptr 448 0)), .tmp 12 (.a (.int .u32)), .tmp 13 (.a (.int .u32)), .tmp 14 (.a (.int .u32)), .tmp 15 (.a (.int .u32)), .tmp 16 (.a (.int .u32)), .tmp 17 (.a (.int .u32)), .tmp 18 (.a (.int .u32)), .tmp 19 (.a (.int .u32)), .box 192 (.arr 122 8 .u32), .box 256 (.arr 123 64 .u32), .box 448 (.arr 123 64 .u32)], [], []⟩), (16, ⟨[.tmp 3 (.a (.ptr 192 0)), .tmp 4 (.a (.ptr 256 0)), .tmp 5 (.a .str), .tmp 6 (.a (.int .i64)), .tmp 7 (.a (.ptr 448 0)), .tmp 8 (.a (.int .i64)), .tmp 10 (.a (.int .u32)), .tmp 11 (.a (.int .u32)), .box 192 (.arr 122 8 .u32), .box 256 (.arr 123 64 .u32), .box 448 (.arr 123 64 .u32)], [], []⟩), (15, ⟨[.tmp 3 (.a (.ptr 192 0)), .tmp 4 (.a (.ptr 256 0)), .tmp 5 (.a .str), .tmp 6 (.a (.int .i64)), .tmp 7 (.a (.ptr 448 0)), .tmp 8 (.a (.int .i64)), .tmp 10 (.a (.int .u32)), .box 192 (.arr 122 8 .u32), .box 256 (.arr 123 64 .u32), .box 448 (.arr 123 64 .u32)], [], []⟩)] }, rfrz := [], ts := [2] }
noncomputable def e_conciergeref03_Sum (F : Nat) : Env El := (envS 109 (conOf TT s_conciergeref03_right (M_conciergeref03_right F)) (envS 108 (conOf TT s_conciergeref03_Padded (M_conciergeref03_Padded F)) (envS 107 (conOf TT s_conciergeref03_Table (M_conciergeref03_Table F)) envN)))
/-- concierge/conciergeref03.Sum -/
noncomputable def eG_conciergeref03_Sum (F : Nat) (m_conciergeref03_Table : Unit → Option ((List (El .u32)) × (List (El .u32)))) (m_conciergeref03_Padded : (List UInt8) → Option (List UInt8)) (m_conciergeref03_right : (Int) × (Int) → Option (Int)) : Env El := (envS 109 (conOf TT s_conciergeref03_right m_conciergeref03_right) (envS 108 (conOf TT s_conciergeref03_Padded m_conciergeref03_Padded) (envS 107 (conOf TT s_conciergeref03_Table m_conciergeref03_Table) envN)))
noncomputable def G_conciergeref03_Sum_l0 (F : Nat) (m_conciergeref03_Table : Unit → Option ((List (El .u32)) × (List (El .u32)))) (m_conciergeref03_Padded : (List UInt8) → Option (List UInt8)) (m_conciergeref03_right : (Int) × (Int) → Option (Int)) (v4 : (Unit × Unit × List UInt8 × Int × Unit × Int × Int × List Int × List Int × List Int × Unit)) : Option ((Unit × Unit × List UInt8 × Int × Unit × Int × Int × List Int × List Int × List Int × Unit) ⊕ (Unit × Unit × List UInt8 × Int × Unit × Int × List Int × List Int × List Int × Unit)) :=
  if decide (v4.2.2.2.2.2.2.1 < 4) = true then
                                        if (decide (0 ≤ v4.2.2.2.2.2.1) && decide (v4.2.2.2.2.2.1 < 64)) = true then
                                          (anth v4.2.2.2.2.2.2.2.2.2.1 v4.2.2.2.2.2.1.toNat).bind fun v5 =>
                                            (idx v4.2.2.1
                                                  (IntKind.i64.wrap
                                                    (IntKind.i64.wrap (v4.2.2.2.1 + IntKind.i64.wrap (4 * v4.2.2.2.2.2.1)) + v4.2.2.2.2.2.2.1))).bind
                                              fun v6 =>
                                              if (decide (0 ≤ v4.2.2.2.2.2.1) && decide (v4.2.2.2.2.2.1 < 64)) = true then
                                                (aset v4.2.2.2.2.2.2.2.2.2.1 v4.2.2.2.2.2.1.toNat
                                                      (IntKind.u32.wrap (IntKind.u32.wrap (v5 * 256) + IntKind.u32.wrap (↑v6.toNat : Int)))).bind
                                                  fun v7 =>
                                                  some
                                                    (Sum.inl
                                                      ((), (), v4.2.2.1, v4.2.2.2.1, (), v4.2.2.2.2.2.1, IntKind.i64.wrap (v4.2.2.2.2.2.2.1 + 1),
                                                        v4.2.2.2.2.2.2.2.1, v4.2.2.2.2.2.2.2.2.1, v7, ()))
                                              else none
                                        else none
                                      else
                                        some
                                          (Sum.inr
                                            ((), (), v4.2.2.1, v4.2.2.2.1, (), v4.2.2.2.2.2.1, v4.2.2.2.2.2.2.2.1, v4.2.2.2.2.2.2.2.2.1, v4.2.2.2.2.2.2.2.2.2.1,
                                              ()))
noncomputable def G_conciergeref03_Sum_l1 (F : Nat) (m_conciergeref03_Table : Unit → Option ((List (El .u32)) × (List (El .u32)))) (m_conciergeref03_Padded : (List UInt8) → Option (List UInt8)) (m_conciergeref03_right : (Int) × (Int) → Option (Int)) (v3 : (Unit × Unit × List UInt8 × Int × Unit × Int × List Int × List Int × List Int × Unit)) : Option ((Unit × Unit × List UInt8 × Int × Unit × Int × List Int × List Int × List Int × Unit) ⊕ (Unit × Unit × List UInt8 × Int × Unit × List Int × List Int × List Int × Unit)) :=
  if decide (v3.2.2.2.2.2.1 < 64) = true then
                        (if decide (v3.2.2.2.2.2.1 < 16) = true then
                              (loopM (G_conciergeref03_Sum_l0 F m_conciergeref03_Table m_conciergeref03_Padded m_conciergeref03_right)
                                    F
                                    ((), (), v3.2.2.1, v3.2.2.2.1, (), v3.2.2.2.2.2.1, 0, v3.2.2.2.2.2.2.1, v3.2.2.2.2.2.2.2.1, v3.2.2.2.2.2.2.2.2.1, ())).bind
                                fun v8 => some ((), (), v8.2.2)
                            else
                              (if (decide (0 ≤ IntKind.i64.wrap (v3.2.2.2.2.2.1 - 15)) && decide (IntKind.i64.wrap (v3.2.2.2.2.2.1 - 15) < 64)) = true then
                                    (anth v3.2.2.2.2.2.2.2.2.1 (IntKind.i64.wrap (v3.2.2.2.2.2.1 - 15)).toNat).bind fun v9 =>
                                      (m_conciergeref03_right (v9, 7)).bind fun v10 =>
                                        if
                                            (decide (0 ≤ IntKind.i64.wrap (v3.2.2.2.2.2.1 - 15)) && decide (IntKind.i64.wrap (v3.2.2.2.2.2.1 - 15) < 64)) =
                                              true then
                                          (anth v3.2.2.2.2.2.2.2.2.1 (IntKind.i64.wrap (v3.2.2.2.2.2.1 - 15)).toNat).bind fun v11 =>
                                            (m_conciergeref03_right (v11, 18)).bind fun v12 =>
                                              if
                                                  (decide (0 ≤ IntKind.i64.wrap (v3.2.2.2.2.2.1 - 15)) &&
                                                      decide (IntKind.i64.wrap (v3.2.2.2.2.2.1 - 15) < 64)) =
                                                    true then
                                                (anth v3.2.2.2.2.2.2.2.2.1 (IntKind.i64.wrap (v3.2.2.2.2.2.1 - 15)).toNat).bind fun v13 =>
                                                  some
                                                    ((), (), v3.2.2.1, v3.2.2.2.1, (), v3.2.2.2.2.2.1,
                                                      ixor IntKind.u32 (ixor IntKind.u32 v10 v12) (shr IntKind.u32 v13 3), v3.2.2.2.2.2.2.1, v3.2.2.2.2.2.2.2.1,
                                                      v3.2.2.2.2.2.2.2.2.1, ())
                                              else none
                                        else none
                                  else none).bind
                                fun v14 =>
                                (if (decide (0 ≤ IntKind.i64.wrap (v14.2.2.2.2.2.1 - 2)) && decide (IntKind.i64.wrap (v14.2.2.2.2.2.1 - 2) < 64)) = true then
                                      (anth v14.2.2.2.2.2.2.2.2.2.1 (IntKind.i64.wrap (v14.2.2.2.2.2.1 - 2)).toNat).bind fun v15 =>
                                        (m_conciergeref03_right (v15, 17)).bind fun v16 =>
                                          if
                                              (decide (0 ≤ IntKind.i64.wrap (v14.2.2.2.2.2.1 - 2)) && decide (IntKind.i64.wrap (v14.2.2.2.2.2.1 - 2) < 64)) =
                                                true then
                                            (anth v14.2.2.2.2.2.2.2.2.2.1 (IntKind.i64.wrap (v14.2.2.2.2.2.1 - 2)).toNat).bind fun v17 =>
                                              (m_conciergeref03_right (v17, 19)).bind fun v18 =>
                                                if
                                                    (decide (0 ≤ IntKind.i64.wrap (v14.2.2.2.2.2.1 - 2)) &&
                                                        decide (IntKind.i64.wrap (v14.2.2.2.2.2.1 - 2) < 64)) =
                                                      true then
                                                  (anth v14.2.2.2.2.2.2.2.2.2.1 (IntKind.i64.wrap (v14.2.2.2.2.2.1 - 2)).toNat).bind fun v19 =>
                                                    some
                                                      ((), (), v14.2.2.1, v14.2.2.2.1, (), v14.2.2.2.2.2.1, v14.2.2.2.2.2.2.1,
                                                        ixor IntKind.u32 (ixor IntKind.u32 v16 v18) (shr IntKind.u32 v19 10), v14.2.2.2.2.2.2.2.1,
                                                        v14.2.2.2.2.2.2.2.2.1, v14.2.2.2.2.2.2.2.2.2.1, ())
                                                else none
                                          else none
                                    else none).bind
                                  fun v20 =>
                                  if (decide (0 ≤ IntKind.i64.wrap (v20.2.2.2.2.2.1 - 16)) && decide (IntKind.i64.wrap (v20.2.2.2.2.2.1 - 16) < 64)) = true then
                                    (anth v20.2.2.2.2.2.2.2.2.2.2.1 (IntKind.i64.wrap (v20.2.2.2.2.2.1 - 16)).toNat).bind fun v21 =>
                                      if
                                          (decide (0 ≤ IntKind.i64.wrap (v20.2.2.2.2.2.1 - 7)) && decide (IntKind.i64.wrap (v20.2.2.2.2.2.1 - 7) < 64)) =
                                            true then
                                        (anth v20.2.2.2.2.2.2.2.2.2.2.1 (IntKind.i64.wrap (v20.2.2.2.2.2.1 - 7)).toNat).bind fun v22 =>
                                          if (decide (0 ≤ v20.2.2.2.2.2.1) && decide (v20.2.2.2.2.2.1 < 64)) = true then
                                            (aset v20.2.2.2.2.2.2.2.2.2.2.1 v20.2.2.2.2.2.1.toNat
                                                  (IntKind.u32.wrap
                                                    (IntKind.u32.wrap (IntKind.u32.wrap (v21 + v20.2.2.2.2.2.2.1) + v22) + v20.2.2.2.2.2.2.2.1))).bind
                                              fun v23 =>
                                              some
                                                ((), (), v20.2.2.1, v20.2.2.2.1, (), v20.2.2.2.2.2.1, v20.2.2.2.2.2.2.2.2.1, v20.2.2.2.2.2.2.2.2.2.1, v23, ())
                                          else none
                                      else none
                                  else none).bind
                          fun v24 =>
                          some
                            (Sum.inl
                              ((), (), v24.2.2.1, v24.2.2.2.1, (), IntKind.i64.wrap (v24.2.2.2.2.2.1 + 1), v24.2.2.2.2.2.2.1, v24.2.2.2.2.2.2.2.1,
                                v24.2.2.2.2.2.2.2.2.1, ()))
                      else some (Sum.inr ((), (), v3.2.2.1, v3.2.2.2.1, (), v3.2.2.2.2.2.2.1, v3.2.2.2.2.2.2.2.1, v3.2.2.2.2.2.2.2.2.1, ()))
noncomputable def G_conciergeref03_Sum_l2 (F : Nat) (m_conciergeref03_Table : Unit → Option ((List (El .u32)) × (List (El .u32)))) (m_conciergeref03_Padded : (List UInt8) → Option (List UInt8)) (m_conciergeref03_right : (Int) × (Int) → Option (Int)) (v35 : (Unit ×
                          Unit × List UInt8 × Int × Unit × Int × Int × Int × Int × Int × Int × Int × Int × Int × List Int × List Int × List Int × Unit)) : Option ((Unit ×
                          Unit × List UInt8 × Int × Unit × Int × Int × Int × Int × Int × Int × Int × Int × Int × List Int × List Int × List Int × Unit) ⊕ (Unit × Unit × List UInt8 × Int × Int × Int × Int × Int × Int × Int × Int × Int × List Int × List Int × Unit)) :=
  if decide (v35.2.2.2.2.2.2.2.2.2.2.2.2.2.1 < 64) = true then
                            ((m_conciergeref03_right (v35.2.2.2.2.2.2.2.2.2.1, 6)).bind fun v36 =>
                                  (m_conciergeref03_right (v35.2.2.2.2.2.2.2.2.2.1, 11)).bind fun v37 =>
                                    (m_conciergeref03_right (v35.2.2.2.2.2.2.2.2.2.1, 25)).bind fun v38 =>
                                      if (decide (0 ≤ v35.2.2.2.2.2.2.2.2.2.2.2.2.2.1) && decide (v35.2.2.2.2.2.2.2.2.2.2.2.2.2.1 < 64)) = true then
                                        (anth v35.2.2.2.2.2.2.2.2.2.2.2.2.2.2.2.1 v35.2.2.2.2.2.2.2.2.2.2.2.2.2.1.toNat).bind fun v39 =>
                                          if (decide (0 ≤ v35.2.2.2.2.2.2.2.2.2.2.2.2.2.1) && decide (v35.2.2.2.2.2.2.2.2.2.2.2.2.2.1 < 64)) = true then
                                            (anth v35.2.2.2.2.2.2.2.2.2.2.2.2.2.2.2.2.1 v35.2.2.2.2.2.2.2.2.2.2.2.2.2.1.toNat).bind fun v40 =>
                                              some
                                                ((), (), v35.2.2.1, v35.2.2.2.1, (), v35.2.2.2.2.2.1, v35.2.2.2.2.2.2.1, v35.2.2.2.2.2.2.2.1,
                                                  v35.2.2.2.2.2.2.2.2.1, v35.2.2.2.2.2.2.2.2.2.1, v35.2.2.2.2.2.2.2.2.2.2.1, v35.2.2.2.2.2.2.2.2.2.2.2.1,
                                                  v35.2.2.2.2.2.2.2.2.2.2.2.2.2.1,
                                                  IntKind.u32.wrap
                                                    (IntKind.u32.wrap
                                                        (IntKind.u32.wrap
                                                            (IntKind.u32.wrap
                                                                (v35.2.2.2.2.2.2.2.2.2.2.2.2.1 + ixor IntKind.u32 (ixor IntKind.u32 v36 v37) v38) +
                                                              ixor IntKind.u32 (iand IntKind.u32 v35.2.2.2.2.2.2.2.2.2.1 v35.2.2.2.2.2.2.2.2.2.2.1)
                                                                (iand IntKind.u32 (inot IntKind.u32 v35.2.2.2.2.2.2.2.2.2.1) v35.2.2.2.2.2.2.2.2.2.2.2.1)) +
                                                          v39) +
                                                      v40),
                                                  v35.2.2.2.2.2.2.2.2.2.2.2.2.2.2.1, v35.2.2.2.2.2.2.2.2.2.2.2.2.2.2.2.1, v35.2.2.2.2.2.2.2.2.2.2.2.2.2.2.2.2.1,
                                                  ())
                                          else none
                                      else none).bind
                              fun v41 =>
                              ((m_conciergeref03_right (v41.2.2.2.2.2.1, 2)).bind fun v42 =>
                                    (m_conciergeref03_right (v41.2.2.2.2.2.1, 13)).bind fun v43 =>
                                      (m_conciergeref03_right (v41.2.2.2.2.2.1, 22)).bind fun v44 =>
                                        some
                                          ((), (), v41.2.2.1, v41.2.2.2.1, (), v41.2.2.2.2.2.1, v41.2.2.2.2.2.2.1, v41.2.2.2.2.2.2.2.1, v41.2.2.2.2.2.2.2.2.1,
                                            v41.2.2.2.2.2.2.2.2.2.1, v41.2.2.2.2.2.2.2.2.2.2.1, v41.2.2.2.2.2.2.2.2.2.2.2.1, v41.2.2.2.2.2.2.2.2.2.2.2.2.1,
                                            v41.2.2.2.2.2.2.2.2.2.2.2.2.2.1,
                                            IntKind.u32.wrap
                                              (ixor IntKind.u32 (ixor IntKind.u32 v42 v43) v44 +
                                                ixor IntKind.u32
                                                  (ixor IntKind.u32 (iand IntKind.u32 v41.2.2.2.2.2.1 v41.2.2.2.2.2.2.1)
                                                    (iand IntKind.u32 v41.2.2.2.2.2.1 v41.2.2.2.2.2.2.2.1))
                                                  (iand IntKind.u32 v41.2.2.2.2.2.2.1 v41.2.2.2.2.2.2.2.1)),
                                            v41.2.2.2.2.2.2.2.2.2.2.2.2.2.2.1, v41.2.2.2.2.2.2.2.2.2.2.2.2.2.2.2.1, v41.2.2.2.2.2.2.2.2.2.2.2.2.2.2.2.2.1,
                                            ())).bind
                                fun v45 =>
                                some
                                  (Sum.inl
                                    ((), (), v45.2.2.1, v45.2.2.2.1, (), IntKind.u32.wrap (v45.2.2.2.2.2.2.2.2.2.2.2.2.2.1 + v45.2.2.2.2.2.2.2.2.2.2.2.2.2.2.1),
                                      v45.2.2.2.2.2.1, v45.2.2.2.2.2.2.1, v45.2.2.2.2.2.2.2.1,
                                      IntKind.u32.wrap (v45.2.2.2.2.2.2.2.2.1 + v45.2.2.2.2.2.2.2.2.2.2.2.2.2.1), v45.2.2.2.2.2.2.2.2.2.1,
                                      v45.2.2.2.2.2.2.2.2.2.2.1, v45.2.2.2.2.2.2.2.2.2.2.2.1, IntKind.i64.wrap (v45.2.2.2.2.2.2.2.2.2.2.2.2.1 + 1),
                                      v45.2.2.2.2.2.2.2.2.2.2.2.2.2.2.2.1, v45.2.2.2.2.2.2.2.2.2.2.2.2.2.2.2.2.1, v45.2.2.2.2.2.2.2.2.2.2.2.2.2.2.2.2.2.1, ()))
                          else
                            some
                              (Sum.inr
                                ((), (), v35.2.2.1, v35.2.2.2.1, v35.2.2.2.2.2.1, v35.2.2.2.2.2.2.1, v35.2.2.2.2.2.2.2.1, v35.2.2.2.2.2.2.2.2.1,
                                  v35.2.2.2.2.2.2.2.2.2.1, v35.2.2.2.2.2.2.2.2.2.2.1, v35.2.2.2.2.2.2.2.2.2.2.2.1, v35.2.2.2.2.2.2.2.2.2.2.2.2.1,
                                  v35.2.2.2.2.2.2.2.2.2.2.2.2.2.2.1, v35.2.2.2.2.2.2.2.2.2.2.2.2.2.2.2.1, ()))
noncomputable def G_conciergeref03_Sum_l3 (F : Nat) (m_conciergeref03_Table : Unit → Option ((List (El .u32)) × (List (El .u32)))) (m_conciergeref03_Padded : (List UInt8) → Option (List UInt8)) (m_conciergeref03_right : (Int) × (Int) → Option (Int)) (v2 : (Unit × Unit × List UInt8 × Int × List Int × List Int × Unit)) : Option ((Unit × Unit × List UInt8 × Int × List Int × List Int × Unit) ⊕ (Unit × List Int × Unit)) :=
  if decide (v2.2.2.2.1 < (↑v2.2.2.1.length : Int)) = true then
              (loopM (G_conciergeref03_Sum_l1 F m_conciergeref03_Table m_conciergeref03_Padded m_conciergeref03_right)
                    F
                    ((), (), v2.2.2.1, v2.2.2.2.1, (), 0, v2.2.2.2.2.1, v2.2.2.2.2.2.1,
                      [0, 0, 0, 0, 0, 0, 0, 0, 0, 0, 0, 0, 0, 0, 0, 0, 0, 0, 0, 0, 0, 0, 0, 0, 0, 0, 0, 0, 0, 0, 0, 0, 0, 0, 0, 0, 0, 0, 0, 0, 0, 0, 0, 0, 0, 0,
                        0, 0, 0, 0, 0, 0, 0, 0, 0, 0, 0, 0, 0, 0, 0, 0, 0, 0],
                      ())).bind
                fun v25 =>
                ((anth v25.2.2.2.2.2.1 0).bind fun v26 =>
                      (anth v25.2.2.2.2.2.1 1).bind fun v27 =>
                        (anth v25.2.2.2.2.2.1 2).bind fun v28 =>
                          (anth v25.2.2.2.2.2.1 3).bind fun v29 =>
                            (anth v25.2.2.2.2.2.1 4).bind fun v30 =>
                              (anth v25.2.2.2.2.2.1 5).bind fun v31 =>
                                (anth v25.2.2.2.2.2.1 6).bind fun v32 =>
                                  (anth v25.2.2.2.2.2.1 7).bind fun v33 =>
                                    some
                                      ((), (), v25.2.2.1, v25.2.2.2.1, (), v26, v27, v28, v29, v30, v31, v32, v33, v25.2.2.2.2.2.1, v25.2.2.2.2.2.2.1,
                                        v25.2.2.2.2.2.2.2.1, ())).bind
                  fun v34 =>
                  (loopM (G_conciergeref03_Sum_l2 F m_conciergeref03_Table m_conciergeref03_Padded m_conciergeref03_right)
                        F
                        ((), (), v34.2.2.1, v34.2.2.2.1, (), v34.2.2.2.2.2.1, v34.2.2.2.2.2.2.1, v34.2.2.2.2.2.2.2.1, v34.2.2.2.2.2.2.2.2.1,
                          v34.2.2.2.2.2.2.2.2.2.1, v34.2.2.2.2.2.2.2.2.2.2.1, v34.2.2.2.2.2.2.2.2.2.2.2.1, v34.2.2.2.2.2.2.2.2.2.2.2.2.1, 0,
                          v34.2.2.2.2.2.2.2.2.2.2.2.2.2.1, v34.2.2.2.2.2.2.2.2.2.2.2.2.2.2.1, v34.2.2.2.2.2.2.2.2.2.2.2.2.2.2.2.1, ())).bind
                    fun v46 =>
                    (anth v46.2.2.2.2.2.2.2.2.2.2.2.2.1 0).bind fun v47 =>
                      (anth v46.2.2.2.2.2.2.2.2.2.2.2.2.1 1).bind fun v48 =>
                        (anth v46.2.2.2.2.2.2.2.2.2.2.2.2.1 2).bind fun v49 =>
                          (anth v46.2.2.2.2.2.2.2.2.2.2.2.2.1 3).bind fun v50 =>
                            (anth v46.2.2.2.2.2.2.2.2.2.2.2.2.1 4).bind fun v51 =>
                              (anth v46.2.2.2.2.2.2.2.2.2.2.2.2.1 5).bind fun v52 =>
                                (anth v46.2.2.2.2.2.2.2.2.2.2.2.2.1 6).bind fun v53 =>
                                  (anth v46.2.2.2.2.2.2.2.2.2.2.2.2.1 7).bind fun v54 =>
                                    some
                                      (Sum.inl
                                        ((), (), v46.2.2.1, IntKind.i64.wrap (v46.2.2.2.1 + 64),
                                          [IntKind.u32.wrap (v47 + v46.2.2.2.2.1), IntKind.u32.wrap (v48 + v46.2.2.2.2.2.1),
                                            IntKind.u32.wrap (v49 + v46.2.2.2.2.2.2.1), IntKind.u32.wrap (v50 + v46.2.2.2.2.2.2.2.1),
                                            IntKind.u32.wrap (v51 + v46.2.2.2.2.2.2.2.2.1), IntKind.u32.wrap (v52 + v46.2.2.2.2.2.2.2.2.2.1),
                                            IntKind.u32.wrap (v53 + v46.2.2.2.2.2.2.2.2.2.2.1), IntKind.u32.wrap (v54 + v46.2.2.2.2.2.2.2.2.2.2.2.1)],
                                          v46.2.2.2.2.2.2.2.2.2.2.2.2.2.1, ()))
            else some (Sum.inr ((), v2.2.2.2.2.1, ()))
noncomputable def G_conciergeref03_Sum_l4 (F : Nat) (m_conciergeref03_Table : Unit → Option ((List (El .u32)) × (List (El .u32)))) (m_conciergeref03_Padded : (List UInt8) → Option (List UInt8)) (m_conciergeref03_right : (Int) × (Int) → Option (Int)) (v56 : (Unit × List UInt8 × Int × List Int × Unit)) : Option ((Unit × List UInt8 × Int × List Int × Unit) ⊕ (List UInt8 × Unit)) :=
  if decide (v56.2.2.1 < 8) = true then
                if (decide (0 ≤ v56.2.2.1) && decide (v56.2.2.1 < 8)) = true then
                  (anth v56.2.2.2.1 v56.2.2.1.toNat).bind fun v57 =>
                    if (decide (0 ≤ v56.2.2.1) && decide (v56.2.2.1 < 8)) = true then
                      (anth v56.2.2.2.1 v56.2.2.1.toNat).bind fun v58 =>
                        if (decide (0 ≤ v56.2.2.1) && decide (v56.2.2.1 < 8)) = true then
                          (anth v56.2.2.2.1 v56.2.2.1.toNat).bind fun v59 =>
                            if (decide (0 ≤ v56.2.2.1) && decide (v56.2.2.1 < 8)) = true then
                              (anth v56.2.2.2.1 v56.2.2.1.toNat).bind fun v60 =>
                                if
                                    decide
                                        (v56.2.1.length +
                                            [UInt8.ofNat (IntKind.u8.wrap (shr IntKind.u32 v57 24)).toNat,
                                                UInt8.ofNat (IntKind.u8.wrap (shr IntKind.u32 v58 16)).toNat,
                                                UInt8.ofNat (IntKind.u8.wrap (shr IntKind.u32 v59 8)).toNat, UInt8.ofNat (IntKind.u8.wrap v60).toNat].length ≤
                                          9223372036854775807) =
                                      true then
                                  some
                                    (Sum.inl
                                      ((),
                                        v56.2.1 ++
                                          [UInt8.ofNat (IntKind.u8.wrap (shr IntKind.u32 v57 24)).toNat,
                                            UInt8.ofNat (IntKind.u8.wrap (shr IntKind.u32 v58 16)).toNat,
                                            UInt8.ofNat (IntKind.u8.wrap (shr IntKind.u32 v59 8)).toNat, UInt8.ofNat (IntKind.u8.wrap v60).toNat],
                                        IntKind.i64.wrap (v56.2.2.1 + 1), v56.2.2.2.1, ()))
                                else none
                            else none
                        else none
                    else none
                else none
              else some (Sum.inr (v56.2.1, ()))
noncomputable def G_conciergeref03_Sum (F : Nat) (m_conciergeref03_Table : Unit → Option ((List (El .u32)) × (List (El .u32)))) (m_conciergeref03_Padded : (List UInt8) → Option (List UInt8)) (m_conciergeref03_right : (Int) × (Int) → Option (Int)) (x : (List UInt8)) : Option (List UInt8) :=
  (m_conciergeref03_Table ()).bind fun v0 =>
    (m_conciergeref03_Padded x).bind fun v1 =>
      (loopM (G_conciergeref03_Sum_l3 F m_conciergeref03_Table m_conciergeref03_Padded m_conciergeref03_right)
            F ((), (), v1, 0, v0.1, v0.2, ())).bind
        fun v55 =>
        (loopM (G_conciergeref03_Sum_l4 F m_conciergeref03_Table m_conciergeref03_Padded m_conciergeref03_right)
              F ((), [], 0, v55.2.1, ())).bind
          fun v61 => some v61.1
theorem g_conciergeref03_Sum (F : Nat) (m_conciergeref03_Table : Unit → Option ((List (El .u32)) × (List (El .u32)))) (m_conciergeref03_Padded : (List UInt8) → Option (List UInt8)) (m_conciergeref03_right : (Int) × (Int) → Option (Int)) (x : (List UInt8)) : fnRun TT Tryz.prog (eG_conciergeref03_Sum F m_conciergeref03_Table m_conciergeref03_Padded m_conciergeref03_right) s_conciergeref03_Sum (bodyOf 81) F x = G_conciergeref03_Sum F m_conciergeref03_Table m_conciergeref03_Padded m_conciergeref03_right x := by kernel_rfl
noncomputable def M_conciergeref03_Sum_l0 (F : Nat) (v4 : (Unit × Unit × List UInt8 × Int × Unit × Int × Int × List Int × List Int × List Int × Unit)) : Option ((Unit × Unit × List UInt8 × Int × Unit × Int × Int × List Int × List Int × List Int × Unit) ⊕ (Unit × Unit × List UInt8 × Int × Unit × Int × List Int × List Int × List Int × Unit)) :=
  if decide (v4.2.2.2.2.2.2.1 < 4) = true then
                                        if (decide (0 ≤ v4.2.2.2.2.2.1) && decide (v4.2.2.2.2.2.1 < 64)) = true then
                                          (anth v4.2.2.2.2.2.2.2.2.2.1 v4.2.2.2.2.2.1.toNat).bind fun v5 =>
                                            (idx v4.2.2.1
                                                  (IntKind.i64.wrap
                                                    (IntKind.i64.wrap (v4.2.2.2.1 + IntKind.i64.wrap (4 * v4.2.2.2.2.2.1)) + v4.2.2.2.2.2.2.1))).bind
                                              fun v6 =>
                                              if (decide (0 ≤ v4.2.2.2.2.2.1) && decide (v4.2.2.2.2.2.1 < 64)) = true then
                                                (aset v4.2.2.2.2.2.2.2.2.2.1 v4.2.2.2.2.2.1.toNat
                                                      (IntKind.u32.wrap (IntKind.u32.wrap (v5 * 256) + IntKind.u32.wrap (↑v6.toNat : Int)))).bind
                                                  fun v7 =>
                                                  some
                                                    (Sum.inl
                                                      ((), (), v4.2.2.1, v4.2.2.2.1, (), v4.2.2.2.2.2.1, IntKind.i64.wrap (v4.2.2.2.2.2.2.1 + 1),
                                                        v4.2.2.2.2.2.2.2.1, v4.2.2.2.2.2.2.2.2.1, v7, ()))
                                              else none
                                        else none
                                      else
                                        some
                                          (Sum.inr
                                            ((), (), v4.2.2.1, v4.2.2.2.1, (), v4.2.2.2.2.2.1, v4.2.2.2.2.2.2.2.1, v4.2.2.2.2.2.2.2.2.1, v4.2.2.2.2.2.2.2.2.2.1,
                                              ()))
noncomputable def M_conciergeref03_Sum_l1 (F : Nat) (v3 : (Unit × Unit × List UInt8 × Int × Unit × Int × List Int × List Int × List Int × Unit)) : Option ((Unit × Unit × List UInt8 × Int × Unit × Int × List Int × List Int × List Int × Unit) ⊕ (Unit × Unit × List UInt8 × Int × Unit × List Int × List Int × List Int × Unit)) :=
  if decide (v3.2.2.2.2.2.1 < 64) = true then
                        (if decide (v3.2.2.2.2.2.1 < 16) = true then
                              (loopM (M_conciergeref03_Sum_l0 F)
                                    F
                                    ((), (), v3.2.2.1, v3.2.2.2.1, (), v3.2.2.2.2.2.1, 0, v3.2.2.2.2.2.2.1, v3.2.2.2.2.2.2.2.1, v3.2.2.2.2.2.2.2.2.1, ())).bind
                                fun v8 => some ((), (), v8.2.2)
                            else
                              (if (decide (0 ≤ IntKind.i64.wrap (v3.2.2.2.2.2.1 - 15)) && decide (IntKind.i64.wrap (v3.2.2.2.2.2.1 - 15) < 64)) = true then
                                    (anth v3.2.2.2.2.2.2.2.2.1 (IntKind.i64.wrap (v3.2.2.2.2.2.1 - 15)).toNat).bind fun v9 =>
                                      (M_conciergeref03_right F (v9, 7)).bind fun v10 =>
                                        if
                                            (decide (0 ≤ IntKind.i64.wrap (v3.2.2.2.2.2.1 - 15)) && decide (IntKind.i64.wrap (v3.2.2.2.2.2.1 - 15) < 64)) =
                                              true then
                                          (anth v3.2.2.2.2.2.2.2.2.1 (IntKind.i64.wrap (v3.2.2.2.2.2.1 - 15)).toNat).bind fun v11 =>
                                            (M_conciergeref03_right F (v11, 18)).bind fun v12 =>
                                              if
                                                  (decide (0 ≤ IntKind.i64.wrap (v3.2.2.2.2.2.1 - 15)) &&
                                                      decide (IntKind.i64.wrap (v3.2.2.2.2.2.1 - 15) < 64)) =
                                                    true then
                                                (anth v3.2.2.2.2.2.2.2.2.1 (IntKind.i64.wrap (v3.2.2.2.2.2.1 - 15)).toNat).bind fun v13 =>
                                                  some
                                                    ((), (), v3.2.2.1, v3.2.2.2.1, (), v3.2.2.2.2.2.1,
                                                      ixor IntKind.u32 (ixor IntKind.u32 v10 v12) (shr IntKind.u32 v13 3), v3.2.2.2.2.2.2.1, v3.2.2.2.2.2.2.2.1,
                                                      v3.2.2.2.2.2.2.2.2.1, ())
                                              else none
                                        else none
                                  else none).bind
                                fun v14 =>
                                (if (decide (0 ≤ IntKind.i64.wrap (v14.2.2.2.2.2.1 - 2)) && decide (IntKind.i64.wrap (v14.2.2.2.2.2.1 - 2) < 64)) = true then
                                      (anth v14.2.2.2.2.2.2.2.2.2.1 (IntKind.i64.wrap (v14.2.2.2.2.2.1 - 2)).toNat).bind fun v15 =>
                                        (M_conciergeref03_right F (v15, 17)).bind fun v16 =>
                                          if
                                              (decide (0 ≤ IntKind.i64.wrap (v14.2.2.2.2.2.1 - 2)) && decide (IntKind.i64.wrap (v14.2.2.2.2.2.1 - 2) < 64)) =
                                                true then
                                            (anth v14.2.2.2.2.2.2.2.2.2.1 (IntKind.i64.wrap (v14.2.2.2.2.2.1 - 2)).toNat).bind fun v17 =>
                                              (M_conciergeref03_right F (v17, 19)).bind fun v18 =>
                                                if
                                                    (decide (0 ≤ IntKind.i64.wrap (v14.2.2.2.2.2.1 - 2)) &&
                                                        decide (IntKind.i64.wrap (v14.2.2.2.2.2.1 - 2) < 64)) =
                                                      true then
                                                  (anth v14.2.2.2.2.2.2.2.2.2.1 (IntKind.i64.wrap (v14.2.2.2.2.2.1 - 2)).toNat).bind fun v19 =>
                                                    some
                                                      ((), (), v14.2.2.1, v14.2.2.2.1, (), v14.2.2.2.2.2.1, v14.2.2.2.2.2.2.1,
                                                        ixor IntKind.u32 (ixor IntKind.u32 v16 v18) (shr IntKind.u32 v19 10), v14.2.2.2.2.2.2.2.1,
                                                        v14.2.2.2.2.2.2.2.2.1, v14.2.2.2.2.2.2.2.2.2.1, ())
                                                else none
                                          else none
                                    else none).bind
                                  fun v20 =>
                                  if (decide (0 ≤ IntKind.i64.wrap (v20.2.2.2.2.2.1 - 16)) && decide (IntKind.i64.wrap (v20.2.2.2.2.2.1 - 16) < 64)) = true then
                                    (anth v20.2.2.2.2.2.2.2.2.2.2.1 (IntKind.i64.wrap (v20.2.2.2.2.2.1 - 16)).toNat).bind fun v21 =>
                                      if
                                          (decide (0 ≤ IntKind.i64.wrap (v20.2.2.2.2.2.1 - 7)) && decide (IntKind.i64.wrap (v20.2.2.2.2.2.1 - 7) < 64)) =
                                            true then
                                        (anth v20.2.2.2.2.2.2.2.2.2.2.1 (IntKind.i64.wrap (v20.2.2.2.2.2.1 - 7)).toNat).bind fun v22 =>
                                          if (decide (0 ≤ v20.2.2.2.2.2.1) && decide (v20.2.2.2.2.2.1 < 64)) = true then
                                            (aset v20.2.2.2.2.2.2.2.2.2.2.1 v20.2.2.2.2.2.1.toNat
                                                  (IntKind.u32.wrap
                                                    (IntKind.u32.wrap (IntKind.u32.wrap (v21 + v20.2.2.2.2.2.2.1) + v22) + v20.2.2.2.2.2.2.2.1))).bind
                                              fun v23 =>
                                              some
                                                ((), (), v20.2.2.1, v20.2.2.2.1, (), v20.2.2.2.2.2.1, v20.2.2.2.2.2.2.2.2.1, v20.2.2.2.2.2.2.2.2.2.1, v23, ())
                                          else none
                                      else none
                                  else none).bind
                          fun v24 =>
                          some
                            (Sum.inl
                              ((), (), v24.2.2.1, v24.2.2.2.1, (), IntKind.i64.wrap (v24.2.2.2.2.2.1 + 1), v24.2.2.2.2.2.2.1, v24.2.2.2.2.2.2.2.1,
                                v24.2.2.2.2.2.2.2.2.1, ()))
                      else some (Sum.inr ((), (), v3.2.2.1, v3.2.2.2.1, (), v3.2.2.2.2.2.2.1, v3.2.2.2.2.2.2.2.1, v3.2.2.2.2.2.2.2.2.1, ()))
noncomputable def M_conciergeref03_Sum_l2 (F : Nat) (v35 : (Unit ×
                          Unit × List UInt8 × Int × Unit × Int × Int × Int × Int × Int × Int × Int × Int × Int × List Int × List Int × List Int × Unit)) : Option ((Unit ×
                          Unit × List UInt8 × Int × Unit × Int × Int × Int × Int × Int × Int × Int × Int × Int × List Int × List Int × List Int × Unit) ⊕ (Unit × Unit × List UInt8 × Int × Int × Int × Int × Int × Int × Int × Int × Int × List Int × List Int × Unit)) :=
  if decide (v35.2.2.2.2.2.2.2.2.2.2.2.2.2.1 < 64) = true then
                            ((M_conciergeref03_right F (v35.2.2.2.2.2.2.2.2.2.1, 6)).bind fun v36 =>
                                  (M_conciergeref03_right F (v35.2.2.2.2.2.2.2.2.2.1, 11)).bind fun v37 =>
                                    (M_conciergeref03_right F (v35.2.2.2.2.2.2.2.2.2.1, 25)).bind fun v38 =>
                                      if (decide (0 ≤ v35.2.2.2.2.2.2.2.2.2.2.2.2.2.1) && decide (v35.2.2.2.2.2.2.2.2.2.2.2.2.2.1 < 64)) = true then
                                        (anth v35.2.2.2.2.2.2.2.2.2.2.2.2.2.2.2.1 v35.2.2.2.2.2.2.2.2.2.2.2.2.2.1.toNat).bind fun v39 =>
                                          if (decide (0 ≤ v35.2.2.2.2.2.2.2.2.2.2.2.2.2.1) && decide (v35.2.2.2.2.2.2.2.2.2.2.2.2.2.1 < 64)) = true then
                                            (anth v35.2.2.2.2.2.2.2.2.2.2.2.2.2.2.2.2.1 v35.2.2.2.2.2.2.2.2.2.2.2.2.2.1.toNat).bind fun v40 =>
                                              some
                                                ((), (), v35.2.2.1, v35.2.2.2.1, (), v35.2.2.2.2.2.1, v35.2.2.2.2.2.2.1, v35.2.2.2.2.2.2.2.1,
                                                  v35.2.2.2.2.2.2.2.2.1, v35.2.2.2.2.2.2.2.2.2.1, v35.2.2.2.2.2.2.2.2.2.2.1, v35.2.2.2.2.2.2.2.2.2.2.2.1,
                                                  v35.2.2.2.2.2.2.2.2.2.2.2.2.2.1,
                                                  IntKind.u32.wrap
                                                    (IntKind.u32.wrap
                                                        (IntKind.u32.wrap
                                                            (IntKind.u32.wrap
                                                                (v35.2.2.2.2.2.2.2.2.2.2.2.2.1 + ixor IntKind.u32 (ixor IntKind.u32 v36 v37) v38) +
                                                              ixor IntKind.u32 (iand IntKind.u32 v35.2.2.2.2.2.2.2.2.2.1 v35.2.2.2.2.2.2.2.2.2.2.1)
                                                                (iand IntKind.u32 (inot IntKind.u32 v35.2.2.2.2.2.2.2.2.2.1) v35.2.2.2.2.2.2.2.2.2.2.2.1)) +
                                                          v39) +
                                                      v40),
                                                  v35.2.2.2.2.2.2.2.2.2.2.2.2.2.2.1, v35.2.2.2.2.2.2.2.2.2.2.2.2.2.2.2.1, v35.2.2.2.2.2.2.2.2.2.2.2.2.2.2.2.2.1,
                                                  ())
                                          else none
                                      else none).bind
                              fun v41 =>
                              ((M_conciergeref03_right F (v41.2.2.2.2.2.1, 2)).bind fun v42 =>
                                    (M_conciergeref03_right F (v41.2.2.2.2.2.1, 13)).bind fun v43 =>
                                      (M_conciergeref03_right F (v41.2.2.2.2.2.1, 22)).bind fun v44 =>
                                        some
                                          ((), (), v41.2.2.1, v41.2.2.2.1, (), v41.2.2.2.2.2.1, v41.2.2.2.2.2.2.1, v41.2.2.2.2.2.2.2.1, v41.2.2.2.2.2.2.2.2.1,
                                            v41.2.2.2.2.2.2.2.2.2.1, v41.2.2.2.2.2.2.2.2.2.2.1, v41.2.2.2.2.2.2.2.2.2.2.2.1, v41.2.2.2.2.2.2.2.2.2.2.2.2.1,
                                            v41.2.2.2.2.2.2.2.2.2.2.2.2.2.1,
                                            IntKind.u32.wrap
                                              (ixor IntKind.u32 (ixor IntKind.u32 v42 v43) v44 +
                                                ixor IntKind.u32
                                                  (ixor IntKind.u32 (iand IntKind.u32 v41.2.2.2.2.2.1 v41.2.2.2.2.2.2.1)
                                                    (iand IntKind.u32 v41.2.2.2.2.2.1 v41.2.2.2.2.2.2.2.1))
                                                  (iand IntKind.u32 v41.2.2.2.2.2.2.1 v41.2.2.2.2.2.2.2.1)),
                                            v41.2.2.2.2.2.2.2.2.2.2.2.2.2.2.1, v41.2.2.2.2.2.2.2.2.2.2.2.2.2.2.2.1, v41.2.2.2.2.2.2.2.2.2.2.2.2.2.2.2.2.1,
                                            ())).bind
                                fun v45 =>
                                some
                                  (Sum.inl
                                    ((), (), v45.2.2.1, v45.2.2.2.1, (), IntKind.u32.wrap (v45.2.2.2.2.2.2.2.2.2.2.2.2.2.1 + v45.2.2.2.2.2.2.2.2.2.2.2.2.2.2.1),
                                      v45.2.2.2.2.2.1, v45.2.2.2.2.2.2.1, v45.2.2.2.2.2.2.2.1,
                                      IntKind.u32.wrap (v45.2.2.2.2.2.2.2.2.1 + v45.2.2.2.2.2.2.2.2.2.2.2.2.2.1), v45.2.2.2.2.2.2.2.2.2.1,
                                      v45.2.2.2.2.2.2.2.2.2.2.1, v45.2.2.2.2.2.2.2.2.2.2.2.1, IntKind.i64.wrap (v45.2.2.2.2.2.2.2.2.2.2.2.2.1 + 1),
                                      v45.2.2.2.2.2.2.2.2.2.2.2.2.2.2.2.1, v45.2.2.2.2.2.2.2.2.2.2.2.2.2.2.2.2.1, v45.2.2.2.2.2.2.2.2.2.2.2.2.2.2.2.2.2.1, ()))
                          else
                            some
                              (Sum.inr
                                ((), (), v35.2.2.1, v35.2.2.2.1, v35.2.2.2.2.2.1, v35.2.2.2.2.2.2.1, v35.2.2.2.2.2.2.2.1, v35.2.2.2.2.2.2.2.2.1,
                                  v35.2.2.2.2.2.2.2.2.2.1, v35.2.2.2.2.2.2.2.2.2.2.1, v35.2.2.2.2.2.2.2.2.2.2.2.1, v35.2.2.2.2.2.2.2.2.2.2.2.2.1,
                                  v35.2.2.2.2.2.2.2.2.2.2.2.2.2.2.1, v35.2.2.2.2.2.2.2.2.2.2.2.2.2.2.2.1, ()))
noncomputable def M_conciergeref03_Sum_l3 (F : Nat) (v2 : (Unit × Unit × List UInt8 × Int × List Int × List Int × Unit)) : Option ((Unit × Unit × List UInt8 × Int × List Int × List Int × Unit) ⊕ (Unit × List Int × Unit)) :=
  if decide (v2.2.2.2.1 < (↑v2.2.2.1.length : Int)) = true then
              (loopM (M_conciergeref03_Sum_l1 F)
                    F
                    ((), (), v2.2.2.1, v2.2.2.2.1, (), 0, v2.2.2.2.2.1, v2.2.2.2.2.2.1,
                      [0, 0, 0, 0, 0, 0, 0, 0, 0, 0, 0, 0, 0, 0, 0, 0, 0, 0, 0, 0, 0, 0, 0, 0, 0, 0, 0, 0, 0, 0, 0, 0, 0, 0, 0, 0, 0, 0, 0, 0, 0, 0, 0, 0, 0, 0,
                        0, 0, 0, 0, 0, 0, 0, 0, 0, 0, 0, 0, 0, 0, 0, 0, 0, 0],
                      ())).bind
                fun v25 =>
                ((anth v25.2.2.2.2.2.1 0).bind fun v26 =>
                      (anth v25.2.2.2.2.2.1 1).bind fun v27 =>
                        (anth v25.2.2.2.2.2.1 2).bind fun v28 =>
                          (anth v25.2.2.2.2.2.1 3).bind fun v29 =>
                            (anth v25.2.2.2.2.2.1 4).bind fun v30 =>
                              (anth v25.2.2.2.2.2.1 5).bind fun v31 =>
                                (anth v25.2.2.2.2.2.1 6).bind fun v32 =>
                                  (anth v25.2.2.2.2.2.1 7).bind fun v33 =>
                                    some
                                      ((), (), v25.2.2.1, v25.2.2.2.1, (), v26, v27, v28, v29, v30, v31, v32, v33, v25.2.2.2.2.2.1, v25.2.2.2.2.2.2.1,
                                        v25.2.2.2.2.2.2.2.1, ())).bind
                  fun v34 =>
                  (loopM (M_conciergeref03_Sum_l2 F)
                        F
                        ((), (), v34.2.2.1, v34.2.2.2.1, (), v34.2.2.2.2.2.1, v34.2.2.2.2.2.2.1, v34.2.2.2.2.2.2.2.1, v34.2.2.2.2.2.2.2.2.1,
                          v34.2.2.2.2.2.2.2.2.2.1, v34.2.2.2.2.2.2.2.2.2.2.1, v34.2.2.2.2.2.2.2.2.2.2.2.1, v34.2.2.2.2.2.2.2.2.2.2.2.2.1, 0,
                          v34.2.2.2.2.2.2.2.2.2.2.2.2.2.1, v34.2.2.2.2.2.2.2.2.2.2.2.2.2.2.1, v34.2.2.2.2.2.2.2.2.2.2.2.2.2.2.2.1, ())).bind
                    fun v46 =>
                    (anth v46.2.2.2.2.2.2.2.2.2.2.2.2.1 0).bind fun v47 =>
                      (anth v46.2.2.2.2.2.2.2.2.2.2.2.2.1 1).bind fun v48 =>
                        (anth v46.2.2.2.2.2.2.2.2.2.2.2.2.1 2).bind fun v49 =>
                          (anth v46.2.2.2.2.2.2.2.2.2.2.2.2.1 3).bind fun v50 =>
                            (anth v46.2.2.2.2.2.2.2.2.2.2.2.2.1 4).bind fun v51 =>
                              (anth v46.2.2.2.2.2.2.2.2.2.2.2.2.1 5).bind fun v52 =>
                                (anth v46.2.2.2.2.2.2.2.2.2.2.2.2.1 6).bind fun v53 =>
                                  (anth v46.2.2.2.2.2.2.2.2.2.2.2.2.1 7).bind fun v54 =>
                                    some
                                      (Sum.inl
                                        ((), (), v46.2.2.1, IntKind.i64.wrap (v46.2.2.2.1 + 64),
                                          [IntKind.u32.wrap (v47 + v46.2.2.2.2.1), IntKind.u32.wrap (v48 + v46.2.2.2.2.2.1),
                                            IntKind.u32.wrap (v49 + v46.2.2.2.2.2.2.1), IntKind.u32.wrap (v50 + v46.2.2.2.2.2.2.2.1),
                                            IntKind.u32.wrap (v51 + v46.2.2.2.2.2.2.2.2.1), IntKind.u32.wrap (v52 + v46.2.2.2.2.2.2.2.2.2.1),
                                            IntKind.u32.wrap (v53 + v46.2.2.2.2.2.2.2.2.2.2.1), IntKind.u32.wrap (v54 + v46.2.2.2.2.2.2.2.2.2.2.2.1)],
                                          v46.2.2.2.2.2.2.2.2.2.2.2.2.2.1, ()))
            else some (Sum.inr ((), v2.2.2.2.2.1, ()))
noncomputable def M_conciergeref03_Sum_l4 (F : Nat) (v56 : (Unit × List UInt8 × Int × List Int × Unit)) : Option ((Unit × List UInt8 × Int × List Int × Unit) ⊕ (List UInt8 × Unit)) :=
  if decide (v56.2.2.1 < 8) = true then
                if (decide (0 ≤ v56.2.2.1) && decide (v56.2.2.1 < 8)) = true then
                  (anth v56.2.2.2.1 v56.2.2.1.toNat).bind fun v57 =>
                    if (decide (0 ≤ v56.2.2.1) && decide (v56.2.2.1 < 8)) = true then
                      (anth v56.2.2.2.1 v56.2.2.1.toNat).bind fun v58 =>
                        if (decide (0 ≤ v56.2.2.1) && decide (v56.2.2.1 < 8)) = true then
                          (anth v56.2.2.2.1 v56.2.2.1.toNat).bind fun v59 =>
                            if (decide (0 ≤ v56.2.2.1) && decide (v56.2.2.1 < 8)) = true then
                              (anth v56.2.2.2.1 v56.2.2.1.toNat).bind fun v60 =>
                                if
                                    decide
                                        (v56.2.1.length +
                                            [UInt8.ofNat (IntKind.u8.wrap (shr IntKind.u32 v57 24)).toNat,
                                                UInt8.ofNat (IntKind.u8.wrap (shr IntKind.u32 v58 16)).toNat,
                                                UInt8.ofNat (IntKind.u8.wrap (shr IntKind.u32 v59 8)).toNat, UInt8.ofNat (IntKind.u8.wrap v60).toNat].length ≤
                                          9223372036854775807) =
                                      true then
                                  some
                                    (Sum.inl
                                      ((),
                                        v56.2.1 ++
                                          [UInt8.ofNat (IntKind.u8.wrap (shr IntKind.u32 v57 24)).toNat,
                                            UInt8.ofNat (IntKind.u8.wrap (shr IntKind.u32 v58 16)).toNat,
                                            UInt8.ofNat (IntKind.u8.wrap (shr IntKind.u32 v59 8)).toNat, UInt8.ofNat (IntKind.u8.wrap v60).toNat],
                                        IntKind.i64.wrap (v56.2.2.1 + 1), v56.2.2.2.1, ()))
                                else none
                            else none
                        else none
                    else none
                else none
              else some (Sum.inr (v56.2.1, ()))
noncomputable def M_conciergeref03_Sum (F : Nat) (x : (List UInt8)) : Option (List UInt8) :=
  (M_conciergeref03_Table F ()).bind fun v0 =>
    (M_conciergeref03_Padded F x).bind fun v1 =>
      (loopM (M_conciergeref03_Sum_l3 F)
            F ((), (), v1, 0, v0.1, v0.2, ())).bind
        fun v55 =>
        (loopM (M_conciergeref03_Sum_l4 F)
              F ((), [], 0, v55.2.1, ())).bind
          fun v61 => some v61.1
theorem gm_conciergeref03_Sum (x : (List UInt8)) (F : Nat) : G_conciergeref03_Sum F (M_conciergeref03_Table F) (M_conciergeref03_Padded F) (M_conciergeref03_right F) x = M_conciergeref03_Sum F x := by kernel_rfl
theorem t_conciergeref03_Sum (x : (List UInt8)) (F : Nat) : fnRun TT Tryz.prog (e_conciergeref03_Sum F) s_conciergeref03_Sum (bodyOf 81) F x = M_conciergeref03_Sum F x := (g_conciergeref03_Sum F (M_conciergeref03_Table F) (M_conciergeref03_Padded F) (M_conciergeref03_right F) x).trans (gm_conciergeref03_Sum x F)
theorem c_conciergeref03_Sum (F : Nat) : Ctr TT Tryz.prog 81 (conOf TT s_conciergeref03_Sum (M_conciergeref03_Sum F)) :=
  ctr_of (code := bodyOf 81) Tryz.func81 (by kernel_rfl) (by kernel_rfl) (by kernel_rfl) (by kernel_rfl) (envS_ok (envS_ok (envS_ok envN_ok (c_conciergeref03_Table F)) (c_conciergeref03_Padded F)) (c_conciergeref03_right F)) hm (by kernel_rfl) (fun x r h => ⟨F, (t_conciergeref03_Sum x F).trans h⟩)
theorem mo_conciergeref03_Sum_l0 {F F' : Nat} (h : F ≤ F') : ∀ v, Le (M_conciergeref03_Sum_l0 F v) (M_conciergeref03_Sum_l0 F' v) := by
  intro v
  unfold M_conciergeref03_Sum_l0
  with_reducible repeat (first | (intro v) | exact Le.refl _ | exact h | exact mo_conciergeref03_Table h _ | exact mo_conciergeref03_Padded h _ | exact mo_conciergeref03_right h _ | apply Le.bind | apply Le.ite | apply Le.loop | apply Le.sumC)
theorem mo_conciergeref03_Sum_l1 {F F' : Nat} (h : F ≤ F') : ∀ v, Le (M_conciergeref03_Sum_l1 F v) (M_conciergeref03_Sum_l1 F' v) := by
  intro v
  unfold M_conciergeref03_Sum_l1
  with_reducible repeat (first | (intro v) | exact Le.refl _ | exact h | exact mo_conciergeref03_Table h _ | exact mo_conciergeref03_Padded h _ | exact mo_conciergeref03_right h _ | exact mo_conciergeref03_Sum_l0 h | exact mo_conciergeref03_Sum_l0 h _ | apply Le.bind | apply Le.ite | apply Le.loop | apply Le.sumC)
theorem mo_conciergeref03_Sum_l2 {F F' : Nat} (h : F ≤ F') : ∀ v, Le (M_conciergeref03_Sum_l2 F v) (M_conciergeref03_Sum_l2 F' v) := by
  intro v
  unfold M_conciergeref03_Sum_l2
  with_reducible repeat (first | (intro v) | exact Le.refl _ | exact h | exact mo_conciergeref03_Table h _ | exact mo_conciergeref03_Padded h _ | exact mo_conciergeref03_right h _ | exact mo_conciergeref03_Sum_l0 h | exact mo_conciergeref03_Sum_l0 h _ | exact mo_conciergeref03_Sum_l1 h | exact mo_conciergeref03_Sum_l1 h _ | apply Le.bind | apply Le.ite | apply Le.loop | apply Le.sumC)
theorem mo_conciergeref03_Sum_l3 {F F' : Nat} (h : F ≤ F') : ∀ v, Le (M_conciergeref03_Sum_l3 F v) (M_conciergeref03_Sum_l3 F' v) := by
  intro v
  unfold M_conciergeref03_Sum_l3
  with_reducible repeat (first | (intro v) | exact Le.refl _ | exact h | exact mo_conciergeref03_Table h _ | exact mo_conciergeref03_Padded h _ | exact mo_conciergeref03_right h _ | exact mo_conciergeref03_Sum_l0 h | exact mo_conciergeref03_Sum_l0 h _ | exact mo_conciergeref03_Sum_l1 h | exact mo_conciergeref03_Sum_l1 h _ | exact mo_conciergeref03_Sum_l2 h | exact mo_conciergeref03_Sum_l2 h _ | apply Le.bind | apply Le.ite | apply Le.loop | apply Le.sumC)
theorem mo_conciergeref03_Sum_l4 {F F' : Nat} (h : F ≤ F') : ∀ v, Le (M_conciergeref03_Sum_l4 F v) (M_conciergeref03_Sum_l4 F' v) := by
  intro v
  unfold M_conciergeref03_Sum_l4
  with_reducible repeat (first | (intro v) | exact Le.refl _ | exact h | exact mo_conciergeref03_Table h _ | exact mo_conciergeref03_Padded h _ | exact mo_conciergeref03_right h _ | exact mo_conciergeref03_Sum_l0 h | exact mo_conciergeref03_Sum_l0 h _ | exact mo_conciergeref03_Sum_l1 h | exact mo_conciergeref03_Sum_l1 h _ | exact mo_conciergeref03_Sum_l2 h | exact mo_conciergeref03_Sum_l2 h _ | exact mo_conciergeref03_Sum_l3 h | exact mo_conciergeref03_Sum_l3 h _ | apply Le.bind | apply Le.ite | apply Le.loop | apply Le.sumC)
theorem mo_conciergeref03_Sum {F F' : Nat} (h : F ≤ F') : ∀ v, Le (M_conciergeref03_Sum F v) (M_conciergeref03_Sum F' v) := by
  intro v
  unfold M_conciergeref03_Sum
  with_reducible repeat (first | (intro v) | exact Le.refl _ | exact h | exact mo_conciergeref03_Table h _ | exact mo_conciergeref03_Padded h _ | exact mo_conciergeref03_right h _ | exact mo_conciergeref03_Sum_l0 h | exact mo_conciergeref03_Sum_l0 h _ | exact mo_conciergeref03_Sum_l1 h | exact mo_conciergeref03_Sum_l1 h _ | exact mo_conciergeref03_Sum_l2 h | exact mo_conciergeref03_Sum_l2 h _ | exact mo_conciergeref03_Sum_l3 h | exact mo_conciergeref03_Sum_l3 h _ | exact mo_conciergeref03_Sum_l4 h | exact mo_conciergeref03_Sum_l4 h _ | apply Le.bind | apply Le.ite | apply Le.loop | apply Le.sumC)

end Go.Vm
