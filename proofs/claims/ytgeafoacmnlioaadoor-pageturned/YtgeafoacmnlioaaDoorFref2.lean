/- Models of functions of the program, and that each keeps its contract: for all arguments of its shape. No condition. -/
import Derived.Test.YtgeafoacmnlioaaDoorKt
namespace Go.Vm
open Go.Proofs
set_option linter.unusedVariables false
noncomputable def s_conciergeref02_Of : Spec Kd := { params := [(.a .str)], ret := (.one (.a (.int .u32))), pins := [], pl := { nt := 35, bjoins := [(3, (.norm, ⟨[.tmp 0 (.a .str), .tmp 3 (.a (.int .u32)), .tmp 4 (.a (.int .i64)), .tmp 5 (.a (.int .i64))], [], []⟩), [])], loops := [(2, ⟨[.tmp 0 (.a .str), .tmp 3 (.a (.int .u32)), .tmp 4 (.a (.int .i64)), .tmp 5 (.a (.int .i64))], [], []⟩, (.exit 2, ⟨[.tmp 0 (.a .str), .tmp 3 (.a (.int .u32)), .tmp 4 (.a (.int .i64))], [], []⟩), []), (0, ⟨[.tmp 0 (.a .str), .tmp 3 (.a (.int .u32)), .tmp 4 (.a (.int .i64))], [], []⟩, (.exit 0, ⟨[.tmp 3 (.a (.int .u32))], [], []⟩), [])], cuts := [(8, [(11, ⟨[.tmp 0 (.a .str), .tmp 3 (.a (.int .u32)), .tmp 4 (.a (.int .i64)), .tmp 5 (.a (.int .i64)), .tmp 6 (.a (.int .u32))], [], []⟩)])] }, rfrz := [], ts := [2] }
noncomputable def e_conciergeref02_Of (F : Nat) : Env El := envN
noncomputable def M_conciergeref02_Of_l0 (F : Nat) (v1 : (List UInt8 × Int × Int × Int × Unit)) : Option ((List UInt8 × Int × Int × Int × Unit) ⊕ (List UInt8 × Int × Int × Unit)) :=
  if decide (v1.2.2.2.1 < 8) = true then
                    (((idx v1.1 v1.2.2.1).bind fun v2 =>
                              if decide (0 ≤ v1.2.2.2.1) = true then
                                some
                                  (v1.1, v1.2.1, v1.2.2.1, v1.2.2.2.1,
                                    ixor IntKind.u32 ((shr IntKind.u32 (IntKind.u32.wrap (↑v2.toNat : Int)) v1.2.2.2.1).tmod 2) (v1.2.1.tmod 2), ())
                              else none).bind
                          fun v3 =>
                          if decide (v3.2.2.2.2.1 = 1) = true then
                            some (v3.1, ixor IntKind.u32 (IntKind.u32.wrap (v3.2.1.tdiv 2)) 3988292384, v3.2.2.1, v3.2.2.2.1, ())
                          else some (v3.1, IntKind.u32.wrap (v3.2.1.tdiv 2), v3.2.2.1, v3.2.2.2.1, ())).bind
                      fun v4 => some (Sum.inl (v4.1, v4.2.1, v4.2.2.1, IntKind.i64.wrap (v4.2.2.2.1 + 1), ()))
                  else some (Sum.inr (v1.1, v1.2.1, v1.2.2.1, ()))
noncomputable def M_conciergeref02_Of_l1 (F : Nat) (v0 : (List UInt8 × Int × Int × Unit)) : Option ((List UInt8 × Int × Int × Unit) ⊕ (Int × Unit)) :=
  if decide (v0.2.2.1 < (↑v0.1.length : Int)) = true then
          (loopM (M_conciergeref02_Of_l0 F)
                F (v0.1, v0.2.1, v0.2.2.1, 0, ())).bind
            fun v5 => some (Sum.inl (v5.1, v5.2.1, IntKind.i64.wrap (v5.2.2.1 + 1), ()))
        else some (Sum.inr (v0.2.1, ()))
noncomputable def M_conciergeref02_Of (F : Nat) (x : (List UInt8)) : Option (Int) :=
  (loopM (M_conciergeref02_Of_l1 F)
        F (x, 4294967295, 0, ())).bind
    fun v6 => some (IntKind.u32.wrap (4294967295 - v6.1))
theorem t_conciergeref02_Of (x : (List UInt8)) (F : Nat) : fnRun TT Tryd.prog (e_conciergeref02_Of F) s_conciergeref02_Of (bodyOf 68) F x = M_conciergeref02_Of F x := by kernel_rfl
theorem c_conciergeref02_Of (F : Nat) : Ctr TT Tryd.prog 68 (conOf TT s_conciergeref02_Of (M_conciergeref02_Of F)) :=
  ctr_of (code := bodyOf 68) Tryd.func68 (by kernel_rfl) (by kernel_rfl) (by kernel_rfl) (by kernel_rfl) envN_ok hm (by kernel_rfl) (fun x r h => ⟨F, (t_conciergeref02_Of x F).trans h⟩)
theorem mo_conciergeref02_Of_l0 {F F' : Nat} (h : F ≤ F') : ∀ v, Le (M_conciergeref02_Of_l0 F v) (M_conciergeref02_Of_l0 F' v) := by
  intro v
  unfold M_conciergeref02_Of_l0
  with_reducible repeat (first | (intro v) | exact Le.refl _ | exact h | apply Le.bind | apply Le.ite | apply Le.loop | apply Le.sumC)
theorem mo_conciergeref02_Of_l1 {F F' : Nat} (h : F ≤ F') : ∀ v, Le (M_conciergeref02_Of_l1 F v) (M_conciergeref02_Of_l1 F' v) := by
  intro v
  unfold M_conciergeref02_Of_l1
  with_reducible repeat (first | (intro v) | exact Le.refl _ | exact h | exact mo_conciergeref02_Of_l0 h | exact mo_conciergeref02_Of_l0 h _ | apply Le.bind | apply Le.ite | apply Le.loop | apply Le.sumC)
theorem mo_conciergeref02_Of {F F' : Nat} (h : F ≤ F') : ∀ v, Le (M_conciergeref02_Of F v) (M_conciergeref02_Of F' v) := by
  intro v
  unfold M_conciergeref02_Of
  with_reducible repeat (first | (intro v) | exact Le.refl _ | exact h | exact mo_conciergeref02_Of_l0 h | exact mo_conciergeref02_Of_l0 h _ | exact mo_conciergeref02_Of_l1 h | exact mo_conciergeref02_Of_l1 h _ | apply Le.bind | apply Le.ite | apply Le.loop | apply Le.sumC)
noncomputable def s_conciergeref02_Seal : Spec Kd := { params := [(.a .str)], ret := (.one (.a .str)), pins := [], pl := { nt := 21, cuts := [(2, [(16, ⟨[.tmp 2 (.a .str)], [], []⟩)])] }, rfrz := [], ts := [2] }
noncomputable def e_conciergeref02_Seal (F : Nat) : Env El := (envS 68 (conOf TT s_conciergeref02_Of (M_conciergeref02_Of F)) envN)
noncomputable def M_conciergeref02_Seal (F : Nat) (x : (List UInt8)) : Option (List UInt8) :=
  (M_conciergeref02_Of F x).bind fun v0 =>
    (if
            decide
                (x.length +
                    [UInt8.ofNat (IntKind.u8.wrap (IntKind.u32.wrap (v0.tdiv 16777216))).toNat,
                        UInt8.ofNat (IntKind.u8.wrap (IntKind.u32.wrap (v0.tdiv 65536))).toNat,
                        UInt8.ofNat (IntKind.u8.wrap (IntKind.u32.wrap (v0.tdiv 256))).toNat, UInt8.ofNat (IntKind.u8.wrap v0).toNat].length ≤
                  9223372036854775807) =
              true then
          some
            (x ++
                [UInt8.ofNat (IntKind.u8.wrap (IntKind.u32.wrap (v0.tdiv 16777216))).toNat,
                  UInt8.ofNat (IntKind.u8.wrap (IntKind.u32.wrap (v0.tdiv 65536))).toNat, UInt8.ofNat (IntKind.u8.wrap (IntKind.u32.wrap (v0.tdiv 256))).toNat,
                  UInt8.ofNat (IntKind.u8.wrap v0).toNat],
              ())
        else none).bind
      fun v1 => some v1.1
theorem t_conciergeref02_Seal (x : (List UInt8)) (F : Nat) : fnRun TT Tryd.prog (e_conciergeref02_Seal F) s_conciergeref02_Seal (bodyOf 34) F x = M_conciergeref02_Seal F x := by kernel_rfl
theorem c_conciergeref02_Seal (F : Nat) : Ctr TT Tryd.prog 34 (conOf TT s_conciergeref02_Seal (M_conciergeref02_Seal F)) :=
  ctr_of (code := bodyOf 34) Tryd.func34 (by kernel_rfl) (by kernel_rfl) (by kernel_rfl) (by kernel_rfl) (envS_ok envN_ok (c_conciergeref02_Of F)) hm (by kernel_rfl) (fun x r h => ⟨F, (t_conciergeref02_Seal x F).trans h⟩)
theorem mo_conciergeref02_Seal {F F' : Nat} (h : F ≤ F') : ∀ v, Le (M_conciergeref02_Seal F v) (M_conciergeref02_Seal F' v) := by
  intro v
  unfold M_conciergeref02_Seal
  with_reducible repeat (first | (intro v) | exact Le.refl _ | exact h | exact mo_conciergeref02_Of h _ | apply Le.bind | apply Le.ite | apply Le.loop | apply Le.sumC)
end Go.Vm
