/- Models of functions of the program, and that each keeps its contract: for all arguments of its shape. No condition. -/
import Derived.Test.YtmbnnjpdpginlaaGreatDoorKt
namespace Go.Vm
open Go.Proofs
set_option linter.unusedVariables false
noncomputable def s_conciergeref02_Of : Spec Kd := { params := [(.a .str)], ret := (.one (.a (.int .u32))), pins := [], pl := { nt := 35, bjoins := [(3, (.norm, ⟨[.tmp 0 (.a .str), .tmp 3 (.a (.int .u32)), .tmp 4 (.a (.int .i64)), .tmp 5 (.a (.int .i64))], [], []⟩), [])], loops := [(2, ⟨[.tmp 0 (.a .str), .tmp 3 (.a (.int .u32)), .tmp 4 (.a (.int .i64)), .tmp 5 (.a (.int .i64))], [], []⟩, (.exit 2, ⟨[.tmp 0 (.a .str), .tmp 3 (.a (.int .u32)), .tmp 4 (.a (.int .i64))], [], []⟩), []), (0, ⟨[.tmp 0 (.a .str), .tmp 3 (.a (.int .u32)), .tmp 4 (.a (.int .i64))], [], []⟩, (.exit 0, ⟨[.tmp 3 (.a (.int .u32))], [], []⟩), [])], cuts := [(8, [(11, ⟨[.tmp 0 (.a .str), .tmp 3 (.a (.int .u32)), .tmp 4 (.a (.int .i64)), .tmp 5 (.a (.int .i64)), .tmp 6 (.a (.int .u32))], [], []⟩)])] }, rfrz := [], ts := [2] }
noncomputable def e_conciergeref02_Of (F : Nat) : Env El := envN
/-- concierge/conciergeref02.Of -/
noncomputable def M_conciergeref02_Of_l0 (F : Nat) (v1 : (List UInt8 × Int × Int × Int × Unit)) : Option ((List UInt8 × Int × Int × Int × Unit) ⊕ (List UInt8 × Int × Int × Unit)) :=
  if decide (v1.2.2.2.1 < 8) = true then
                    (((idx v1.1 v1.2.2.1).bind fun v2 =>
                              if decide (0 ≤ v1.2.2.2.1) = true then
                                some
                                  (v1.1, v1.2.1, v1.2.2.1, v1.2.2.2.1,
                                    ixor IntKind.u32 ((shr IntKind.u32 (IntKind.u32.wrap (↑v2.toNat : Int)) v1.2.2.2.1).tmod 2) (v1.2.1.tmod 2), ())
                              else none).bind
                          fun v3 =>
                          if decide (v3.2.2.2.2.1 = 1) = true then
                            some (v3.1, ixor IntKind.u32 (IntKind.u32.wrap (v3.2.1.tdiv 2)) 3988292384, v3.2.2.1, v3.2.2.2.1, ())
                          else some (v3.1, IntKind.u32.wrap (v3.2.1.tdiv 2), v3.2.2.1, v3.2.2.2.1, ())).bind
                      fun v4 => some (Sum.inl (v4.1, v4.2.1, v4.2.2.1, IntKind.i64.wrap (v4.2.2.2.1 + 1), ()))
                  else some (Sum.inr (v1.1, v1.2.1, v1.2.2.1, ()))
noncomputable def M_conciergeref02_Of_l1 (F : Nat) (v0 : (List UInt8 × Int × Int × Unit)) : Option ((List UInt8 × Int × Int × Unit) ⊕ (Int × Unit)) :=
  if decide (v0.2.2.1 < (↑v0.1.length : Int)) = true then
          (loopM (M_conciergeref02_Of_l0 F)
                F (v0.1, v0.2.1, v0.2.2.1, 0, ())).bind
            fun v5 => some (Sum.inl (v5.1, v5.2.1, IntKind.i64.wrap (v5.2.2.1 + 1), ()))
        else some (Sum.inr (v0.2.1, ()))
noncomputable def M_conciergeref02_Of (F : Nat) (x : (List UInt8)) : Option (Int) :=
  (loopM (M_conciergeref02_Of_l1 F)
        F (x, 4294967295, 0, ())).bind
    fun v6 => some (IntKind.u32.wrap (4294967295 - v6.1))
theorem t_conciergeref02_Of (x : (List UInt8)) (F : Nat) : fnRun TT Tryz.prog (e_conciergeref02_Of F) s_conciergeref02_Of (bodyOf 97) F x = M_conciergeref02_Of F x := by kernel_rfl
theorem c_conciergeref02_Of (F : Nat) : Ctr TT Tryz.prog 97 (conOf TT s_conciergeref02_Of (M_conciergeref02_Of F)) :=
  ctr_of (code := bodyOf 97) Tryz.func97 (by kernel_rfl) (by kernel_rfl) (by kernel_rfl) (by kernel_rfl) envN_ok hm (by kernel_rfl) (fun x r h => ⟨F, (t_conciergeref02_Of x F).trans h⟩)
theorem mo_conciergeref02_Of_l0 {F F' : Nat} (h : F ≤ F') : ∀ v, Le (M_conciergeref02_Of_l0 F v) (M_conciergeref02_Of_l0 F' v) := by
  intro v
  unfold M_conciergeref02_Of_l0
  with_reducible repeat (first | (intro v) | exact Le.refl _ | exact h | apply Le.bind | apply Le.ite | apply Le.loop | apply Le.sumC)
theorem mo_conciergeref02_Of_l1 {F F' : Nat} (h : F ≤ F') : ∀ v, Le (M_conciergeref02_Of_l1 F v) (M_conciergeref02_Of_l1 F' v) := by
  intro v
  unfold M_conciergeref02_Of_l1
  with_reducible repeat (first | (intro v) | exact Le.refl _ | exact h | exact mo_conciergeref02_Of_l0 h | exact mo_conciergeref02_Of_l0 h _ | apply Le.bind | apply Le.ite | apply Le.loop | apply Le.sumC)
theorem mo_conciergeref02_Of {F F' : Nat} (h : F ≤ F') : ∀ v, Le (M_conciergeref02_Of F v) (M_conciergeref02_Of F' v) := by
  intro v
  unfold M_conciergeref02_Of
  with_reducible repeat (first | (intro v) | exact Le.refl _ | exact h | exact mo_conciergeref02_Of_l0 h | exact mo_conciergeref02_Of_l0 h _ | exact mo_conciergeref02_Of_l1 h | exact mo_conciergeref02_Of_l1 h _ | apply Le.bind | apply Le.ite | apply Le.loop | apply Le.sumC)

end Go.Vm
