/- Models of functions of the program, and that each keeps its contract: for all arguments of its shape. No condition. -/
import Derived.Test.YtmbnnjpdpginlaaGreatDoorKt
namespace Go.Vm
open Go.Proofs
set_option linter.unusedVariables false
noncomputable def s_conciergelaw19_Small : Spec Kd := { params := [(.a (.slc .en)), (.a (.int .i64))], ret := (.one (.a .bool)), pins := [], pl := { nt := 52, loops := [(0, ⟨[.tmp 11 (.a (.slc .en)), .tmp 12 (.a (.int .i64)), .tmp 13 (.a (.int .i64))], [], []⟩, (.exit 0, ⟨[], [], []⟩), [(.ret, ⟨[.tmp 4 (.a .bool)], [], []⟩)])], cuts := [(6, [(10, ⟨[.tmp 6 (.a (.ptr 384 0)), .tmp 11 (.a (.slc .en)), .tmp 12 (.a (.int .i64)), .tmp 13 (.a (.int .i64)), .tmp 26 (.a .bool), .box 384 (.cells 40 [(.int .i64), .str, (.int .i64), (.int .i64), (.int .i64), (.int .i64), .str, (.int .i64), (.int .i64), (.int .i64), .str, .str, .str, .str])], [], []⟩), (6, ⟨[.tmp 6 (.a (.ptr 384 0)), .tmp 11 (.a (.slc .en)), .tmp 12 (.a (.int .i64)), .tmp 13 (.a (.int .i64)), .tmp 32 (.a .bool), .box 384 (.cells 40 [(.int .i64), .str, (.int .i64), (.int .i64), (.int .i64), (.int .i64), .str, (.int .i64), (.int .i64), (.int .i64), .str, .str, .str, .str])], [], []⟩), (6, ⟨[.tmp 6 (.a (.ptr 384 0)), .tmp 11 (.a (.slc .en)), .tmp 12 (.a (.int .i64)), .tmp 13 (.a (.int .i64)), .tmp 38 (.a .bool), .box 384 (.cells 40 [(.int .i64), .str, (.int .i64), (.int .i64), (.int .i64), (.int .i64), .str, (.int .i64), (.int .i64), (.int .i64), .str, .str, .str, .str])], [], []⟩), (6, ⟨[.tmp 6 (.a (.ptr 384 0)), .tmp 11 (.a (.slc .en)), .tmp 12 (.a (.int .i64)), .tmp 13 (.a (.int .i64)), .tmp 44 (.a .bool), .box 384 (.cells 40 [(.int .i64), .str, (.int .i64), (.int .i64), (.int .i64), (.int .i64), .str, (.int .i64), (.int .i64), (.int .i64), .str, .str, .str, .str])], [], []⟩), (6, ⟨[.tmp 11 (.a (.slc .en)), .tmp 12 (.a (.int .i64)), .tmp 13 (.a (.int .i64)), .tmp 50 (.a .bool)], [], []⟩)])] }, rfrz := [], ts := [4] }
noncomputable def e_conciergelaw19_Small (F : Nat) : Env El := envN
/-- concierge/conciergelaw19.Small -/
noncomputable def M_conciergelaw19_Small_l0 (F : Nat) (v0 : (List (Int × List UInt8 × Int × Int × Int × Int × List UInt8 × Int × Int × Int × List UInt8 × List UInt8 × List UInt8 × List UInt8 × Unit) ×
          Int × Int × Unit)) : Option ((List (Int × List UInt8 × Int × Int × Int × Int × List UInt8 × Int × Int × Int × List UInt8 × List UInt8 × List UInt8 × List UInt8 × Unit) ×
          Int × Int × Unit) ⊕ (Unit ⊕ Bool × Unit)) :=
  if decide (v0.2.2.1 < v0.2.1) = true then
            (idx v0.1 v0.2.2.1).bind
              fun (v1 : Int × List UInt8 × Int × Int × Int × Int × List UInt8 × Int × Int × Int × List UInt8 × List UInt8 × List UInt8 × List UInt8 × PUnit) =>
              (if decide (100 < (↑v1.2.1.length : Int)) = false then some ((), v0.1, v0.2.1, v0.2.2.1, decide (100 < (↑v1.2.2.2.2.2.2.1.length : Int)), v1, ())
                  else some ((), v0.1, v0.2.1, v0.2.2.1, true, v1, ())).bind
                fun
                  (v2 :
                    PUnit ×
                      List
                          (Int ×
                            List UInt8 × Int × Int × Int × Int × List UInt8 × Int × Int × Int × List UInt8 × List UInt8 × List UInt8 × List UInt8 × PUnit) ×
                        Int ×
                          Int ×
                            Bool ×
                              (Int ×
                                  List UInt8 ×
                                    Int × Int × Int × Int × List UInt8 × Int × Int × Int × List UInt8 × List UInt8 × List UInt8 × List UInt8 × PUnit) ×
                                PUnit) =>
                (if v2.2.2.2.2.1 = false then
                      some ((), v2.2.1, v2.2.2.1, v2.2.2.2.1, decide (100 < (↑v2.2.2.2.2.2.1.2.2.2.2.2.2.2.2.2.2.1.length : Int)), v2.2.2.2.2.2.1, ())
                    else some ((), v2.2.1, v2.2.2.1, v2.2.2.2.1, true, v2.2.2.2.2.2.1, ())).bind
                  fun
                    (v3 :
                      PUnit ×
                        List
                            (Int ×
                              List UInt8 × Int × Int × Int × Int × List UInt8 × Int × Int × Int × List UInt8 × List UInt8 × List UInt8 × List UInt8 × PUnit) ×
                          Int ×
                            Int ×
                              Bool ×
                                (Int ×
                                    List UInt8 ×
                                      Int × Int × Int × Int × List UInt8 × Int × Int × Int × List UInt8 × List UInt8 × List UInt8 × List UInt8 × PUnit) ×
                                  PUnit) =>
                  (if v3.2.2.2.2.1 = false then
                        some ((), v3.2.1, v3.2.2.1, v3.2.2.2.1, decide (100 < (↑v3.2.2.2.2.2.1.2.2.2.2.2.2.2.2.2.2.2.1.length : Int)), v3.2.2.2.2.2.1, ())
                      else some ((), v3.2.1, v3.2.2.1, v3.2.2.2.1, true, v3.2.2.2.2.2.1, ())).bind
                    fun
                      (v4 :
                        PUnit ×
                          List
                              (Int ×
                                List UInt8 × Int × Int × Int × Int × List UInt8 × Int × Int × Int × List UInt8 × List UInt8 × List UInt8 × List UInt8 × PUnit) ×
                            Int ×
                              Int ×
                                Bool ×
                                  (Int ×
                                      List UInt8 ×
                                        Int × Int × Int × Int × List UInt8 × Int × Int × Int × List UInt8 × List UInt8 × List UInt8 × List UInt8 × PUnit) ×
                                    PUnit) =>
                    (if v4.2.2.2.2.1 = false then
                          some ((), v4.2.1, v4.2.2.1, v4.2.2.2.1, decide (100 < (↑v4.2.2.2.2.2.1.2.2.2.2.2.2.2.2.2.2.2.2.1.length : Int)), v4.2.2.2.2.2.1, ())
                        else some ((), v4.2.1, v4.2.2.1, v4.2.2.2.1, true, v4.2.2.2.2.2.1, ())).bind
                      fun
                        (v5 :
                          PUnit ×
                            List
                                (Int ×
                                  List UInt8 ×
                                    Int × Int × Int × Int × List UInt8 × Int × Int × Int × List UInt8 × List UInt8 × List UInt8 × List UInt8 × PUnit) ×
                              Int ×
                                Int ×
                                  Bool ×
                                    (Int ×
                                        List UInt8 ×
                                          Int × Int × Int × Int × List UInt8 × Int × Int × Int × List UInt8 × List UInt8 × List UInt8 × List UInt8 × PUnit) ×
                                      PUnit) =>
                      (if v5.2.2.2.2.1 = false then
                            some (v5.2.1, v5.2.2.1, v5.2.2.2.1, decide (100 < (↑v5.2.2.2.2.2.1.2.2.2.2.2.2.2.2.2.2.2.2.2.1.length : Int)), ())
                          else some (v5.2.1, v5.2.2.1, v5.2.2.2.1, true, ())).bind
                        fun
                          (v6 :
                            List
                                (Int ×
                                  List UInt8 ×
                                    Int × Int × Int × Int × List UInt8 × Int × Int × Int × List UInt8 × List UInt8 × List UInt8 × List UInt8 × PUnit) ×
                              Int × Int × Bool × PUnit) =>
                        if v6.2.2.2.1 = true then some (Sum.inr (Sum.inr (false, ()))) else some (Sum.inl (v6.1, v6.2.1, IntKind.i64.wrap (v6.2.2.1 + 1), ()))
          else some (Sum.inr (Sum.inl ()))
noncomputable def M_conciergelaw19_Small (F : Nat) (x : (List (El .en)) × (Int)) : Option (Bool) :=
  if decide (x.2 < (↑x.1.length : Int)) = true then some false
  else
    (loopM (M_conciergelaw19_Small_l0 F)
          F (x.1, (↑x.1.length : Int), 0, ())).bind
      fun (v7 : Unit ⊕ Bool × Unit) => sumC v7 (fun (v8 : Unit) => some true) fun (v9 : Bool × Unit) => some v9.1
theorem t_conciergelaw19_Small (x : (List (El .en)) × (Int)) (F : Nat) : fnRun TT Tryz.prog (e_conciergelaw19_Small F) s_conciergelaw19_Small (bodyOf 7) F x = M_conciergelaw19_Small F x := by kernel_rfl
theorem c_conciergelaw19_Small (F : Nat) : Ctr TT Tryz.prog 7 (conOf TT s_conciergelaw19_Small (M_conciergelaw19_Small F)) :=
  ctr_of (code := bodyOf 7) Tryz.func7 (by kernel_rfl) (by kernel_rfl) (by kernel_rfl) (by kernel_rfl) envN_ok hm (by kernel_rfl) (fun x r h => ⟨F, (t_conciergelaw19_Small x F).trans h⟩)
theorem mo_conciergelaw19_Small_l0 {F F' : Nat} (h : F ≤ F') : ∀ v, Le (M_conciergelaw19_Small_l0 F v) (M_conciergelaw19_Small_l0 F' v) := by
  intro v
  unfold M_conciergelaw19_Small_l0
  with_reducible repeat (first | (intro v) | exact Le.refl _ | exact h | apply Le.bind | apply Le.ite | apply Le.loop | apply Le.sumC)
theorem mo_conciergelaw19_Small {F F' : Nat} (h : F ≤ F') : ∀ v, Le (M_conciergelaw19_Small F v) (M_conciergelaw19_Small F' v) := by
  intro v
  unfold M_conciergelaw19_Small
  with_reducible repeat (first | (intro v) | exact Le.refl _ | exact h | exact mo_conciergelaw19_Small_l0 h | exact mo_conciergelaw19_Small_l0 h _ | apply Le.bind | apply Le.ite | apply Le.loop | apply Le.sumC)

end Go.Vm
