/- Models of functions of the program, and that each keeps its contract: for all arguments of its shape. No condition. -/
import Derived.Test.YtmbnnjpdpginlaaDoorKt
import Derived.Test.YtmbnnjpdpginlaaDoorFref10
import Derived.Test.YtmbnnjpdpginlaaDoorFref14
import Derived.Test.YtmbnnjpdpginlaaDoorFref15
namespace Go.Vm
open Go.Proofs
set_option linter.unusedVariables false
noncomputable def s_conciergeref19_May : Spec Kd := { params := [(.a (.slc .en)), (.a (.int .i64))], ret := (.one (.a .bool)), pins := [], pl := { nt := 66, loops := [(0, ⟨[.tmp 0 (.a (.slc .en)), .tmp 1 (.a (.int .i64)), .tmp 5 (.a (.int .i64))], [], []⟩, (.exit 0, ⟨[], [], []⟩), [(.ret, ⟨[.tmp 4 (.a .bool)], [], []⟩)])], cuts := [(6, [(15, ⟨[.tmp 0 (.a (.slc .en)), .tmp 1 (.a (.int .i64)), .tmp 5 (.a (.int .i64)), .tmp 37 (.a .bool)], [], []⟩)]), (1, [(6, ⟨[.tmp 0 (.a (.slc .en)), .tmp 1 (.a (.int .i64)), .tmp 11 (.a .bool)], [], []⟩), (5, ⟨[.tmp 0 (.a (.slc .en)), .tmp 1 (.a (.int .i64)), .tmp 16 (.a .bool)], [], []⟩)])], ends := [(8, ⟨[.tmp 0 (.a (.slc .en)), .tmp 1 (.a (.int .i64)), .tmp 5 (.a (.int .i64)), .tmp 65 (.a .bool)], [], []⟩)] }, rfrz := [], ts := [4] }
noncomputable def e_conciergeref19_May (F : Nat) : Env El := (envS 60 (conOf TT s_conciergeref15_Ahead (M_conciergeref15_Ahead F)) (envS 13 (conOf TT s_conciergeref14_May (M_conciergeref14_May F)) envN))
/-- concierge/conciergeref19.May -/
noncomputable def M_conciergeref19_May_l0 (F : Nat) (v2 : (List (Int × List UInt8 × Int × Int × Int × Int × List UInt8 × Int × Int × Int × List UInt8 × List UInt8 × List UInt8 × List UInt8 × Unit) ×
              Int × Int × Unit)) : Option ((List (Int × List UInt8 × Int × Int × Int × Int × List UInt8 × Int × Int × Int × List UInt8 × List UInt8 × List UInt8 × List UInt8 × Unit) ×
              Int × Int × Unit) ⊕ (Unit ⊕ Bool × Unit)) :=
  if decide (v2.2.2.1 < (↑v2.1.length : Int)) = true then
                ((idx v2.1 v2.2.2.1).bind
                      fun
                        (v3 :
                          Int ×
                            List UInt8 × Int × Int × Int × Int × List UInt8 × Int × Int × Int × List UInt8 × List UInt8 × List UInt8 × List UInt8 × PUnit) =>
                      (M_conciergeref14_May F v3).bind fun (v4 : Bool) =>
                        if (!v4) = false then
                          (idx v2.1 v2.2.2.1).bind
                            fun
                              (v5 :
                                Int ×
                                  List UInt8 ×
                                    Int × Int × Int × Int × List UInt8 × Int × Int × Int × List UInt8 × List UInt8 × List UInt8 × List UInt8 × PUnit) =>
                            some (v2.1, v2.2.1, v2.2.2.1, decide (v2.2.1 < v5.2.2.2.1), ())
                        else some (v2.1, v2.2.1, v2.2.2.1, true, ())).bind
                  fun
                    (v6 :
                      List
                          (Int ×
                            List UInt8 × Int × Int × Int × Int × List UInt8 × Int × Int × Int × List UInt8 × List UInt8 × List UInt8 × List UInt8 × PUnit) ×
                        Int × Int × Bool × PUnit) =>
                  if v6.2.2.2.1 = true then some (Sum.inr (Sum.inr (false, ())))
                  else
                    (if decide (0 < v6.2.2.1) = true then
                          (idx v6.1 (IntKind.i64.wrap (v6.2.2.1 - 1))).bind
                            fun
                              (v7 :
                                Int ×
                                  List UInt8 ×
                                    Int × Int × Int × Int × List UInt8 × Int × Int × Int × List UInt8 × List UInt8 × List UInt8 × List UInt8 × PUnit) =>
                            (idx v6.1 (IntKind.i64.wrap (v6.2.2.1 - 1))).bind
                              fun
                                (v8 :
                                  Int ×
                                    List UInt8 ×
                                      Int × Int × Int × Int × List UInt8 × Int × Int × Int × List UInt8 × List UInt8 × List UInt8 × List UInt8 × PUnit) =>
                              (idx v6.1 v6.2.2.1).bind
                                fun
                                  (v9 :
                                    Int ×
                                      List UInt8 ×
                                        Int × Int × Int × Int × List UInt8 × Int × Int × Int × List UInt8 × List UInt8 × List UInt8 × List UInt8 × PUnit) =>
                                (idx v6.1 v6.2.2.1).bind
                                  fun
                                    (v10 :
                                      Int ×
                                        List UInt8 ×
                                          Int × Int × Int × Int × List UInt8 × Int × Int × Int × List UInt8 × List UInt8 × List UInt8 × List UInt8 × PUnit) =>
                                  (M_conciergeref15_Ahead F (v7.1, v8.2.1, v9.1, v10.2.1)).bind fun (v11 : Bool) => some (v6.1, v6.2.1, v6.2.2.1, !v11, ())
                        else some (v6.1, v6.2.1, v6.2.2.1, false, ())).bind
                      fun
                        (v12 :
                          List
                              (Int ×
                                List UInt8 × Int × Int × Int × Int × List UInt8 × Int × Int × Int × List UInt8 × List UInt8 × List UInt8 × List UInt8 × PUnit) ×
                            Int × Int × Bool × PUnit) =>
                      if v12.2.2.2.1 = true then some (Sum.inr (Sum.inr (false, ()))) else some (Sum.inl (v12.1, v12.2.1, IntKind.i64.wrap (v12.2.2.1 + 1), ()))
              else some (Sum.inr (Sum.inl ()))
noncomputable def M_conciergeref19_May (F : Nat) (x : (List (El .en)) × (Int)) : Option (Bool) :=
  (if decide (x.2 < 0) = false then some (x.1, x.2, decide (1073741824 < x.2), ()) else some (x.1, x.2, true, ())).bind
    fun
      (v0 :
        List (Int × List UInt8 × Int × Int × Int × Int × List UInt8 × Int × Int × Int × List UInt8 × List UInt8 × List UInt8 × List UInt8 × Unit) ×
          Int × Bool × Unit) =>
    (if v0.2.2.1 = false then some (v0.1, v0.2.1, decide (200 < (↑v0.1.length : Int)), ()) else some (v0.1, v0.2.1, true, ())).bind
      fun
        (v1 :
          List (Int × List UInt8 × Int × Int × Int × Int × List UInt8 × Int × Int × Int × List UInt8 × List UInt8 × List UInt8 × List UInt8 × Unit) ×
            Int × Bool × Unit) =>
      if v1.2.2.1 = true then some false
      else
        (loopM (M_conciergeref19_May_l0 F)
              F (v1.1, v1.2.1, 0, ())).bind
          fun (v13 : Unit ⊕ Bool × Unit) => sumC v13 (fun (v14 : Unit) => some true) fun (v15 : Bool × Unit) => some v15.1
theorem t_conciergeref19_May (x : (List (El .en)) × (Int)) (F : Nat) : fnRun TT Tryd.prog (e_conciergeref19_May F) s_conciergeref19_May (bodyOf 27) F x = M_conciergeref19_May F x := by kernel_rfl
theorem c_conciergeref19_May (F : Nat) : Ctr TT Tryd.prog 27 (conOf TT s_conciergeref19_May (M_conciergeref19_May F)) :=
  ctr_of (code := bodyOf 27) Tryd.func27 (by kernel_rfl) (by kernel_rfl) (by kernel_rfl) (by kernel_rfl) (envS_ok (envS_ok envN_ok (c_conciergeref14_May F)) (c_conciergeref15_Ahead F)) hm (by kernel_rfl) (fun x r h => ⟨F, (t_conciergeref19_May x F).trans h⟩)
theorem mo_conciergeref19_May_l0 {F F' : Nat} (h : F ≤ F') : ∀ v, Le (M_conciergeref19_May_l0 F v) (M_conciergeref19_May_l0 F' v) := by
  intro v
  unfold M_conciergeref19_May_l0
  with_reducible repeat (first | (intro v) | exact Le.refl _ | exact h | exact mo_conciergeref14_May h _ | exact mo_conciergeref15_Ahead h _ | apply Le.bind | apply Le.ite | apply Le.loop | apply Le.sumC)
theorem mo_conciergeref19_May {F F' : Nat} (h : F ≤ F') : ∀ v, Le (M_conciergeref19_May F v) (M_conciergeref19_May F' v) := by
  intro v
  unfold M_conciergeref19_May
  with_reducible repeat (first | (intro v) | exact Le.refl _ | exact h | exact mo_conciergeref14_May h _ | exact mo_conciergeref15_Ahead h _ | exact mo_conciergeref19_May_l0 h | exact mo_conciergeref19_May_l0 h _ | apply Le.bind | apply Le.ite | apply Le.loop | apply Le.sumC)
noncomputable def s_conciergeref19_Need : Spec Kd := { params := [(.a (.int .i64))], ret := (.one (.a (.int .i64))), pins := [], pl := { nt := 10, joins := [(500006, (.norm, ⟨[.tmp 0 (.a (.int .i64))], [], []⟩), []), (300004, (.norm, ⟨[.tmp 0 (.a (.int .i64))], [], []⟩), [])] }, rfrz := [], ts := [2] }
noncomputable def e_conciergeref19_Need (F : Nat) : Env El := envN
/-- concierge/conciergeref19.Need -/
noncomputable def M_conciergeref19_Need (F : Nat) (x : (Int)) : Option (Int) :=
  (if decide (x < 0) = true then some (0, ()) else some (x, ())).bind fun (v0 : Int × Unit) =>
    (if decide (200 < v0.1) = true then some (200, ()) else some (v0.1, ())).bind fun (v1 : Int × Unit) =>
      some (IntKind.i64.wrap (20 + IntKind.i64.wrap (v1.1 * 243)))
theorem t_conciergeref19_Need (x : (Int)) (F : Nat) : fnRun TT Tryd.prog (e_conciergeref19_Need F) s_conciergeref19_Need (bodyOf 30) F x = M_conciergeref19_Need F x := by kernel_rfl
theorem c_conciergeref19_Need (F : Nat) : Ctr TT Tryd.prog 30 (conOf TT s_conciergeref19_Need (M_conciergeref19_Need F)) :=
  ctr_of (code := bodyOf 30) Tryd.func30 (by kernel_rfl) (by kernel_rfl) (by kernel_rfl) (by kernel_rfl) envN_ok hm (by kernel_rfl) (fun x r h => ⟨F, (t_conciergeref19_Need x F).trans h⟩)
theorem mo_conciergeref19_Need {F F' : Nat} (h : F ≤ F') : ∀ v, Le (M_conciergeref19_Need F v) (M_conciergeref19_Need F' v) := by
  intro v
  unfold M_conciergeref19_Need
  with_reducible repeat (first | (intro v) | exact Le.refl _ | exact h | apply Le.bind | apply Le.ite | apply Le.loop | apply Le.sumC)

end Go.Vm
