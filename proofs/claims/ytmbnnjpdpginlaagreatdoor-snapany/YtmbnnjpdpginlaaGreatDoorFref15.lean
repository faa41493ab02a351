/- Models of functions of the program, and that each keeps its contract: for all arguments of its shape. No condition. -/
import Derived.Test.YtmbnnjpdpginlaaGreatDoorKt
namespace Go.Vm
open Go.Proofs
set_option linter.unusedVariables false
noncomputable def s_conciergeref15_Ahead : Spec Kd := { params := [(.a (.int .i64)), (.a .str), (.a (.int .i64)), (.a .str)], ret := (.one (.a .bool)), pins := [], pl := { nt := 22, cuts := [(1, [(13, ⟨[.tmp 21 (.a .bool)], [], []⟩)])] }, rfrz := [], ts := [8] }
noncomputable def e_conciergeref15_Ahead (F : Nat) : Env El := envN
/-- concierge/conciergeref15.Ahead -/
noncomputable def M_conciergeref15_Ahead (F : Nat) (x : (Int) × (List UInt8) × (Int) × (List UInt8)) : Option (Bool) :=
  (if decide (x.1 < x.2.2.1) = false then if decide (x.1 = x.2.2.1) = true then some (Op.bytesLess x.2.1 x.2.2.2, ()) else some (false, ())
      else some (true, ())).bind
    fun (v0 : Bool × Unit) => some v0.1
theorem t_conciergeref15_Ahead (x : (Int) × (List UInt8) × (Int) × (List UInt8)) (F : Nat) : fnRun TT Tryz.prog (e_conciergeref15_Ahead F) s_conciergeref15_Ahead (bodyOf 32) F x = M_conciergeref15_Ahead F x := by kernel_rfl
theorem c_conciergeref15_Ahead (F : Nat) : Ctr TT Tryz.prog 32 (conOf TT s_conciergeref15_Ahead (M_conciergeref15_Ahead F)) :=
  ctr_of (code := bodyOf 32) Tryz.func32 (by kernel_rfl) (by kernel_rfl) (by kernel_rfl) (by kernel_rfl) envN_ok hm (by kernel_rfl) (fun x r h => ⟨F, (t_conciergeref15_Ahead x F).trans h⟩)
theorem mo_conciergeref15_Ahead {F F' : Nat} (h : F ≤ F') : ∀ v, Le (M_conciergeref15_Ahead F v) (M_conciergeref15_Ahead F' v) := by
  intro v
  unfold M_conciergeref15_Ahead
  with_reducible repeat (first | (intro v) | exact Le.refl _ | exact h | apply Le.bind | apply Le.ite | apply Le.loop | apply Le.sumC)
noncomputable def s_conciergeref15_place : Spec Kd := { params := [(.a (.slc .en)), (.a (.int .i64)), (.a .str)], ret := (.tup [(.a (.int .i64)), (.a .bool)]), pins := [], pl := { nt := 48, loops := [(0, ⟨[.tmp 0 (.a (.slc .en)), .tmp 1 (.a (.int .i64)), .tmp 2 (.a .str), .tmp 8 (.a (.int .i64))], [], []⟩, (.exit 0, ⟨[.tmp 0 (.a (.slc .en))], [], []⟩), [(.ret, ⟨[.tmp 6 (.a (.int .i64)), .tmp 7 (.a .bool)], [], []⟩)])], ends := [(5, ⟨[.tmp 6 (.a (.int .i64)), .tmp 7 (.a .bool)], [], []⟩), (4, ⟨[.tmp 0 (.a (.slc .en)), .tmp 1 (.a (.int .i64)), .tmp 2 (.a .str), .tmp 8 (.a (.int .i64)), .tmp 28 (.a .bool)], [], []⟩)] }, rfrz := [], ts := [6, 7] }
noncomputable def e_conciergeref15_place (F : Nat) : Env El := (envS 32 (conOf TT s_conciergeref15_Ahead (M_conciergeref15_Ahead F)) envN)
/-- concierge/conciergeref15.place -/
noncomputable def M_conciergeref15_place_l0 (F : Nat) (v0 : (List (Int × List UInt8 × Int × Int × Int × Int × List UInt8 × Int × Int × Int × List UInt8 × List UInt8 × List UInt8 × List UInt8 × Unit) ×
        Int × List UInt8 × Int × Unit)) : Option ((List (Int × List UInt8 × Int × Int × Int × Int × List UInt8 × Int × Int × Int × List UInt8 × List UInt8 × List UInt8 × List UInt8 × Unit) ×
        Int × List UInt8 × Int × Unit) ⊕ (List (Int × List UInt8 × Int × Int × Int × Int × List UInt8 × Int × Int × Int × List UInt8 × List UInt8 × List UInt8 × List UInt8 × Unit) × Unit ⊕
        Int × Bool × Unit)) :=
  if decide (v0.2.2.2.1 < (↑v0.1.length : Int)) = true then
          ((idx v0.1 v0.2.2.2.1).bind
                fun
                  (v1 : Int × List UInt8 × Int × Int × Int × Int × List UInt8 × Int × Int × Int × List UInt8 × List UInt8 × List UInt8 × List UInt8 × PUnit) =>
                (idx v0.1 v0.2.2.2.1).bind
                  fun
                    (v2 :
                      Int × List UInt8 × Int × Int × Int × Int × List UInt8 × Int × Int × Int × List UInt8 × List UInt8 × List UInt8 × List UInt8 × PUnit) =>
                  (M_conciergeref15_Ahead F (v1.1, v2.2.1, v0.2.1, v0.2.2.1)).bind fun (v3 : Bool) => some (v0.1, v0.2.1, v0.2.2.1, v0.2.2.2.1, !v3, ())).bind
            fun
              (v4 :
                List (Int × List UInt8 × Int × Int × Int × Int × List UInt8 × Int × Int × Int × List UInt8 × List UInt8 × List UInt8 × List UInt8 × PUnit) ×
                  Int × List UInt8 × Int × Bool × PUnit) =>
            if v4.2.2.2.2.1 = true then
              ((idx v4.1 v4.2.2.2.1).bind
                    fun
                      (v5 :
                        Int × List UInt8 × Int × Int × Int × Int × List UInt8 × Int × Int × Int × List UInt8 × List UInt8 × List UInt8 × List UInt8 × PUnit) =>
                    if decide (v5.1 = v4.2.1) = true then
                      (idx v4.1 v4.2.2.2.1).bind
                        fun
                          (v6 :
                            Int ×
                              List UInt8 × Int × Int × Int × Int × List UInt8 × Int × Int × Int × List UInt8 × List UInt8 × List UInt8 × List UInt8 × PUnit) =>
                        some (v4.2.2.2.1, decide (v6.2.1 = v4.2.2.1), ())
                    else some (v4.2.2.2.1, false, ())).bind
                fun (v7 : Int × Bool × PUnit) => some (Sum.inr (Sum.inr (v7.1, v7.2.1, ())))
            else some (Sum.inl (v4.1, v4.2.1, v4.2.2.1, IntKind.i64.wrap (v4.2.2.2.1 + 1), ()))
        else some (Sum.inr (Sum.inl (v0.1, ())))
noncomputable def M_conciergeref15_place (F : Nat) (x : (List (El .en)) × (Int) × (List UInt8)) : Option ((Int) × (Bool)) :=
  (loopM (M_conciergeref15_place_l0 F)
        F (x.1, x.2.1, x.2.2, 0, ())).bind
    fun
      (v8 :
        List (Int × List UInt8 × Int × Int × Int × Int × List UInt8 × Int × Int × Int × List UInt8 × List UInt8 × List UInt8 × List UInt8 × Unit) × Unit ⊕
          Int × Bool × Unit) =>
    sumC v8
      (fun
          (v9 :
            List (Int × List UInt8 × Int × Int × Int × Int × List UInt8 × Int × Int × Int × List UInt8 × List UInt8 × List UInt8 × List UInt8 × Unit) × Unit) =>
        some ((↑v9.1.length : Int), false))
      fun (v10 : Int × Bool × Unit) => some (v10.1, v10.2.1)
theorem t_conciergeref15_place (x : (List (El .en)) × (Int) × (List UInt8)) (F : Nat) : fnRun TT Tryz.prog (e_conciergeref15_place F) s_conciergeref15_place (bodyOf 59) F x = M_conciergeref15_place F x := by kernel_rfl
theorem c_conciergeref15_place (F : Nat) : Ctr TT Tryz.prog 59 (conOf TT s_conciergeref15_place (M_conciergeref15_place F)) :=
  ctr_of (code := bodyOf 59) Tryz.func59 (by kernel_rfl) (by kernel_rfl) (by kernel_rfl) (by kernel_rfl) (envS_ok envN_ok (c_conciergeref15_Ahead F)) hm (by kernel_rfl) (fun x r h => ⟨F, (t_conciergeref15_place x F).trans h⟩)
theorem mo_conciergeref15_place_l0 {F F' : Nat} (h : F ≤ F') : ∀ v, Le (M_conciergeref15_place_l0 F v) (M_conciergeref15_place_l0 F' v) := by
  intro v
  unfold M_conciergeref15_place_l0
  with_reducible repeat (first | (intro v) | exact Le.refl _ | exact h | exact mo_conciergeref15_Ahead h _ | apply Le.bind | apply Le.ite | apply Le.loop | apply Le.sumC)
theorem mo_conciergeref15_place {F F' : Nat} (h : F ≤ F') : ∀ v, Le (M_conciergeref15_place F v) (M_conciergeref15_place F' v) := by
  intro v
  unfold M_conciergeref15_place
  with_reducible repeat (first | (intro v) | exact Le.refl _ | exact h | exact mo_conciergeref15_Ahead h _ | exact mo_conciergeref15_place_l0 h | exact mo_conciergeref15_place_l0 h _ | apply Le.bind | apply Le.ite | apply Le.loop | apply Le.sumC)
noncomputable def s_conciergeref15_Put : Spec Kd := { params := [(.a (.slc .en)), (.agg [(.int .i64), .str, (.int .i64), (.int .i64), (.int .i64), (.int .i64), .str, (.int .i64), (.int .i64), (.int .i64), .str, .str, .str, .str])], ret := (.one (.a (.row 40 .en))), pins := [], pl := { nt := 34, orc := { rv := [4, 7, 17, 21, 22, 25, 29, 33], gv := [] }, joins := [(600026, (.norm, ⟨[.tmp 0 (.a (.slc .en)), .tmp 5 (.a (.int .i64)), .tmp 7 (.a (.rowp 448)), .box 448 (.row 40 .en)], [], [.tmpRow 7 448 40 .en]⟩), [])], cuts := [(1, [(11, ⟨[.tmp 0 (.a (.slc .en)), .tmp 3 (.a (.ptr 192 0)), .tmp 5 (.a (.int .i64)), .tmp 6 (.a .bool), .box 192 (.cells 40 [(.int .i64), .str, (.int .i64), (.int .i64), (.int .i64), (.int .i64), .str, (.int .i64), (.int .i64), (.int .i64), .str, .str, .str, .str])], [], []⟩)])] }, rfrz := [], ts := [4] }
noncomputable def e_conciergeref15_Put (F : Nat) : Env El := (envS 59 (conOf TT s_conciergeref15_place (M_conciergeref15_place F)) envN)
/-- concierge/conciergeref15.Put -/
noncomputable def M_conciergeref15_Put (F : Nat) (x : (List (El .en)) × ((Int) × (List UInt8) × (Int) × (Int) × (Int) × (Int) × (List UInt8) × (Int) × (Int) × (Int) × (List UInt8) × (List UInt8) × (List UInt8) × (List UInt8) × Unit)) : Option (List (El .en)) :=
  ((M_conciergeref15_place F (x.1, x.2.1, x.2.2.1)).bind fun (v0 : Int × Bool) => some (x.1, (), v0.1, v0.2, x.2, ())).bind
    fun
      (v1 :
        List (Int × List UInt8 × Int × Int × Int × Int × List UInt8 × Int × Int × Int × List UInt8 × List UInt8 × List UInt8 × List UInt8 × Unit) ×
          Unit ×
            Int ×
              Bool ×
                (Int × List UInt8 × Int × Int × Int × Int × List UInt8 × Int × Int × Int × List UInt8 × List UInt8 × List UInt8 × List UInt8 × Unit) × Unit) =>
    (sub v1.1 0 v1.2.2.1).bind
      fun (v2 : List (Int × List UInt8 × Int × Int × Int × Int × List UInt8 × Int × Int × Int × List UInt8 × List UInt8 × List UInt8 × List UInt8 × Unit)) =>
      if decide ((0 + v2.length) * 160 ≤ 140737488355328) = true then
        if decide ((v2.length + [v1.2.2.2.2.1].length) * 160 ≤ 140737488355328) = true then
          (if v1.2.2.2.1 = true then some (v1.1, IntKind.i64.wrap (v1.2.2.1 + 1), (), v2 ++ [v1.2.2.2.2.1], ())
              else some (v1.1, v1.2.2.1, (), v2 ++ [v1.2.2.2.2.1], ())).bind
            fun
              (v3 :
                List (Int × List UInt8 × Int × Int × Int × Int × List UInt8 × Int × Int × Int × List UInt8 × List UInt8 × List UInt8 × List UInt8 × Unit) ×
                  Int ×
                    Unit ×
                      List (Int × List UInt8 × Int × Int × Int × Int × List UInt8 × Int × Int × Int × List UInt8 × List UInt8 × List UInt8 × List UInt8 × Unit) ×
                        Unit) =>
            (sub v3.1 v3.2.1 (↑v3.1.length : Int)).bind
              fun
                (v4 :
                  List (Int × List UInt8 × Int × Int × Int × Int × List UInt8 × Int × Int × Int × List UInt8 × List UInt8 × List UInt8 × List UInt8 × Unit)) =>
              if decide ((v3.2.2.2.1.length + v4.length) * 160 ≤ 140737488355328) = true then some (v3.2.2.2.1 ++ v4) else none
        else none
      else none
theorem t_conciergeref15_Put (x : (List (El .en)) × ((Int) × (List UInt8) × (Int) × (Int) × (Int) × (Int) × (List UInt8) × (Int) × (Int) × (Int) × (List UInt8) × (List UInt8) × (List UInt8) × (List UInt8) × Unit)) (F : Nat) : fnRun TT Tryz.prog (e_conciergeref15_Put F) s_conciergeref15_Put (bodyOf 23) F x = M_conciergeref15_Put F x := by kernel_rfl
theorem c_conciergeref15_Put (F : Nat) : Ctr TT Tryz.prog 23 (conOf TT s_conciergeref15_Put (M_conciergeref15_Put F)) :=
  ctr_of (code := bodyOf 23) Tryz.func23 (by kernel_rfl) (by kernel_rfl) (by kernel_rfl) (by kernel_rfl) (envS_ok envN_ok (c_conciergeref15_place F)) hm (by kernel_rfl) (fun x r h => ⟨F, (t_conciergeref15_Put x F).trans h⟩)
theorem mo_conciergeref15_Put {F F' : Nat} (h : F ≤ F') : ∀ v, Le (M_conciergeref15_Put F v) (M_conciergeref15_Put F' v) := by
  intro v
  unfold M_conciergeref15_Put
  with_reducible repeat (first | (intro v) | exact Le.refl _ | exact h | exact mo_conciergeref15_place h _ | apply Le.bind | apply Le.ite | apply Le.loop | apply Le.sumC)
noncomputable def s_conciergeref15_Same : Spec Kd := { params := [(.a (.slc .en)), (.a (.slc .en))], ret := (.one (.a .bool)), pins := [], pl := { nt := 26, loops := [(0, ⟨[.tmp 0 (.a (.slc .en)), .tmp 1 (.a (.slc .en)), .tmp 5 (.a (.int .i64))], [], []⟩, (.exit 0, ⟨[], [], []⟩), [(.ret, ⟨[.tmp 4 (.a .bool)], [], []⟩)])], ends := [(6, ⟨[.tmp 0 (.a (.slc .en)), .tmp 1 (.a (.slc .en)), .tmp 5 (.a (.int .i64)), .tmp 25 (.a .bool)], [], []⟩)] }, rfrz := [], ts := [4] }
noncomputable def e_conciergeref15_Same (F : Nat) : Env El := envN
/-- concierge/conciergeref15.Same -/
noncomputable def M_conciergeref15_Same_l0 (F : Nat) (v0 : (List (Int × List UInt8 × Int × Int × Int × Int × List UInt8 × Int × Int × Int × List UInt8 × List UInt8 × List UInt8 × List UInt8 × Unit) ×
          List (Int × List UInt8 × Int × Int × Int × Int × List UInt8 × Int × Int × Int × List UInt8 × List UInt8 × List UInt8 × List UInt8 × Unit) ×
            Int × Unit)) : Option ((List (Int × List UInt8 × Int × Int × Int × Int × List UInt8 × Int × Int × Int × List UInt8 × List UInt8 × List UInt8 × List UInt8 × Unit) ×
          List (Int × List UInt8 × Int × Int × Int × Int × List UInt8 × Int × Int × Int × List UInt8 × List UInt8 × List UInt8 × List UInt8 × Unit) ×
            Int × Unit) ⊕ (Unit ⊕ Bool × Unit)) :=
  if decide (v0.2.2.1 < (↑v0.1.length : Int)) = true then
            ((idx v0.1 v0.2.2.1).bind
                  fun
                    (v1 :
                      Int × List UInt8 × Int × Int × Int × Int × List UInt8 × Int × Int × Int × List UInt8 × List UInt8 × List UInt8 × List UInt8 × PUnit) =>
                  (idx v0.2.1 v0.2.2.1).bind
                    fun
                      (v2 :
                        Int × List UInt8 × Int × Int × Int × Int × List UInt8 × Int × Int × Int × List UInt8 × List UInt8 × List UInt8 × List UInt8 × PUnit) =>
                    some
                      (v0.1, v0.2.1, v0.2.2.1,
                        !(decide (v1.1 = v2.1) &&
                            (decide (v1.2.1 = v2.2.1) &&
                              (decide (v1.2.2.1 = v2.2.2.1) &&
                                (decide (v1.2.2.2.1 = v2.2.2.2.1) &&
                                  (decide (v1.2.2.2.2.1 = v2.2.2.2.2.1) &&
                                    (decide (v1.2.2.2.2.2.1 = v2.2.2.2.2.2.1) &&
                                      (decide (v1.2.2.2.2.2.2.1 = v2.2.2.2.2.2.2.1) &&
                                        (decide (v1.2.2.2.2.2.2.2.1 = v2.2.2.2.2.2.2.2.1) &&
                                          (decide (v1.2.2.2.2.2.2.2.2.1 = v2.2.2.2.2.2.2.2.2.1) &&
                                            (decide (v1.2.2.2.2.2.2.2.2.2.1 = v2.2.2.2.2.2.2.2.2.2.1) &&
                                              (decide (v1.2.2.2.2.2.2.2.2.2.2.1 = v2.2.2.2.2.2.2.2.2.2.2.1) &&
                                                (decide (v1.2.2.2.2.2.2.2.2.2.2.2.1 = v2.2.2.2.2.2.2.2.2.2.2.2.1) &&
                                                  (decide (v1.2.2.2.2.2.2.2.2.2.2.2.2.1 = v2.2.2.2.2.2.2.2.2.2.2.2.2.1) &&
                                                    (decide (v1.2.2.2.2.2.2.2.2.2.2.2.2.2.1 = v2.2.2.2.2.2.2.2.2.2.2.2.2.2.1) && true)))))))))))))),
                        ())).bind
              fun
                (v3 :
                  List (Int × List UInt8 × Int × Int × Int × Int × List UInt8 × Int × Int × Int × List UInt8 × List UInt8 × List UInt8 × List UInt8 × PUnit) ×
                    List (Int × List UInt8 × Int × Int × Int × Int × List UInt8 × Int × Int × Int × List UInt8 × List UInt8 × List UInt8 × List UInt8 × PUnit) ×
                      Int × Bool × PUnit) =>
              if v3.2.2.2.1 = true then some (Sum.inr (Sum.inr (false, ()))) else some (Sum.inl (v3.1, v3.2.1, IntKind.i64.wrap (v3.2.2.1 + 1), ()))
          else some (Sum.inr (Sum.inl ()))
noncomputable def M_conciergeref15_Same (F : Nat) (x : (List (El .en)) × (List (El .en))) : Option (Bool) :=
  if (!decide ((↑x.1.length : Int) = (↑x.2.length : Int))) = true then some false
  else
    (loopM (M_conciergeref15_Same_l0 F)
          F (x.1, x.2, 0, ())).bind
      fun (v4 : Unit ⊕ Bool × Unit) => sumC v4 (fun (v5 : Unit) => some true) fun (v6 : Bool × Unit) => some v6.1
theorem t_conciergeref15_Same (x : (List (El .en)) × (List (El .en))) (F : Nat) : fnRun TT Tryz.prog (e_conciergeref15_Same F) s_conciergeref15_Same (bodyOf 14) F x = M_conciergeref15_Same F x := by kernel_rfl
theorem c_conciergeref15_Same (F : Nat) : Ctr TT Tryz.prog 14 (conOf TT s_conciergeref15_Same (M_conciergeref15_Same F)) :=
  ctr_of (code := bodyOf 14) Tryz.func14 (by kernel_rfl) (by kernel_rfl) (by kernel_rfl) (by kernel_rfl) envN_ok hm (by kernel_rfl) (fun x r h => ⟨F, (t_conciergeref15_Same x F).trans h⟩)
theorem mo_conciergeref15_Same_l0 {F F' : Nat} (h : F ≤ F') : ∀ v, Le (M_conciergeref15_Same_l0 F v) (M_conciergeref15_Same_l0 F' v) := by
  intro v
  unfold M_conciergeref15_Same_l0
  with_reducible repeat (first | (intro v) | exact Le.refl _ | exact h | apply Le.bind | apply Le.ite | apply Le.loop | apply Le.sumC)
theorem mo_conciergeref15_Same {F F' : Nat} (h : F ≤ F') : ∀ v, Le (M_conciergeref15_Same F v) (M_conciergeref15_Same F' v) := by
  intro v
  unfold M_conciergeref15_Same
  with_reducible repeat (first | (intro v) | exact Le.refl _ | exact h | exact mo_conciergeref15_Same_l0 h | exact mo_conciergeref15_Same_l0 h _ | apply Le.bind | apply Le.ite | apply Le.loop | apply Le.sumC)

end Go.Vm
