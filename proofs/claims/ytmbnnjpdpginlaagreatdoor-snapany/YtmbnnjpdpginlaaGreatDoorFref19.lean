/- Models of functions of the program, and that each keeps its contract: for all arguments of its shape. No condition. -/
import Derived.Test.YtmbnnjpdpginlaaGreatDoorKt
import Derived.Test.YtmbnnjpdpginlaaGreatDoorFref10
import Derived.Test.YtmbnnjpdpginlaaGreatDoorFref14
import Derived.Test.YtmbnnjpdpginlaaGreatDoorFref15
namespace Go.Vm
open Go.Proofs
set_option linter.unusedVariables false
noncomputable def s_conciergeref19_May : Spec Kd := { params := [(.a (.slc .en)), (.a (.int .i64))], ret := (.one (.a .bool)), pins := [], pl := { nt := 66, loops := [(0, ⟨[.tmp 0 (.a (.slc .en)), .tmp 1 (.a (.int .i64)), .tmp 5 (.a (.int .i64))], [], []⟩, (.exit 0, ⟨[], [], []⟩), [(.ret, ⟨[.tmp 4 (.a .bool)], [], []⟩)])], cuts := [(6, [(15, ⟨[.tmp 0 (.a (.slc .en)), .tmp 1 (.a (.int .i64)), .tmp 5 (.a (.int .i64)), .tmp 37 (.a .bool)], [], []⟩)]), (1, [(6, ⟨[.tmp 0 (.a (.slc .en)), .tmp 1 (.a (.int .i64)), .tmp 11 (.a .bool)], [], []⟩), (5, ⟨[.tmp 0 (.a (.slc .en)), .tmp 1 (.a (.int .i64)), .tmp 16 (.a .bool)], [], []⟩)])], ends := [(8, ⟨[.tmp 0 (.a (.slc .en)), .tmp 1 (.a (.int .i64)), .tmp 5 (.a (.int .i64)), .tmp 65 (.a .bool)], [], []⟩)] }, rfrz := [], ts := [4] }
noncomputable def e_conciergeref19_May (F : Nat) : Env El := (envS 32 (conOf TT s_conciergeref15_Ahead (M_conciergeref15_Ahead F)) (envS 17 (conOf TT s_conciergeref14_May (M_conciergeref14_May F)) envN))
/-- concierge/conciergeref19.May -/
noncomputable def M_conciergeref19_May_l0 (F : Nat) (v2 : (List (Int × List UInt8 × Int × Int × Int × Int × List UInt8 × Int × Int × Int × List UInt8 × List UInt8 × List UInt8 × List UInt8 × Unit) ×
              Int × Int × Unit)) : Option ((List (Int × List UInt8 × Int × Int × Int × Int × List UInt8 × Int × Int × Int × List UInt8 × List UInt8 × List UInt8 × List UInt8 × Unit) ×
              Int × Int × Unit) ⊕ (Unit ⊕ Bool × Unit)) :=
  if decide (v2.2.2.1 < (↑v2.1.length : Int)) = true then
                ((idx v2.1 v2.2.2.1).bind
                      fun
                        (v3 :
                          Int ×
                            List UInt8 × Int × Int × Int × Int × List UInt8 × Int × Int × Int × List UInt8 × List UInt8 × List UInt8 × List UInt8 × PUnit) =>
                      (M_conciergeref14_May F v3).bind fun (v4 : Bool) =>
                        if (!v4) = false then
                          (idx v2.1 v2.2.2.1).bind
                            fun
                              (v5 :
                                Int ×
                                  List UInt8 ×
                                    Int × Int × Int × Int × List UInt8 × Int × Int × Int × List UInt8 × List UInt8 × List UInt8 × List UInt8 × PUnit) =>
                            some (v2.1, v2.2.1, v2.2.2.1, decide (v2.2.1 < v5.2.2.2.1), ())
                        else some (v2.1, v2.2.1, v2.2.2.1, true, ())).bind
                  fun
                    (v6 :
                      List
                          (Int ×
                            List UInt8 × Int × Int × Int × Int × List UInt8 × Int × Int × Int × List UInt8 × List UInt8 × List UInt8 × List UInt8 × PUnit) ×
                        Int × Int × Bool × PUnit) =>
                  if v6.2.2.2.1 = true then some (Sum.inr (Sum.inr (false, ())))
                  else
                    (if decide (0 < v6.2.2.1) = true then
                          (idx v6.1 (IntKind.i64.wrap (v6.2.2.1 - 1))).bind
                            fun
                              (v7 :
                                Int ×
                                  List UInt8 ×
                                    Int × Int × Int × Int × List UInt8 × Int × Int × Int × List UInt8 × List UInt8 × List UInt8 × List UInt8 × PUnit) =>
                            (idx v6.1 (IntKind.i64.wrap (v6.2.2.1 - 1))).bind
                              fun
                                (v8 :
                                  Int ×
                                    List UInt8 ×
                                      Int × Int × Int × Int × List UInt8 × Int × Int × Int × List UInt8 × List UInt8 × List UInt8 × List UInt8 × PUnit) =>
                              (idx v6.1 v6.2.2.1).bind
                                fun
                                  (v9 :
                                    Int ×
                                      List UInt8 ×
                                        Int × Int × Int × Int × List UInt8 × Int × Int × Int × List UInt8 × List UInt8 × List UInt8 × List UInt8 × PUnit) =>
                                (idx v6.1 v6.2.2.1).bind
                                  fun
                                    (v10 :
                                      Int ×
                                        List UInt8 ×
                                          Int × Int × Int × Int × List UInt8 × Int × Int × Int × List UInt8 × List UInt8 × List UInt8 × List UInt8 × PUnit) =>
                                  (M_conciergeref15_Ahead F (v7.1, v8.2.1, v9.1, v10.2.1)).bind fun (v11 : Bool) => some (v6.1, v6.2.1, v6.2.2.1, !v11, ())
                        else some (v6.1, v6.2.1, v6.2.2.1, false, ())).bind
                      fun
                        (v12 :
                          List
                              (Int ×
                                List UInt8 × Int × Int × Int × Int × List UInt8 × Int × Int × Int × List UInt8 × List UInt8 × List UInt8 × List UInt8 × PUnit) ×
                            Int × Int × Bool × PUnit) =>
                      if v12.2.2.2.1 = true then some (Sum.inr (Sum.inr (false, ()))) else some (Sum.inl (v12.1, v12.2.1, IntKind.i64.wrap (v12.2.2.1 + 1), ()))
              else some (Sum.inr (Sum.inl ()))
noncomputable def M_conciergeref19_May (F : Nat) (x : (List (El .en)) × (Int)) : Option (Bool) :=
  (if decide (x.2 < 0) = false then some (x.1, x.2, decide (1073741824 < x.2), ()) else some (x.1, x.2, true, ())).bind
    fun
      (v0 :
        List (Int × List UInt8 × Int × Int × Int × Int × List UInt8 × Int × Int × Int × List UInt8 × List UInt8 × List UInt8 × List UInt8 × Unit) ×
          Int × Bool × Unit) =>
    (if v0.2.2.1 = false then some (v0.1, v0.2.1, decide (200 < (↑v0.1.length : Int)), ()) else some (v0.1, v0.2.1, true, ())).bind
      fun
        (v1 :
          List (Int × List UInt8 × Int × Int × Int × Int × List UInt8 × Int × Int × Int × List UInt8 × List UInt8 × List UInt8 × List UInt8 × Unit) ×
            Int × Bool × Unit) =>
      if v1.2.2.1 = true then some false
      else
        (loopM (M_conciergeref19_May_l0 F)
              F (v1.1, v1.2.1, 0, ())).bind
          fun (v13 : Unit ⊕ Bool × Unit) => sumC v13 (fun (v14 : Unit) => some true) fun (v15 : Bool × Unit) => some v15.1
theorem t_conciergeref19_May (x : (List (El .en)) × (Int)) (F : Nat) : fnRun TT Tryz.prog (e_conciergeref19_May F) s_conciergeref19_May (bodyOf 10) F x = M_conciergeref19_May F x := by kernel_rfl
theorem c_conciergeref19_May (F : Nat) : Ctr TT Tryz.prog 10 (conOf TT s_conciergeref19_May (M_conciergeref19_May F)) :=
  ctr_of (code := bodyOf 10) Tryz.func10 (by kernel_rfl) (by kernel_rfl) (by kernel_rfl) (by kernel_rfl) (envS_ok (envS_ok envN_ok (c_conciergeref14_May F)) (c_conciergeref15_Ahead F)) hm (by kernel_rfl) (fun x r h => ⟨F, (t_conciergeref19_May x F).trans h⟩)
theorem mo_conciergeref19_May_l0 {F F' : Nat} (h : F ≤ F') : ∀ v, Le (M_conciergeref19_May_l0 F v) (M_conciergeref19_May_l0 F' v) := by
  intro v
  unfold M_conciergeref19_May_l0
  with_reducible repeat (first | (intro v) | exact Le.refl _ | exact h | exact mo_conciergeref14_May h _ | exact mo_conciergeref15_Ahead h _ | apply Le.bind | apply Le.ite | apply Le.loop | apply Le.sumC)
theorem mo_conciergeref19_May {F F' : Nat} (h : F ≤ F') : ∀ v, Le (M_conciergeref19_May F v) (M_conciergeref19_May F' v) := by
  intro v
  unfold M_conciergeref19_May
  with_reducible repeat (first | (intro v) | exact Le.refl _ | exact h | exact mo_conciergeref14_May h _ | exact mo_conciergeref15_Ahead h _ | exact mo_conciergeref19_May_l0 h | exact mo_conciergeref19_May_l0 h _ | apply Le.bind | apply Le.ite | apply Le.loop | apply Le.sumC)
noncomputable def s_conciergeref19_Write : Spec Kd := { params := [(.a (.slc .en)), (.a (.int .i64))], ret := (.one (.a .str)), pins := [], pl := { nt := 30, loops := [(0, ⟨[.tmp 0 (.a (.slc .en)), .tmp 5 (.a .str), .tmp 6 (.a (.int .i64))], [], []⟩, (.exit 0, ⟨[.tmp 5 (.a .str)], [], []⟩), [])] }, rfrz := [], ts := [4] }
noncomputable def e_conciergeref19_Write (F : Nat) : Env El := (envS 18 (conOf TT s_conciergeref14_Bytes (M_conciergeref14_Bytes F)) (envS 39 (conOf TT s_conciergeref10_Make (M_conciergeref10_Make F)) (envS 40 (conOf TT s_conciergeref01_Num (M_conciergeref01_Num F)) envN)))
/-- concierge/conciergeref19.Write -/
noncomputable def M_conciergeref19_Write_l0 (F : Nat) (v3 : (List (Int × List UInt8 × Int × Int × Int × Int × List UInt8 × Int × Int × Int × List UInt8 × List UInt8 × List UInt8 × List UInt8 × Unit) ×
                  List UInt8 × Int × Unit)) : Option ((List (Int × List UInt8 × Int × Int × Int × Int × List UInt8 × Int × Int × Int × List UInt8 × List UInt8 × List UInt8 × List UInt8 × Unit) ×
                  List UInt8 × Int × Unit) ⊕ (List UInt8 × Unit)) :=
  if decide (v3.2.2.1 < (↑v3.1.length : Int)) = true then
                    (idx v3.1 v3.2.2.1).bind
                      fun
                        (v4 :
                          Int ×
                            List UInt8 × Int × Int × Int × Int × List UInt8 × Int × Int × Int × List UInt8 × List UInt8 × List UInt8 × List UInt8 × PUnit) =>
                      (M_conciergeref14_Bytes F v4).bind fun (v5 : List UInt8) =>
                        (M_conciergeref10_Make F v5).bind fun (v6 : List UInt8) =>
                          if decide (v3.2.1.length + v6.length ≤ 9223372036854775807) = true then
                            some (Sum.inl (v3.1, v3.2.1 ++ v6, IntKind.i64.wrap (v3.2.2.1 + 1), ()))
                          else none
                  else some (Sum.inr (v3.2.1, ()))
noncomputable def M_conciergeref19_Write (F : Nat) (x : (List (El .en)) × (Int)) : Option (List UInt8) :=
  (M_conciergeref01_Num F x.2).bind fun (v0 : List UInt8) =>
    if decide ([99, 115, 49].length + v0.length ≤ 9223372036854775807) = true then
      (M_conciergeref01_Num F (↑x.1.length : Int)).bind fun (v1 : List UInt8) =>
        if decide (([99, 115, 49] ++ v0).length + v1.length ≤ 9223372036854775807) = true then
          (M_conciergeref10_Make F ([99, 115, 49] ++ v0 ++ v1)).bind fun (v2 : List UInt8) =>
            (loopM (M_conciergeref19_Write_l0 F)
                  F (x.1, v2, 0, ())).bind
              fun (v7 : List UInt8 × Unit) => some v7.1
        else none
    else none
theorem t_conciergeref19_Write (x : (List (El .en)) × (Int)) (F : Nat) : fnRun TT Tryz.prog (e_conciergeref19_Write F) s_conciergeref19_Write (bodyOf 12) F x = M_conciergeref19_Write F x := by kernel_rfl
theorem c_conciergeref19_Write (F : Nat) : Ctr TT Tryz.prog 12 (conOf TT s_conciergeref19_Write (M_conciergeref19_Write F)) :=
  ctr_of (code := bodyOf 12) Tryz.func12 (by kernel_rfl) (by kernel_rfl) (by kernel_rfl) (by kernel_rfl) (envS_ok (envS_ok (envS_ok envN_ok (c_conciergeref01_Num F)) (c_conciergeref10_Make F)) (c_conciergeref14_Bytes F)) hm (by kernel_rfl) (fun x r h => ⟨F, (t_conciergeref19_Write x F).trans h⟩)
theorem mo_conciergeref19_Write_l0 {F F' : Nat} (h : F ≤ F') : ∀ v, Le (M_conciergeref19_Write_l0 F v) (M_conciergeref19_Write_l0 F' v) := by
  intro v
  unfold M_conciergeref19_Write_l0
  with_reducible repeat (first | (intro v) | exact Le.refl _ | exact h | exact mo_conciergeref01_Num h _ | exact mo_conciergeref10_Make h _ | exact mo_conciergeref14_Bytes h _ | apply Le.bind | apply Le.ite | apply Le.loop | apply Le.sumC)
theorem mo_conciergeref19_Write {F F' : Nat} (h : F ≤ F') : ∀ v, Le (M_conciergeref19_Write F v) (M_conciergeref19_Write F' v) := by
  intro v
  unfold M_conciergeref19_Write
  with_reducible repeat (first | (intro v) | exact Le.refl _ | exact h | exact mo_conciergeref01_Num h _ | exact mo_conciergeref10_Make h _ | exact mo_conciergeref14_Bytes h _ | exact mo_conciergeref19_Write_l0 h | exact mo_conciergeref19_Write_l0 h _ | apply Le.bind | apply Le.ite | apply Le.loop | apply Le.sumC)
noncomputable def s_conciergeref19_Read : Spec Kd := { params := [(.a .str)], ret := (.tup [(.a (.row 40 .en)), (.a (.int .i64)), (.a (.int .i64))]), pins := [], pl := { nt := 80, orc := { rv := [2, 10, 70, 73, 78], gv := [] }, loops := [(0, ⟨[.tmp 5 (.a (.slc .str)), .tmp 8 (.a (.int .i64)), .tmp 10 (.a (.rowp 640)), .tmp 11 (.a (.int .i64)), .box 640 (.row 40 .en)], [1153], [.tmpRow 10 640 40 .en]⟩, (.exit 0, ⟨[.tmp 8 (.a (.int .i64)), .tmp 10 (.a (.rowp 640)), .box 640 (.row 40 .en)], [1153], [.tmpRow 10 640 40 .en]⟩), [(.ret, ⟨[.tmp 2 (.a (.rowp 128)), .tmp 3 (.a (.int .i64)), .tmp 4 (.a (.int .i64)), .box 128 (.row 40 .en)], [1153], [.tmpRow 2 128 40 .en]⟩)])], cuts := [(15, [(11, ⟨[.tmp 5 (.a (.slc .str)), .tmp 8 (.a (.int .i64)), .tmp 10 (.a (.rowp 640)), .tmp 11 (.a (.int .i64)), .tmp 12 (.a (.ptr 768 0)), .tmp 13 (.a .bool), .box 640 (.row 40 .en), .box 768 (.cells 40 [(.int .i64), .str, (.int .i64), (.int .i64), (.int .i64), (.int .i64), .str, (.int .i64), (.int .i64), (.int .i64), .str, .str, .str, .str])], [1153], [.tmpRow 10 640 40 .en]⟩)]), (8, [(10, ⟨[.tmp 5 (.a (.slc .str)), .tmp 8 (.a (.int .i64)), .tmp 9 (.a (.int .i64))], [1153], []⟩)])], ends := [(9, ⟨[.tmp 5 (.a (.slc .str)), .tmp 8 (.a (.int .i64)), .tmp 53 (.a .bool)], [1153], []⟩)] }, rfrz := [], ts := [2, 3, 4] }
noncomputable def e_conciergeref19_Read (F : Nat) : Env El := (envS 10 (conOf TT s_conciergeref19_May (M_conciergeref19_May F)) (envS 43 (conOf TT s_conciergeref14_Open (M_conciergeref14_Open F)) (envS 40 (conOf TT s_conciergeref01_Num (M_conciergeref01_Num F)) (envS 42 (conOf TT s_conciergeref01_First (M_conciergeref01_First F)) (envS 41 (conOf TT s_conciergeref10_Split (M_conciergeref10_Split F)) envN)))))
/-- concierge/conciergeref19.Read -/
noncomputable def M_conciergeref19_Read_l0 (F : Nat) (v10 : (List (List UInt8) ×
                        Int ×
                          Unit ×
                            Int ×
                              List
                                  (Int ×
                                    List UInt8 ×
                                      Int × Int × Int × Int × List UInt8 × Int × Int × Int × List UInt8 × List UInt8 × List UInt8 × List UInt8 × Unit) ×
                                Unit)) : Option ((List (List UInt8) ×
                        Int ×
                          Unit ×
                            Int ×
                              List
                                  (Int ×
                                    List UInt8 ×
                                      Int × Int × Int × Int × List UInt8 × Int × Int × Int × List UInt8 × List UInt8 × List UInt8 × List UInt8 × Unit) ×
                                Unit) ⊕ (Int ×
                          Unit ×
                            List
                                (Int ×
                                  List UInt8 ×
                                    Int × Int × Int × Int × List UInt8 × Int × Int × Int × List UInt8 × List UInt8 × List UInt8 × List UInt8 × Unit) ×
                              Unit ⊕
                        Unit ×
                          Int ×
                            Int ×
                              List
                                  (Int ×
                                    List UInt8 ×
                                      Int × Int × Int × Int × List UInt8 × Int × Int × Int × List UInt8 × List UInt8 × List UInt8 × List UInt8 × Unit) ×
                                Unit)) :=
  if decide (v10.2.2.2.1 < (↑v10.1.length : Int)) = true then
                          ((idx v10.1 v10.2.2.2.1).bind fun (v11 : List UInt8) =>
                                (M_conciergeref14_Open F v11).bind
                                  fun
                                    (v12 :
                                      (Int ×
                                          List UInt8 ×
                                            Int × Int × Int × Int × List UInt8 × Int × Int × Int × List UInt8 × List UInt8 × List UInt8 × List UInt8 × PUnit) ×
                                        Bool) =>
                                  some (v10.1, v10.2.1, (), v10.2.2.2.1, (), v12.2, v10.2.2.2.2.1, v12.1, ())).bind
                            fun
                              (v13 :
                                List (List UInt8) ×
                                  Int ×
                                    PUnit ×
                                      Int ×
                                        PUnit ×
                                          Bool ×
                                            List
                                                (Int ×
                                                  List UInt8 ×
                                                    Int ×
                                                      Int ×
                                                        Int × Int × List UInt8 × Int × Int × Int × List UInt8 × List UInt8 × List UInt8 × List UInt8 × PUnit) ×
                                              (Int ×
                                                  List UInt8 ×
                                                    Int ×
                                                      Int ×
                                                        Int × Int × List UInt8 × Int × Int × Int × List UInt8 × List UInt8 × List UInt8 × List UInt8 × PUnit) ×
                                                PUnit) =>
                            if (!v13.2.2.2.2.2.1) = true then some (Sum.inr (Sum.inr ((), 0, 3, [], ())))
                            else
                              if decide ((v13.2.2.2.2.2.2.1.length + [v13.2.2.2.2.2.2.2.1].length) * 160 ≤ 140737488355328) = true then
                                some (Sum.inl (v13.1, v13.2.1, (), IntKind.i64.wrap (v13.2.2.2.1 + 1), v13.2.2.2.2.2.2.1 ++ [v13.2.2.2.2.2.2.2.1], ()))
                              else none
                        else some (Sum.inr (Sum.inl (v10.2.1, (), v10.2.2.2.2.1, ())))
noncomputable def M_conciergeref19_Read (F : Nat) (x : (List UInt8)) : Option ((List (El .en)) × (Int) × (Int)) :=
  if decide (x = []) = true then some ([], 0, 0)
  else
    (M_conciergeref10_Split F x).bind fun (v0 : List (List UInt8) × Int × Int) =>
      if (!decide (v0.2.2 = 0)) = true then some ([], 0, v0.2.2)
      else
        (idx v0.1 0).bind fun (v1 : List UInt8) =>
          if decide ((↑v1.length : Int) < 3) = true then some ([], 0, 3)
          else
            ((idx v0.1 0).bind fun (v2 : List UInt8) =>
                  (sub v2 3 (↑v2.length : Int)).bind fun (v3 : List UInt8) =>
                    (M_conciergeref01_First F v3).bind fun (v4 : Int × Int) => some (v0.1, v4.1, v4.2, ())).bind
              fun (v5 : List (List UInt8) × Int × Int × Unit) =>
              (if decide (v5.2.2.1 = 0) = false then
                    (idx v5.1 0).bind fun (v6 : List UInt8) =>
                      (M_conciergeref01_Num F v5.2.1).bind fun (v7 : List UInt8) =>
                        if decide ([99, 115, 49].length + v7.length ≤ 9223372036854775807) = true then
                          (M_conciergeref01_Num F (IntKind.i64.wrap ((↑v5.1.length : Int) - 1))).bind fun (v8 : List UInt8) =>
                            if decide (([99, 115, 49] ++ v7).length + v8.length ≤ 9223372036854775807) = true then
                              some (v5.1, v5.2.1, !decide (v6 = [99, 115, 49] ++ v7 ++ v8), ())
                            else none
                        else none
                  else some (v5.1, v5.2.1, true, ())).bind
                fun (v9 : List (List UInt8) × Int × Bool × Unit) =>
                if v9.2.2.1 = true then some ([], 0, 3)
                else
                  (loopM (M_conciergeref19_Read_l0 F)
                        F (v9.1, v9.2.1, (), 1, [], ())).bind
                    fun
                      (v14 :
                        Int ×
                            Unit ×
                              List
                                  (Int ×
                                    List UInt8 ×
                                      Int × Int × Int × Int × List UInt8 × Int × Int × Int × List UInt8 × List UInt8 × List UInt8 × List UInt8 × Unit) ×
                                Unit ⊕
                          Unit ×
                            Int ×
                              Int ×
                                List
                                    (Int ×
                                      List UInt8 ×
                                        Int × Int × Int × Int × List UInt8 × Int × Int × Int × List UInt8 × List UInt8 × List UInt8 × List UInt8 × Unit) ×
                                  Unit) =>
                    sumC v14
                      (fun
                          (v15 :
                            Int ×
                              Unit ×
                                List
                                    (Int ×
                                      List UInt8 ×
                                        Int × Int × Int × Int × List UInt8 × Int × Int × Int × List UInt8 × List UInt8 × List UInt8 × List UInt8 × Unit) ×
                                  Unit) =>
                        (M_conciergeref19_May F (v15.2.2.1, v15.1)).bind fun (v16 : Bool) =>
                          if (!v16) = true then some ([], 0, 3) else some (v15.2.2.1, v15.1, 0))
                      fun
                        (v17 :
                          Unit ×
                            Int ×
                              Int ×
                                List
                                    (Int ×
                                      List UInt8 ×
                                        Int × Int × Int × Int × List UInt8 × Int × Int × Int × List UInt8 × List UInt8 × List UInt8 × List UInt8 × Unit) ×
                                  Unit) =>
                      some (v17.2.2.2.1, v17.2.1, v17.2.2.1)
theorem t_conciergeref19_Read (x : (List UInt8)) (F : Nat) : fnRun TT Tryz.prog (e_conciergeref19_Read F) s_conciergeref19_Read (bodyOf 15) F x = M_conciergeref19_Read F x := by kernel_rfl
theorem c_conciergeref19_Read (F : Nat) : Ctr TT Tryz.prog 15 (conOf TT s_conciergeref19_Read (M_conciergeref19_Read F)) :=
  ctr_of (code := bodyOf 15) Tryz.func15 (by kernel_rfl) (by kernel_rfl) (by kernel_rfl) (by kernel_rfl) (envS_ok (envS_ok (envS_ok (envS_ok (envS_ok envN_ok (c_conciergeref10_Split F)) (c_conciergeref01_First F)) (c_conciergeref01_Num F)) (c_conciergeref14_Open F)) (c_conciergeref19_May F)) hm (by kernel_rfl) (fun x r h => ⟨F, (t_conciergeref19_Read x F).trans h⟩)
theorem mo_conciergeref19_Read_l0 {F F' : Nat} (h : F ≤ F') : ∀ v, Le (M_conciergeref19_Read_l0 F v) (M_conciergeref19_Read_l0 F' v) := by
  intro v
  unfold M_conciergeref19_Read_l0
  with_reducible repeat (first | (intro v) | exact Le.refl _ | exact h | exact mo_conciergeref10_Split h _ | exact mo_conciergeref01_First h _ | exact mo_conciergeref01_Num h _ | exact mo_conciergeref14_Open h _ | exact mo_conciergeref19_May h _ | apply Le.bind | apply Le.ite | apply Le.loop | apply Le.sumC)
theorem mo_conciergeref19_Read {F F' : Nat} (h : F ≤ F') : ∀ v, Le (M_conciergeref19_Read F v) (M_conciergeref19_Read F' v) := by
  intro v
  unfold M_conciergeref19_Read
  with_reducible repeat (first | (intro v) | exact Le.refl _ | exact h | exact mo_conciergeref10_Split h _ | exact mo_conciergeref01_First h _ | exact mo_conciergeref01_Num h _ | exact mo_conciergeref14_Open h _ | exact mo_conciergeref19_May h _ | exact mo_conciergeref19_Read_l0 h | exact mo_conciergeref19_Read_l0 h _ | apply Le.bind | apply Le.ite | apply Le.loop | apply Le.sumC)

end Go.Vm
