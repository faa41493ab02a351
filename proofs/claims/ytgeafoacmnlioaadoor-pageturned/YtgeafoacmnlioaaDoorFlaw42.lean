/- Models of functions of the program, and that each keeps its contract: for all arguments of its shape. No condition. -/
import Derived.Test.YtgeafoacmnlioaaDoorKt
import Derived.Test.YtgeafoacmnlioaaDoorFpage
import Derived.Test.YtgeafoacmnlioaaDoorFref42
namespace Go.Vm
open Go.Proofs
set_option linter.unusedVariables false
noncomputable def s_conciergelaw42_awake : Spec Kd := { params := [], ret := (.one (.a .bool)), pins := [], pl := { nt := 67, cuts := [(7, [(6, ⟨[.tmp 3 (.a (.int .i64)), .tmp 4 (.a .str), .tmp 8 (.a (.slc .en)), .tmp 9 (.a .str), .tmp 10 (.a (.int .i64)), .tmp 37 (.a .bool)], [], []⟩), (4, ⟨[.tmp 3 (.a (.int .i64)), .tmp 4 (.a .str), .tmp 8 (.a (.slc .en)), .tmp 9 (.a .str), .tmp 41 (.a .bool)], [], []⟩), (4, ⟨[.tmp 4 (.a .str), .tmp 8 (.a (.slc .en)), .tmp 9 (.a .str), .tmp 45 (.a .bool)], [], []⟩), (4, ⟨[.tmp 8 (.a (.slc .en)), .tmp 9 (.a .str), .tmp 49 (.a .bool)], [], []⟩), (5, ⟨[.tmp 8 (.a (.slc .en)), .tmp 9 (.a .str), .tmp 54 (.a .bool)], [], []⟩), (7, ⟨[.tmp 9 (.a .str), .tmp 61 (.a .bool)], [], []⟩), (5, ⟨[.tmp 66 (.a .bool)], [], []⟩)]), (6, [(11, ⟨[.tmp 2 (.a (.int .i64)), .tmp 3 (.a (.int .i64)), .tmp 4 (.a .str), .tmp 5 (.a (.int .i64)), .tmp 8 (.a (.slc .en)), .tmp 9 (.a .str), .tmp 10 (.a (.int .i64))], [], []⟩)])] }, rfrz := [], ts := [0] }
noncomputable def e_conciergelaw42_awake (F : Nat) : Env El := (envS 13 (conOf TT s_conciergeref42_Mark (M_conciergeref42_Mark F)) (envS 25 (conOf TT s_page_Page (M_page_Page F)) (envS 9 (conOf TT s_page_Place (M_page_Place F)) (envS 11 (conOf TT s_page_Mark (M_page_Mark F)) envN))))
noncomputable def M_conciergelaw42_awake (F : Nat) (x : Unit) : Option (Bool) :=
  (M_page_Mark F (2, [107])).bind fun (v0 : List UInt8 × Int) =>
    (M_page_Place F v0.1).bind fun (v1 : Int × List UInt8 × Int) =>
      ((M_page_Page F
                ([(0, [107], 3, 1, 1, 0,
                      [48, 49, 50, 51, 52, 53, 54, 55, 56, 57, 97, 98, 99, 100, 101, 102, 48, 49, 50, 51, 52, 53, 54, 55, 56, 57, 97, 98, 99, 100, 101, 102], 0,
                      0, 0, [], [], [], [], Unit.unit),
                    (0, [97], 3, 1, 1, 0,
                      [48, 49, 50, 51, 52, 53, 54, 55, 56, 57, 97, 98, 99, 100, 101, 102, 48, 49, 50, 51, 52, 53, 54, 55, 56, 57, 97, 98, 99, 100, 101, 102], 0,
                      0, 0, [], [], [], [], Unit.unit)],
                  0, [], 1)).bind
            fun
              (v2 :
                List (Int × List UInt8 × Int × Int × Int × Int × List UInt8 × Int × Int × Int × List UInt8 × List UInt8 × List UInt8 × List UInt8 × Unit) ×
                  List UInt8 × Int) =>
            some (v0.2, v1.1, v1.2.1, v1.2.2, v2.1, v2.2.1, v2.2.2, ())).bind
        fun
          (v3 :
            Int ×
              Int ×
                List UInt8 ×
                  Int ×
                    List (Int × List UInt8 × Int × Int × Int × Int × List UInt8 × Int × Int × Int × List UInt8 × List UInt8 × List UInt8 × List UInt8 × Unit) ×
                      List UInt8 × Int × Unit) =>
        (if decide (v3.1 = 0) = true then some (v3.2.1, v3.2.2.1, v3.2.2.2.2.1, v3.2.2.2.2.2.1, v3.2.2.2.2.2.2.1, decide (v3.2.2.2.1 = 0), ())
            else some (v3.2.1, v3.2.2.1, v3.2.2.2.2.1, v3.2.2.2.2.2.1, v3.2.2.2.2.2.2.1, false, ())).bind
          fun
            (v4 :
              Int ×
                List UInt8 ×
                  List (Int × List UInt8 × Int × Int × Int × Int × List UInt8 × Int × Int × Int × List UInt8 × List UInt8 × List UInt8 × List UInt8 × Unit) ×
                    List UInt8 × Int × Bool × Unit) =>
          (if v4.2.2.2.2.2.1 = true then some (v4.1, v4.2.1, v4.2.2.1, v4.2.2.2.1, decide (v4.2.2.2.2.1 = 0), ())
              else some (v4.1, v4.2.1, v4.2.2.1, v4.2.2.2.1, false, ())).bind
            fun
              (v5 :
                Int ×
                  List UInt8 ×
                    List (Int × List UInt8 × Int × Int × Int × Int × List UInt8 × Int × Int × Int × List UInt8 × List UInt8 × List UInt8 × List UInt8 × Unit) ×
                      List UInt8 × Bool × Unit) =>
            (if v5.2.2.2.2.1 = true then some (v5.2.1, v5.2.2.1, v5.2.2.2.1, decide (v5.1 = 2), ()) else some (v5.2.1, v5.2.2.1, v5.2.2.2.1, false, ())).bind
              fun
                (v6 :
                  List UInt8 ×
                    List (Int × List UInt8 × Int × Int × Int × Int × List UInt8 × Int × Int × Int × List UInt8 × List UInt8 × List UInt8 × List UInt8 × Unit) ×
                      List UInt8 × Bool × Unit) =>
              (if v6.2.2.2.1 = true then some (v6.2.1, v6.2.2.1, decide (v6.1 = [107]), ()) else some (v6.2.1, v6.2.2.1, false, ())).bind
                fun
                  (v7 :
                    List (Int × List UInt8 × Int × Int × Int × Int × List UInt8 × Int × Int × Int × List UInt8 × List UInt8 × List UInt8 × List UInt8 × Unit) ×
                      List UInt8 × Bool × Unit) =>
                (if v7.2.2.1 = true then some (v7.1, v7.2.1, decide ((↑v7.1.length : Int) = 1), ()) else some (v7.1, v7.2.1, false, ())).bind
                  fun
                    (v8 :
                      List (Int × List UInt8 × Int × Int × Int × Int × List UInt8 × Int × Int × Int × List UInt8 × List UInt8 × List UInt8 × List UInt8 × Unit) ×
                        List UInt8 × Bool × Unit) =>
                  (if v8.2.2.1 = true then
                        (idx v8.1 0).bind
                          fun
                            (v9 :
                              Int ×
                                List UInt8 × Int × Int × Int × Int × List UInt8 × Int × Int × Int × List UInt8 × List UInt8 × List UInt8 × List UInt8 × Unit) =>
                          some (v8.2.1, decide (v9.2.1 = [97]), ())
                      else some (v8.2.1, false, ())).bind
                    fun (v10 : List UInt8 × Bool × Unit) =>
                    (if v10.2.1 = true then (M_conciergeref42_Mark F (0, [97])).bind fun (v11 : List UInt8) => some (decide (v10.1 = v11), ())
                        else some (false, ())).bind
                      fun (v12 : Bool × Unit) => some v12.1
theorem t_conciergelaw42_awake (x : Unit) (F : Nat) : fnRun TT Tryd.prog (e_conciergelaw42_awake F) s_conciergelaw42_awake (bodyOf 8) F x = M_conciergelaw42_awake F x := by kernel_rfl
theorem c_conciergelaw42_awake (F : Nat) : Ctr TT Tryd.prog 8 (conOf TT s_conciergelaw42_awake (M_conciergelaw42_awake F)) :=
  ctr_of (code := bodyOf 8) Tryd.func8 (by kernel_rfl) (by kernel_rfl) (by kernel_rfl) (by kernel_rfl) (envS_ok (envS_ok (envS_ok (envS_ok envN_ok (c_page_Mark F)) (c_page_Place F)) (c_page_Page F)) (c_conciergeref42_Mark F)) hm (by kernel_rfl) (fun x r h => ⟨F, (t_conciergelaw42_awake x F).trans h⟩)
theorem mo_conciergelaw42_awake {F F' : Nat} (h : F ≤ F') : ∀ v, Le (M_conciergelaw42_awake F v) (M_conciergelaw42_awake F' v) := by
  intro v
  unfold M_conciergelaw42_awake
  with_reducible repeat (first | (intro v) | exact Le.refl _ | exact h | exact mo_page_Mark h _ | exact mo_page_Place h _ | exact mo_page_Page h _ | exact mo_conciergeref42_Mark h _ | apply Le.bind | apply Le.ite | apply Le.loop | apply Le.sumC)
noncomputable def s_conciergelaw42_PageMarks : Spec Kd := { params := [(.a (.int .i64)), (.a .str), (.a .str)], ret := (.one (.a .bool)), pins := [], pl := { nt := 95, cuts := [(13, [(9, ⟨[.tmp 0 (.a (.int .i64)), .tmp 1 (.a .str), .tmp 7 (.a (.int .i64)), .tmp 8 (.a .str), .tmp 9 (.a (.int .i64)), .tmp 80 (.a .bool)], [], []⟩), (4, ⟨[.tmp 0 (.a (.int .i64)), .tmp 1 (.a .str), .tmp 7 (.a (.int .i64)), .tmp 8 (.a .str), .tmp 84 (.a .bool)], [], []⟩), (5, ⟨[.tmp 1 (.a .str), .tmp 8 (.a .str), .tmp 89 (.a .bool)], [], []⟩), (5, ⟨[.tmp 94 (.a .bool)], [], []⟩)]), (11, [(6, ⟨[.tmp 65 (.a .bool)], [], []⟩)]), (7, [(8, ⟨[.tmp 0 (.a (.int .i64)), .tmp 1 (.a .str), .tmp 9 (.a (.int .i64)), .tmp 12 (.a (.int .i64)), .tmp 44 (.a .bool)], [], []⟩), (5, ⟨[.tmp 0 (.a (.int .i64)), .tmp 1 (.a .str), .tmp 49 (.a .bool)], [], []⟩)]), (3, [(8, ⟨[.tmp 0 (.a (.int .i64)), .tmp 1 (.a .str), .tmp 2 (.a .str), .tmp 24 (.a .bool)], [], []⟩)])] }, rfrz := [], ts := [6] }
noncomputable def e_conciergelaw42_PageMarks (F : Nat) : Env El := (envS 13 (conOf TT s_conciergeref42_Mark (M_conciergeref42_Mark F)) (envS 12 (conOf TT s_conciergeref42_May (M_conciergeref42_May F)) (envS 11 (conOf TT s_page_Mark (M_page_Mark F)) (envS 10 (conOf TT s_conciergeref42_Place (M_conciergeref42_Place F)) (envS 9 (conOf TT s_page_Place (M_page_Place F)) (envS 8 (conOf TT s_conciergelaw42_awake (M_conciergelaw42_awake F)) envN))))))
noncomputable def M_conciergelaw42_PageMarks (F : Nat) (x : (Int) × (List UInt8) × (List UInt8)) : Option (Bool) :=
  (M_conciergelaw42_awake F ()).bind fun (v0 : Bool) =>
    if (!v0) = true then some false
    else
      (if decide (100 < (↑x.2.1.length : Int)) = false then some (x.1, x.2.1, x.2.2, decide (120 < (↑x.2.2.length : Int)), ())
          else some (x.1, x.2.1, x.2.2, true, ())).bind
        fun (v1 : Int × List UInt8 × List UInt8 × Bool × Unit) =>
        if v1.2.2.2.1 = true then some true
        else
          (M_page_Place F v1.2.2.1).bind fun (v2 : Int × List UInt8 × Int) =>
            (M_conciergeref42_Place F v1.2.2.1).bind fun (v3 : Int × List UInt8 × Int) =>
              (if (!decide (v2.1 = v3.1)) = false then some (v1.1, v1.2.1, v2.2.2, v3.2.2, !decide (v2.2.1 = v3.2.1), ())
                  else some (v1.1, v1.2.1, v2.2.2, v3.2.2, true, ())).bind
                fun (v4 : Int × List UInt8 × Int × Int × Bool × Unit) =>
                (if v4.2.2.2.2.1 = false then some (v4.1, v4.2.1, !decide (v4.2.2.1 = v4.2.2.2.1), ()) else some (v4.1, v4.2.1, true, ())).bind
                  fun (v5 : Int × List UInt8 × Bool × Unit) =>
                  if v5.2.2.1 = true then some false
                  else
                    (M_page_Mark F (v5.1, v5.2.1)).bind fun (v6 : List UInt8 × Int) =>
                      (M_conciergeref42_May F (v5.1, v5.2.1)).bind fun (v7 : Bool) =>
                        if (!v7) = true then
                          (if decide (v6.1 = []) = true then some (decide (v6.2 = 1), ()) else some (false, ())).bind fun (v8 : Bool × Unit) => some v8.1
                        else
                          (M_page_Place F v6.1).bind fun (v9 : Int × List UInt8 × Int) =>
                            (if decide (v6.2 = 0) = true then
                                  (M_conciergeref42_Mark F (v5.1, v5.2.1)).bind fun (v10 : List UInt8) =>
                                    some (v5.1, v5.2.1, v9.1, v9.2.1, v9.2.2, decide (v6.1 = v10), ())
                                else some (v5.1, v5.2.1, v9.1, v9.2.1, v9.2.2, false, ())).bind
                              fun (v11 : Int × List UInt8 × Int × List UInt8 × Int × Bool × Unit) =>
                              (if v11.2.2.2.2.2.1 = true then some (v11.1, v11.2.1, v11.2.2.1, v11.2.2.2.1, decide (v11.2.2.2.2.1 = 0), ())
                                  else some (v11.1, v11.2.1, v11.2.2.1, v11.2.2.2.1, false, ())).bind
                                fun (v12 : Int × List UInt8 × Int × List UInt8 × Bool × Unit) =>
                                (if v12.2.2.2.2.1 = true then some (v12.2.1, v12.2.2.2.1, decide (v12.2.2.1 = v12.1), ())
                                    else some (v12.2.1, v12.2.2.2.1, false, ())).bind
                                  fun (v13 : List UInt8 × List UInt8 × Bool × Unit) =>
                                  (if v13.2.2.1 = true then some (decide (v13.2.1 = v13.1), ()) else some (false, ())).bind fun (v14 : Bool × Unit) => some v14.1
theorem t_conciergelaw42_PageMarks (x : (Int) × (List UInt8) × (List UInt8)) (F : Nat) : fnRun TT Tryd.prog (e_conciergelaw42_PageMarks F) s_conciergelaw42_PageMarks (bodyOf 3) F x = M_conciergelaw42_PageMarks F x := by kernel_rfl
theorem c_conciergelaw42_PageMarks (F : Nat) : Ctr TT Tryd.prog 3 (conOf TT s_conciergelaw42_PageMarks (M_conciergelaw42_PageMarks F)) :=
  ctr_of (code := bodyOf 3) Tryd.func3 (by kernel_rfl) (by kernel_rfl) (by kernel_rfl) (by kernel_rfl) (envS_ok (envS_ok (envS_ok (envS_ok (envS_ok (envS_ok envN_ok (c_conciergelaw42_awake F)) (c_page_Place F)) (c_conciergeref42_Place F)) (c_page_Mark F)) (c_conciergeref42_May F)) (c_conciergeref42_Mark F)) hm (by kernel_rfl) (fun x r h => ⟨F, (t_conciergelaw42_PageMarks x F).trans h⟩)
noncomputable def s_conciergelaw42_PageTurned : Spec Kd := { params := [(.a (.int .i64)), (.a .str), (.a (.arr 2 .u8))], ret := (.one (.a .bool)), pins := [], pl := { nt := 71, cuts := [(15, [(6, ⟨[.tmp 13 (.a .str), .tmp 66 (.a .bool)], [], []⟩), (4, ⟨[.tmp 70 (.a .bool)], [], []⟩)]), (14, [(10, ⟨[.tmp 12 (.a (.int .i64)), .tmp 13 (.a .str), .tmp 14 (.a (.int .i64))], [], []⟩)])] }, rfrz := [], ts := [6] }
noncomputable def e_conciergelaw42_PageTurned (F : Nat) : Env El := (envS 9 (conOf TT s_page_Place (M_page_Place F)) (envS 12 (conOf TT s_conciergeref42_May (M_conciergeref42_May F)) (envS 11 (conOf TT s_page_Mark (M_page_Mark F)) (envS 8 (conOf TT s_conciergelaw42_awake (M_conciergelaw42_awake F)) envN))))
noncomputable def M_conciergelaw42_PageTurned (F : Nat) (x : (Int) × (List UInt8) × (List (El .u8))) : Option (Bool) :=
  (M_conciergelaw42_awake F ()).bind fun (v0 : Bool) =>
    if (!v0) = true then some false
    else
      if decide (100 < (↑x.2.1.length : Int)) = true then some true
      else
        (M_page_Mark F (x.1, x.2.1)).bind fun (v1 : List UInt8 × Int) =>
          if (!decide (v1.2 = 0)) = true then (M_conciergeref42_May F (x.1, x.2.1)).bind fun (v2 : Bool) => some !v2
          else
            if decide (v1.1.length ≤ 9223372036854775807) = true then
              (anth x.2.2 0).bind fun (v3 : UInt8) =>
                if decide ((↑v1.1.length : Int) ≠ 0) = true then
                  (anth x.2.2 1).bind fun (v4 : UInt8) =>
                    (idx ([48, 49, 50, 51, 52, 53, 54, 55, 56, 57, 97, 98, 99, 100, 101, 102] : List UInt8) ((↑v4.toNat : Int).tmod 16)).bind fun (v5 : UInt8) =>
                      (idx v1.1 ((IntKind.i64.wrap (↑v3.toNat : Int)).tmod (↑v1.1.length : Int))).bind fun (v6 : UInt8) =>
                        if decide ((↑v6.toNat : Int) = (↑v5.toNat : Int)) = true then some true
                        else
                          (idx v1.1 ((IntKind.i64.wrap (↑v3.toNat : Int)).tmod (↑v1.1.length : Int))).bind fun (v7 : UInt8) =>
                            ((idx v1.1 (↑((IntKind.i64.wrap (↑v3.toNat : Int)).tmod (↑v1.1.length : Int)).toNat : Int)).bind fun (v8 : UInt8) =>
                                  some (UInt8.ofNat (↑v5.toNat : Int).toNat)).bind
                              fun (v9 : UInt8) =>
                              ((M_page_Place F (lset v1.1 ((IntKind.i64.wrap (↑v3.toNat : Int)).tmod (↑v1.1.length : Int)).toNat v9)).bind
                                    fun (v10 : Int × List UInt8 × Int) => some (v10.1, v10.2.1, v10.2.2, ())).bind
                                fun (v11 : Int × List UInt8 × Int × Unit) =>
                                (if decide (v11.2.2.1 = 4) = true then some (v11.2.1, decide (v11.1 = 0), ()) else some (v11.2.1, false, ())).bind
                                  fun (v12 : List UInt8 × Bool × Unit) =>
                                  (if v12.2.1 = true then some (decide (v12.1 = []), ()) else some (false, ())).bind fun (v13 : Bool × Unit) => some v13.1
                else none
            else none
theorem t_conciergelaw42_PageTurned (x : (Int) × (List UInt8) × (List (El .u8))) (F : Nat) : fnRun TT Tryd.prog (e_conciergelaw42_PageTurned F) s_conciergelaw42_PageTurned (bodyOf 4) F x = M_conciergelaw42_PageTurned F x := by kernel_rfl
theorem c_conciergelaw42_PageTurned (F : Nat) : Ctr TT Tryd.prog 4 (conOf TT s_conciergelaw42_PageTurned (M_conciergelaw42_PageTurned F)) :=
  ctr_of (code := bodyOf 4) Tryd.func4 (by kernel_rfl) (by kernel_rfl) (by kernel_rfl) (by kernel_rfl) (envS_ok (envS_ok (envS_ok (envS_ok envN_ok (c_conciergelaw42_awake F)) (c_page_Mark F)) (c_conciergeref42_May F)) (c_page_Place F)) hm (by kernel_rfl) (fun x r h => ⟨F, (t_conciergelaw42_PageTurned x F).trans h⟩)
end Go.Vm
