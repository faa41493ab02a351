/- Models of functions of the program, and that each keeps its contract: for all arguments of its shape. No condition. -/
import Derived.Test.YtgeafoacmnlioaaDoorKt
import Derived.Test.YtgeafoacmnlioaaDoorFhead
import Derived.Test.YtgeafoacmnlioaaDoorFref38
namespace Go.Vm
open Go.Proofs
set_option linter.unusedVariables false
noncomputable def s_conciergelaw38_awake : Spec Kd := { params := [], ret := (.one (.a .bool)), pins := [], pl := { nt := 36, cuts := [(4, [(5, ⟨[.tmp 1 (.a .str), .tmp 2 (.a (.ptr 128 0)), .tmp 4 (.a .str), .tmp 20 (.a .bool), .box 128 (.cells 37 [(.int .i64), (.int .i64), (.int .i64), .str, .str, .str, .str])], [2048], []⟩), (4, ⟨[.tmp 1 (.a .str), .tmp 2 (.a (.ptr 128 0)), .tmp 24 (.a .bool), .box 128 (.cells 37 [(.int .i64), (.int .i64), (.int .i64), .str, .str, .str, .str])], [2048], []⟩), (5, ⟨[.tmp 1 (.a .str), .tmp 29 (.a .bool)], [2048], []⟩), (6, ⟨[.tmp 35 (.a .bool)], [2048], []⟩)])] }, rfrz := [], ts := [0] }
noncomputable def e_conciergelaw38_awake (F : Nat) : Env El := (envS 21 (conOf TT s_head_Names (M_head_Names F)) (envS 18 (conOf TT s_head_Field (M_head_Field F)) (envS 15 (conOf TT s_head_Parse (M_head_Parse F)) envN)))
noncomputable def M_conciergelaw38_awake (F : Nat) (x : Unit) : Option (Bool) :=
  (M_head_Parse F
        [71, 69, 84, 32, 47, 97, 13, 10, 73, 100, 101, 109, 112, 111, 116, 101, 110, 99, 121, 45, 75, 101, 121, 58, 32, 32, 107, 32, 10, 84, 101, 110, 97, 110,
          116, 58, 32, 50, 10, 10, 98, 111, 100, 121, 10]).bind
    fun (v0 : (Int × Int × Int × List UInt8 × List UInt8 × List UInt8 × List UInt8 × Unit) × Int) =>
    (M_head_Field F
          ([71, 69, 84, 32, 47, 97, 13, 10, 73, 100, 101, 109, 112, 111, 116, 101, 110, 99, 121, 45, 75, 101, 121, 58, 32, 32, 107, 32, 10, 84, 101, 110, 97, 110,
              116, 58, 32, 50, 10, 10, 98, 111, 100, 121, 10],
            [84, 69, 78, 65, 78, 84])).bind
      fun (v1 : List UInt8 × Bool) =>
      (if decide (v0.2 = 0) = true then
            some
              ([71, 69, 84, 32, 47, 97, 13, 10, 73, 100, 101, 109, 112, 111, 116, 101, 110, 99, 121, 45, 75, 101, 121, 58, 32, 32, 107, 32, 10, 84, 101, 110, 97,
                  110, 116, 58, 32, 50, 10, 10, 98, 111, 100, 121, 10],
                (), v1.1, v1.2, v0.1, ())
          else
            some
              ([71, 69, 84, 32, 47, 97, 13, 10, 73, 100, 101, 109, 112, 111, 116, 101, 110, 99, 121, 45, 75, 101, 121, 58, 32, 32, 107, 32, 10, 84, 101, 110, 97,
                  110, 116, 58, 32, 50, 10, 10, 98, 111, 100, 121, 10],
                (), v1.1, false, v0.1, ())).bind
        fun (v2 : List UInt8 × Unit × List UInt8 × Bool × (Int × Int × Int × List UInt8 × List UInt8 × List UInt8 × List UInt8 × Unit) × Unit) =>
        (if v2.2.2.2.1 = true then some (v2.1, (), decide (v2.2.2.1 = [50]), v2.2.2.2.2.1, ()) else some (v2.1, (), false, v2.2.2.2.2.1, ())).bind
          fun (v3 : List UInt8 × Unit × Bool × (Int × Int × Int × List UInt8 × List UInt8 × List UInt8 × List UInt8 × Unit) × Unit) =>
          (if v3.2.2.1 = true then
                some
                  (v3.1,
                    decide (v3.2.2.2.1.1 = 0) &&
                      (decide (v3.2.2.2.1.2.1 = 0) &&
                        (decide (v3.2.2.2.1.2.2.1 = 2) &&
                          (decide (v3.2.2.2.1.2.2.2.1 = [107]) &&
                            (decide (v3.2.2.2.1.2.2.2.2.1 = [71, 69, 84]) &&
                              (decide (v3.2.2.2.1.2.2.2.2.2.1 = [47, 97]) && (decide (v3.2.2.2.1.2.2.2.2.2.2.1 = [98, 111, 100, 121, 10]) && true)))))),
                    ())
              else some (v3.1, false, ())).bind
            fun (v4 : List UInt8 × Bool × Unit) =>
            (if v4.2.1 = true then (M_head_Names F v4.1).bind fun (v5 : List (List UInt8)) => some (decide ((↑v5.length : Int) = 2), ())
                else some (false, ())).bind
              fun (v6 : Bool × Unit) => some v6.1
theorem t_conciergelaw38_awake (x : Unit) (F : Nat) : fnRun TT Tryd.prog (e_conciergelaw38_awake F) s_conciergelaw38_awake (bodyOf 14) F x = M_conciergelaw38_awake F x := by kernel_rfl
theorem c_conciergelaw38_awake (F : Nat) : Ctr TT Tryd.prog 14 (conOf TT s_conciergelaw38_awake (M_conciergelaw38_awake F)) :=
  ctr_of (code := bodyOf 14) Tryd.func14 (by kernel_rfl) (by kernel_rfl) (by kernel_rfl) (by kernel_rfl) (envS_ok (envS_ok (envS_ok envN_ok (c_head_Parse F)) (c_head_Field F)) (c_head_Names F)) hm (by kernel_rfl) (fun x r h => ⟨F, (t_conciergelaw38_awake x F).trans h⟩)
noncomputable def s_conciergelaw38_HeadAny : Spec Kd := { params := [(.a .str), (.a .str)], ret := (.one (.a .bool)), pins := [], pl := { nt := 100, loops := [(0, ⟨[.tmp 15 (.a (.slc .str)), .tmp 16 (.a (.slc .str)), .tmp 86 (.a (.int .i64)), .tmp 87 (.a (.int .i64))], [3648, 3776], []⟩, (.exit 0, ⟨[], [3648, 3776], []⟩), [(.ret, ⟨[.tmp 4 (.a .bool)], [3648, 3776], []⟩)])], cuts := [(11, [(8, ⟨[.tmp 11 (.a .str), .tmp 12 (.a .bool), .tmp 13 (.a .str), .tmp 14 (.a .bool), .tmp 15 (.a (.slc .str)), .tmp 16 (.a (.slc .str)), .tmp 67 (.a .bool)], [3648, 3776], []⟩), (5, ⟨[.tmp 12 (.a .bool), .tmp 14 (.a .bool), .tmp 15 (.a (.slc .str)), .tmp 16 (.a (.slc .str)), .tmp 72 (.a .bool)], [3648, 3776], []⟩), (5, ⟨[.tmp 15 (.a (.slc .str)), .tmp 16 (.a (.slc .str)), .tmp 77 (.a .bool)], [3648, 3776], []⟩), (7, ⟨[.tmp 15 (.a (.slc .str)), .tmp 16 (.a (.slc .str)), .tmp 84 (.a .bool)], [3648, 3776], []⟩)]), (3, [(8, ⟨[.tmp 0 (.a .str), .tmp 1 (.a .str), .tmp 27 (.a .bool)], [3648, 3776], []⟩)])], ends := [(16, ⟨[.tmp 15 (.a (.slc .str)), .tmp 16 (.a (.slc .str)), .tmp 86 (.a (.int .i64)), .tmp 87 (.a (.int .i64)), .tmp 98 (.a .bool)], [3648, 3776], []⟩), (9, ⟨[.tmp 0 (.a .str), .tmp 5 (.a (.ptr 320 0)), .tmp 6 (.a (.int .i64)), .tmp 7 (.a (.ptr 448 0)), .tmp 8 (.a (.int .i64)), .tmp 9 (.a (.ptr 576 0)), .tmp 11 (.a .str), .tmp 12 (.a .bool), .tmp 13 (.a .str), .tmp 14 (.a .bool), .box 320 (.cells 37 [(.int .i64), (.int .i64), (.int .i64), .str, .str, .str, .str]), .box 448 (.cells 37 [(.int .i64), (.int .i64), (.int .i64), .str, .str, .str, .str]), .box 576 (.cells 44 [.str, .str, .str, (.slc .fe)])], [3648, 3776], [.cellSlc 576 3 .fe]⟩)] }, rfrz := [], ts := [4] }
noncomputable def e_conciergelaw38_HeadAny (F : Nat) : Env El := (envS 22 (conOf TT s_conciergeref38_Names (M_conciergeref38_Names F)) (envS 21 (conOf TT s_head_Names (M_head_Names F)) (envS 19 (conOf TT s_conciergeref38_Get (M_conciergeref38_Get F)) (envS 20 (conOf TT s_conciergeref38_Fold (M_conciergeref38_Fold F)) (envS 18 (conOf TT s_head_Field (M_head_Field F)) (envS 17 (conOf TT s_conciergeref38_Read (M_conciergeref38_Read F)) (envS 16 (conOf TT s_conciergeref38_Parse (M_conciergeref38_Parse F)) (envS 15 (conOf TT s_head_Parse (M_head_Parse F)) (envS 14 (conOf TT s_conciergelaw38_awake (M_conciergelaw38_awake F)) envN)))))))))
noncomputable def M_conciergelaw38_HeadAny_l0 (F : Nat) (v15 : (List (List UInt8) × List (List UInt8) × Int × Int × Unit)) : Option ((List (List UInt8) × List (List UInt8) × Int × Int × Unit) ⊕ (Unit ⊕ Bool × Unit)) :=
  if decide (v15.2.2.2.1 < v15.2.2.1) = true then
                                          ((idx v15.1 v15.2.2.2.1).bind fun (v16 : List UInt8) =>
                                                (idx v15.2.1 v15.2.2.2.1).bind fun (v17 : List UInt8) =>
                                                  some (v15.1, v15.2.1, v15.2.2.1, v15.2.2.2.1, !decide (v16 = v17), ())).bind
                                            fun (v18 : List (List UInt8) × List (List UInt8) × Int × Int × Bool × Unit) =>
                                            if v18.2.2.2.2.1 = true then some (Sum.inr (Sum.inr (false, ())))
                                            else some (Sum.inl (v18.1, v18.2.1, v18.2.2.1, IntKind.i64.wrap (v18.2.2.2.1 + 1), ()))
                                        else some (Sum.inr (Sum.inl ()))
noncomputable def M_conciergelaw38_HeadAny (F : Nat) (x : (List UInt8) × (List UInt8)) : Option (Bool) :=
  (M_conciergelaw38_awake F ()).bind fun (v0 : Bool) =>
    if (!v0) = true then some false
    else
      (if decide (700 < (↑x.1.length : Int)) = false then some (x.1, x.2, decide (30 < (↑x.2.length : Int)), ()) else some (x.1, x.2, true, ())).bind
        fun (v1 : List UInt8 × List UInt8 × Bool × Unit) =>
        if v1.2.2.1 = true then some true
        else
          (M_head_Parse F v1.1).bind fun (v2 : (Int × Int × Int × List UInt8 × List UInt8 × List UInt8 × List UInt8 × Unit) × Int) =>
            (M_conciergeref38_Parse F v1.1).bind fun (v3 : (Int × Int × Int × List UInt8 × List UInt8 × List UInt8 × List UInt8 × Unit) × Int) =>
              (M_conciergeref38_Read F v1.1).bind fun (v4 : (List UInt8 × List UInt8 × List UInt8 × List (List UInt8 × List UInt8 × Unit) × Unit) × Int) =>
                (M_head_Field F (v1.1, v1.2.1)).bind fun (v5 : List UInt8 × Bool) =>
                  ((M_conciergeref38_Fold F v1.2.1).bind fun (v6 : List UInt8) =>
                        (M_conciergeref38_Get F ((v4.1.1, v4.1.2.1, v4.1.2.2.1, v4.1.2.2.2.1, ()), v6)).bind fun (v7 : List UInt8 × Bool) =>
                          some (v1.1, (), v2.2, (), v3.2, (), v5.1, v5.2, v7.1, v7.2, v2.1, v3.1, (v4.1.1, v4.1.2.1, v4.1.2.2.1, v4.1.2.2.2.1, ()), ())).bind
                    fun
                      (v8 :
                        List UInt8 ×
                          Unit ×
                            Int ×
                              Unit ×
                                Int ×
                                  Unit ×
                                    List UInt8 ×
                                      Bool ×
                                        List UInt8 ×
                                          Bool ×
                                            (Int × Int × Int × List UInt8 × List UInt8 × List UInt8 × List UInt8 × Unit) ×
                                              (Int × Int × Int × List UInt8 × List UInt8 × List UInt8 × List UInt8 × Unit) ×
                                                (List UInt8 × List UInt8 × List UInt8 × List (List UInt8 × List UInt8 × Unit) × Unit) × Unit) =>
                    (M_head_Names F v8.1).bind fun (v9 : List (List UInt8)) =>
                      (M_conciergeref38_Names F
                            (v8.2.2.2.2.2.2.2.2.2.2.2.2.1.1, v8.2.2.2.2.2.2.2.2.2.2.2.2.1.2.1, v8.2.2.2.2.2.2.2.2.2.2.2.2.1.2.2.1,
                              v8.2.2.2.2.2.2.2.2.2.2.2.2.1.2.2.2.1, ())).bind
                        fun (v10 : List (List UInt8)) =>
                        (if
                                (!(decide (v8.2.2.2.2.2.2.2.2.2.2.1.1 = v8.2.2.2.2.2.2.2.2.2.2.2.1.1) &&
                                      (decide (v8.2.2.2.2.2.2.2.2.2.2.1.2.1 = v8.2.2.2.2.2.2.2.2.2.2.2.1.2.1) &&
                                        (decide (v8.2.2.2.2.2.2.2.2.2.2.1.2.2.1 = v8.2.2.2.2.2.2.2.2.2.2.2.1.2.2.1) &&
                                          (decide (v8.2.2.2.2.2.2.2.2.2.2.1.2.2.2.1 = v8.2.2.2.2.2.2.2.2.2.2.2.1.2.2.2.1) &&
                                            (decide (v8.2.2.2.2.2.2.2.2.2.2.1.2.2.2.2.1 = v8.2.2.2.2.2.2.2.2.2.2.2.1.2.2.2.2.1) &&
                                              (decide (v8.2.2.2.2.2.2.2.2.2.2.1.2.2.2.2.2.1 = v8.2.2.2.2.2.2.2.2.2.2.2.1.2.2.2.2.2.1) &&
                                                (decide (v8.2.2.2.2.2.2.2.2.2.2.1.2.2.2.2.2.2.1 = v8.2.2.2.2.2.2.2.2.2.2.2.1.2.2.2.2.2.2.1) && true)))))))) =
                                  false then
                              some
                                (v8.2.2.2.2.2.2.1, v8.2.2.2.2.2.2.2.1, v8.2.2.2.2.2.2.2.2.1, v8.2.2.2.2.2.2.2.2.2.1, v9, v10, !decide (v8.2.2.1 = v8.2.2.2.2.1),
                                  ())
                            else some (v8.2.2.2.2.2.2.1, v8.2.2.2.2.2.2.2.1, v8.2.2.2.2.2.2.2.2.1, v8.2.2.2.2.2.2.2.2.2.1, v9, v10, true, ())).bind
                          fun (v11 : List UInt8 × Bool × List UInt8 × Bool × List (List UInt8) × List (List UInt8) × Bool × Unit) =>
                          (if v11.2.2.2.2.2.2.1 = false then some (v11.2.1, v11.2.2.2.1, v11.2.2.2.2.1, v11.2.2.2.2.2.1, !decide (v11.1 = v11.2.2.1), ())
                              else some (v11.2.1, v11.2.2.2.1, v11.2.2.2.2.1, v11.2.2.2.2.2.1, true, ())).bind
                            fun (v12 : Bool × Bool × List (List UInt8) × List (List UInt8) × Bool × Unit) =>
                            (if v12.2.2.2.2.1 = false then some (v12.2.2.1, v12.2.2.2.1, !v12.1 == v12.2.1, ()) else some (v12.2.2.1, v12.2.2.2.1, true, ())).bind
                              fun (v13 : List (List UInt8) × List (List UInt8) × Bool × Unit) =>
                              (if v13.2.2.1 = false then some (v13.1, v13.2.1, !decide ((↑v13.1.length : Int) = (↑v13.2.1.length : Int)), ())
                                  else some (v13.1, v13.2.1, true, ())).bind
                                fun (v14 : List (List UInt8) × List (List UInt8) × Bool × Unit) =>
                                if v14.2.2.1 = true then some false
                                else
                                  (loopM (M_conciergelaw38_HeadAny_l0 F)
                                        F (v14.1, v14.2.1, (↑v14.1.length : Int), 0, ())).bind
                                    fun (v19 : Unit ⊕ Bool × Unit) => sumC v19 (fun (v20 : Unit) => some true) fun (v21 : Bool × Unit) => some v21.1
theorem t_conciergelaw38_HeadAny (x : (List UInt8) × (List UInt8)) (F : Nat) : fnRun TT Tryd.prog (e_conciergelaw38_HeadAny F) s_conciergelaw38_HeadAny (bodyOf 5) F x = M_conciergelaw38_HeadAny F x := by kernel_rfl
theorem c_conciergelaw38_HeadAny (F : Nat) : Ctr TT Tryd.prog 5 (conOf TT s_conciergelaw38_HeadAny (M_conciergelaw38_HeadAny F)) :=
  ctr_of (code := bodyOf 5) Tryd.func5 (by kernel_rfl) (by kernel_rfl) (by kernel_rfl) (by kernel_rfl) (envS_ok (envS_ok (envS_ok (envS_ok (envS_ok (envS_ok (envS_ok (envS_ok (envS_ok envN_ok (c_conciergelaw38_awake F)) (c_head_Parse F)) (c_conciergeref38_Parse F)) (c_conciergeref38_Read F)) (c_head_Field F)) (c_conciergeref38_Fold F)) (c_conciergeref38_Get F)) (c_head_Names F)) (c_conciergeref38_Names F)) hm (by kernel_rfl) (fun x r h => ⟨F, (t_conciergelaw38_HeadAny x F).trans h⟩)
end Go.Vm
