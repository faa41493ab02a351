/- Models of functions of the program, and that each keeps its contract: for all arguments of its shape. No condition. -/
import Derived.Test.YtgeafoacmnlioaaDoorKt
import Derived.Test.YtgeafoacmnlioaaDoorFhead
import Derived.Test.YtgeafoacmnlioaaDoorFref38
namespace Go.Vm
open Go.Proofs
set_option linter.unusedVariables false
noncomputable def s_conciergelaw38_awake : Spec Kd := { params := [], ret := (.one (.a .bool)), pins := [], pl := { nt := 36, cuts := [(4, [(5, ⟨[.tmp 1 (.a .str), .tmp 2 (.a (.ptr 128 0)), .tmp 4 (.a .str), .tmp 20 (.a .bool), .box 128 (.cells 37 [(.int .i64), (.int .i64), (.int .i64), .str, .str, .str, .str])], [2048], []⟩), (4, ⟨[.tmp 1 (.a .str), .tmp 2 (.a (.ptr 128 0)), .tmp 24 (.a .bool), .box 128 (.cells 37 [(.int .i64), (.int .i64), (.int .i64), .str, .str, .str, .str])], [2048], []⟩), (5, ⟨[.tmp 1 (.a .str), .tmp 29 (.a .bool)], [2048], []⟩), (6, ⟨[.tmp 35 (.a .bool)], [2048], []⟩)])] }, rfrz := [], ts := [0] }
noncomputable def e_conciergelaw38_awake (F : Nat) : Env El := (envS 21 (conOf TT s_head_Names (M_head_Names F)) (envS 18 (conOf TT s_head_Field (M_head_Field F)) (envS 15 (conOf TT s_head_Parse (M_head_Parse F)) envN)))
noncomputable def M_conciergelaw38_awake (F : Nat) (x : Unit) : Option (Bool) :=
  (M_head_Parse F
        [71, 69, 84, 32, 47, 97, 13, 10, 73, 100, 101, 109, 112, 111, 116, 101, 110, 99, 121, 45, 75, 101, 121, 58, 32, 32, 107, 32, 10, 84, 101, 110, 97, 110,
          116, 58, 32, 50, 10, 10, 98, 111, 100, 121, 10]).bind
    fun (v0 : (Int × Int × Int × List UInt8 × List UInt8 × List UInt8 × List UInt8 × Unit) × Int) =>
    (M_head_Field F
          ([71, 69, 84, 32, 47, 97, 13, 10, 73, 100, 101, 109, 112, 111, 116, 101, 110, 99, 121, 45, 75, 101, 121, 58, 32, 32, 107, 32, 10, 84, 101, 110, 97, 110,
              116, 58, 32, 50, 10, 10, 98, 111, 100, 121, 10],
            [84, 69, 78, 65, 78, 84])).bind
      fun (v1 : List UInt8 × Bool) =>
      (if decide (v0.2 = 0) = true then
            some
              ([71, 69, 84, 32, 47, 97, 13, 10, 73, 100, 101, 109, 112, 111, 116, 101, 110, 99, 121, 45, 75, 101, 121, 58, 32, 32, 107, 32, 10, 84, 101, 110, 97,
                  110, 116, 58, 32, 50, 10, 10, 98, 111, 100, 121, 10],
                (), v1.1, v1.2, v0.1, ())
          else
            some
              ([71, 69, 84, 32, 47, 97, 13, 10, 73, 100, 101, 109, 112, 111, 116, 101, 110, 99, 121, 45, 75, 101, 121, 58, 32, 32, 107, 32, 10, 84, 101, 110, 97,
                  110, 116, 58, 32, 50, 10, 10, 98, 111, 100, 121, 10],
                (), v1.1, false, v0.1, ())).bind
        fun (v2 : List UInt8 × Unit × List UInt8 × Bool × (Int × Int × Int × List UInt8 × List UInt8 × List UInt8 × List UInt8 × Unit) × Unit) =>
        (if v2.2.2.2.1 = true then some (v2.1, (), decide (v2.2.2.1 = [50]), v2.2.2.2.2.1, ()) else some (v2.1, (), false, v2.2.2.2.2.1, ())).bind
          fun (v3 : List UInt8 × Unit × Bool × (Int × Int × Int × List UInt8 × List UInt8 × List UInt8 × List UInt8 × Unit) × Unit) =>
          (if v3.2.2.1 = true then
                some
                  (v3.1,
                    decide (v3.2.2.2.1.1 = 0) &&
                      (decide (v3.2.2.2.1.2.1 = 0) &&
                        (decide (v3.2.2.2.1.2.2.1 = 2) &&
                          (decide (v3.2.2.2.1.2.2.2.1 = [107]) &&
                            (decide (v3.2.2.2.1.2.2.2.2.1 = [71, 69, 84]) &&
                              (decide (v3.2.2.2.1.2.2.2.2.2.1 = [47, 97]) && (decide (v3.2.2.2.1.2.2.2.2.2.2.1 = [98, 111, 100, 121, 10]) && true)))))),
                    ())
              else some (v3.1, false, ())).bind
            fun (v4 : List UInt8 × Bool × Unit) =>
            (if v4.2.1 = true then (M_head_Names F v4.1).bind fun (v5 : List (List UInt8)) => some (decide ((↑v5.length : Int) = 2), ())
                else some (false, ())).bind
              fun (v6 : Bool × Unit) => some v6.1
theorem t_conciergelaw38_awake (x : Unit) (F : Nat) : fnRun TT Tryd.prog (e_conciergelaw38_awake F) s_conciergelaw38_awake (bodyOf 14) F x = M_conciergelaw38_awake F x := by kernel_rfl
theorem c_conciergelaw38_awake (F : Nat) : Ctr TT Tryd.prog 14 (conOf TT s_conciergelaw38_awake (M_conciergelaw38_awake F)) :=
  ctr_of (code := bodyOf 14) Tryd.func14 (by kernel_rfl) (by kernel_rfl) (by kernel_rfl) (by kernel_rfl) (envS_ok (envS_ok (envS_ok envN_ok (c_head_Parse F)) (c_head_Field F)) (c_head_Names F)) hm (by kernel_rfl) (fun x r h => ⟨F, (t_conciergelaw38_awake x F).trans h⟩)
noncomputable def s_conciergelaw38_HeadBack : Spec Kd := { params := [(.agg [(.int .i64), (.int .i64), (.int .i64), .str, .str, .str, .str])], ret := (.one (.a .bool)), pins := [], pl := { nt := 65, cuts := [(12, [(7, ⟨[.tmp 64 (.a .bool)], [], []⟩)]), (7, [(8, ⟨[.tmp 1 (.a (.ptr 64 0)), .tmp 3 (.a .str), .tmp 6 (.a (.int .i64)), .tmp 50 (.a .bool), .box 64 (.cells 37 [(.int .i64), (.int .i64), (.int .i64), .str, .str, .str, .str])], [], []⟩)]), (3, [(10, ⟨[.tmp 1 (.a (.ptr 64 0)), .tmp 20 (.a .bool), .box 64 (.cells 37 [(.int .i64), (.int .i64), (.int .i64), .str, .str, .str, .str])], [], []⟩), (6, ⟨[.tmp 1 (.a (.ptr 64 0)), .tmp 26 (.a .bool), .box 64 (.cells 37 [(.int .i64), (.int .i64), (.int .i64), .str, .str, .str, .str])], [], []⟩), (6, ⟨[.tmp 1 (.a (.ptr 64 0)), .tmp 32 (.a .bool), .box 64 (.cells 37 [(.int .i64), (.int .i64), (.int .i64), .str, .str, .str, .str])], [], []⟩)])] }, rfrz := [], ts := [2] }
noncomputable def e_conciergelaw38_HeadBack (F : Nat) : Env El := (envS 15 (conOf TT s_head_Parse (M_head_Parse F)) (envS 23 (conOf TT s_conciergeref38_Print (M_conciergeref38_Print F)) (envS 24 (conOf TT s_head_Print (M_head_Print F)) (envS 14 (conOf TT s_conciergelaw38_awake (M_conciergelaw38_awake F)) envN))))
noncomputable def M_conciergelaw38_HeadBack (F : Nat) (x : ((Int) × (Int) × (Int) × (List UInt8) × (List UInt8) × (List UInt8) × (List UInt8) × Unit)) : Option (Bool) :=
  (M_conciergelaw38_awake F ()).bind fun (v0 : Bool) =>
    if (!v0) = true then some false
    else
      (if decide (300 < (↑x.2.2.2.1.length : Int)) = false then some ((), decide (300 < (↑x.2.2.2.2.1.length : Int)), x, ()) else some ((), true, x, ())).bind
        fun (v1 : Unit × Bool × (Int × Int × Int × List UInt8 × List UInt8 × List UInt8 × List UInt8 × Unit) × Unit) =>
        (if v1.2.1 = false then some ((), decide (300 < (↑v1.2.2.1.2.2.2.2.2.1.length : Int)), v1.2.2.1, ()) else some ((), true, v1.2.2.1, ())).bind
          fun (v2 : Unit × Bool × (Int × Int × Int × List UInt8 × List UInt8 × List UInt8 × List UInt8 × Unit) × Unit) =>
          (if v2.2.1 = false then some ((), decide (300 < (↑v2.2.2.1.2.2.2.2.2.2.1.length : Int)), v2.2.2.1, ()) else some ((), true, v2.2.2.1, ())).bind
            fun (v3 : Unit × Bool × (Int × Int × Int × List UInt8 × List UInt8 × List UInt8 × List UInt8 × Unit) × Unit) =>
            if v3.2.1 = true then some true
            else
              (M_head_Print F v3.2.2.1).bind fun (v4 : List UInt8 × Int) =>
                (M_conciergeref38_Print F v3.2.2.1).bind fun (v5 : List UInt8 × Int) =>
                  (if (!decide (v4.1 = v5.1)) = false then some ((), v4.1, v5.2, !decide (v4.2 = v5.2), v3.2.2.1, ())
                      else some ((), v4.1, v5.2, true, v3.2.2.1, ())).bind
                    fun (v6 : Unit × List UInt8 × Int × Bool × (Int × Int × Int × List UInt8 × List UInt8 × List UInt8 × List UInt8 × Unit) × Unit) =>
                    if v6.2.2.2.1 = true then some false
                    else
                      if (!decide (v6.2.2.1 = 0)) = true then some true
                      else
                        (M_head_Parse F v6.2.1).bind fun (v7 : (Int × Int × Int × List UInt8 × List UInt8 × List UInt8 × List UInt8 × Unit) × Int) =>
                          (if decide (v7.2 = 0) = true then
                                some
                                  (decide (v7.1.1 = v6.2.2.2.2.1.1) &&
                                      (decide (v7.1.2.1 = v6.2.2.2.2.1.2.1) &&
                                        (decide (v7.1.2.2.1 = v6.2.2.2.2.1.2.2.1) &&
                                          (decide (v7.1.2.2.2.1 = v6.2.2.2.2.1.2.2.2.1) &&
                                            (decide (v7.1.2.2.2.2.1 = v6.2.2.2.2.1.2.2.2.2.1) &&
                                              (decide (v7.1.2.2.2.2.2.1 = v6.2.2.2.2.1.2.2.2.2.2.1) &&
                                                (decide (v7.1.2.2.2.2.2.2.1 = v6.2.2.2.2.1.2.2.2.2.2.2.1) && true)))))),
                                    ())
                              else some (false, ())).bind
                            fun (v8 : Bool × Unit) => some v8.1
theorem t_conciergelaw38_HeadBack (x : ((Int) × (Int) × (Int) × (List UInt8) × (List UInt8) × (List UInt8) × (List UInt8) × Unit)) (F : Nat) : fnRun TT Tryd.prog (e_conciergelaw38_HeadBack F) s_conciergelaw38_HeadBack (bodyOf 7) F x = M_conciergelaw38_HeadBack F x := by kernel_rfl
theorem c_conciergelaw38_HeadBack (F : Nat) : Ctr TT Tryd.prog 7 (conOf TT s_conciergelaw38_HeadBack (M_conciergelaw38_HeadBack F)) :=
  ctr_of (code := bodyOf 7) Tryd.func7 (by kernel_rfl) (by kernel_rfl) (by kernel_rfl) (by kernel_rfl) (envS_ok (envS_ok (envS_ok (envS_ok envN_ok (c_conciergelaw38_awake F)) (c_head_Print F)) (c_conciergeref38_Print F)) (c_head_Parse F)) hm (by kernel_rfl) (fun x r h => ⟨F, (t_conciergelaw38_HeadBack x F).trans h⟩)
noncomputable def s_conciergelaw38_HeadTurned : Spec Kd := { params := [(.agg [(.int .i64), (.int .i64), (.int .i64), .str, .str, .str, .str])], ret := (.one (.a .bool)), pins := [], pl := { nt := 73, cuts := [(10, [(7, ⟨[.tmp 72 (.a .bool)], [], []⟩)]), (8, [(23, ⟨[.tmp 1 (.a (.ptr 64 0)), .tmp 5 (.a .str), .box 64 (.cells 37 [(.int .i64), (.int .i64), (.int .i64), .str, .str, .str, .str])], [], []⟩)]), (3, [(10, ⟨[.tmp 1 (.a (.ptr 64 0)), .tmp 19 (.a .bool), .box 64 (.cells 37 [(.int .i64), (.int .i64), (.int .i64), .str, .str, .str, .str])], [], []⟩), (6, ⟨[.tmp 1 (.a (.ptr 64 0)), .tmp 25 (.a .bool), .box 64 (.cells 37 [(.int .i64), (.int .i64), (.int .i64), .str, .str, .str, .str])], [], []⟩), (6, ⟨[.tmp 1 (.a (.ptr 64 0)), .tmp 31 (.a .bool), .box 64 (.cells 37 [(.int .i64), (.int .i64), (.int .i64), .str, .str, .str, .str])], [], []⟩)])] }, rfrz := [], ts := [2] }
noncomputable def e_conciergelaw38_HeadTurned (F : Nat) : Env El := (envS 15 (conOf TT s_head_Parse (M_head_Parse F)) (envS 23 (conOf TT s_conciergeref38_Print (M_conciergeref38_Print F)) (envS 14 (conOf TT s_conciergelaw38_awake (M_conciergelaw38_awake F)) envN)))
noncomputable def M_conciergelaw38_HeadTurned (F : Nat) (x : ((Int) × (Int) × (Int) × (List UInt8) × (List UInt8) × (List UInt8) × (List UInt8) × Unit)) : Option (Bool) :=
  (M_conciergelaw38_awake F ()).bind fun (v0 : Bool) =>
    if (!v0) = true then some false
    else
      (if decide (60 < (↑x.2.2.2.1.length : Int)) = false then some ((), decide (60 < (↑x.2.2.2.2.1.length : Int)), x, ()) else some ((), true, x, ())).bind
        fun (v1 : Unit × Bool × (Int × Int × Int × List UInt8 × List UInt8 × List UInt8 × List UInt8 × Unit) × Unit) =>
        (if v1.2.1 = false then some ((), decide (60 < (↑v1.2.2.1.2.2.2.2.2.1.length : Int)), v1.2.2.1, ()) else some ((), true, v1.2.2.1, ())).bind
          fun (v2 : Unit × Bool × (Int × Int × Int × List UInt8 × List UInt8 × List UInt8 × List UInt8 × Unit) × Unit) =>
          (if v2.2.1 = false then some ((), decide (100 < (↑v2.2.2.1.2.2.2.2.2.2.1.length : Int)), v2.2.2.1, ()) else some ((), true, v2.2.2.1, ())).bind
            fun (v3 : Unit × Bool × (Int × Int × Int × List UInt8 × List UInt8 × List UInt8 × List UInt8 × Unit) × Unit) =>
            if v3.2.1 = true then some true
            else
              (M_conciergeref38_Print F v3.2.2.1).bind fun (v4 : List UInt8 × Int) =>
                if (!decide (v4.2 = 0)) = true then some true
                else
                  (if decide (v3.2.2.1.2.2.2.2.1.length + [32].length ≤ 9223372036854775807) = true then
                        if decide ((v3.2.2.1.2.2.2.2.1 ++ [32]).length + v3.2.2.1.2.2.2.2.2.1.length ≤ 9223372036854775807) = true then
                          if
                              decide
                                  ((v3.2.2.1.2.2.2.2.1 ++ [32] ++ v3.2.2.1.2.2.2.2.2.1).length + [13, 10, 84, 69, 78, 65, 78, 84, 58].length ≤
                                    9223372036854775807) =
                                true then
                            if
                                decide
                                    ((v3.2.2.1.2.2.2.2.1 ++ [32] ++ v3.2.2.1.2.2.2.2.2.1 ++ [13, 10, 84, 69, 78, 65, 78, 84, 58]).length +
                                        [UInt8.ofNat (IntKind.u8.wrap (IntKind.i64.wrap (48 + v3.2.2.1.2.2.1))).toNat].length ≤
                                      9223372036854775807) =
                                  true then
                              if
                                  decide
                                      ((v3.2.2.1.2.2.2.2.1 ++ [32] ++ v3.2.2.1.2.2.2.2.2.1 ++ [13, 10, 84, 69, 78, 65, 78, 84, 58] ++
                                              [UInt8.ofNat (IntKind.u8.wrap (IntKind.i64.wrap (48 + v3.2.2.1.2.2.1))).toNat]).length +
                                          [9, 13, 10, 73, 100, 101, 109, 112, 111, 116, 101, 110, 99, 121, 45, 75, 69, 89, 58, 32, 9].length ≤
                                        9223372036854775807) =
                                    true then
                                if
                                    decide
                                        ((v3.2.2.1.2.2.2.2.1 ++ [32] ++ v3.2.2.1.2.2.2.2.2.1 ++ [13, 10, 84, 69, 78, 65, 78, 84, 58] ++
                                                  [UInt8.ofNat (IntKind.u8.wrap (IntKind.i64.wrap (48 + v3.2.2.1.2.2.1))).toNat] ++
                                                [9, 13, 10, 73, 100, 101, 109, 112, 111, 116, 101, 110, 99, 121, 45, 75, 69, 89, 58, 32, 9]).length +
                                            v3.2.2.1.2.2.2.1.length ≤
                                          9223372036854775807) =
                                      true then
                                  if
                                      decide
                                          ((v3.2.2.1.2.2.2.2.1 ++ [32] ++ v3.2.2.1.2.2.2.2.2.1 ++ [13, 10, 84, 69, 78, 65, 78, 84, 58] ++
                                                      [UInt8.ofNat (IntKind.u8.wrap (IntKind.i64.wrap (48 + v3.2.2.1.2.2.1))).toNat] ++
                                                    [9, 13, 10, 73, 100, 101, 109, 112, 111, 116, 101, 110, 99, 121, 45, 75, 69, 89, 58, 32, 9] ++
                                                  v3.2.2.1.2.2.2.1).length +
                                              [32, 32, 13, 10, 13, 10].length ≤
                                            9223372036854775807) =
                                        true then
                                    if
                                        decide
                                            ((v3.2.2.1.2.2.2.2.1 ++ [32] ++ v3.2.2.1.2.2.2.2.2.1 ++ [13, 10, 84, 69, 78, 65, 78, 84, 58] ++
                                                          [UInt8.ofNat (IntKind.u8.wrap (IntKind.i64.wrap (48 + v3.2.2.1.2.2.1))).toNat] ++
                                                        [9, 13, 10, 73, 100, 101, 109, 112, 111, 116, 101, 110, 99, 121, 45, 75, 69, 89, 58, 32, 9] ++
                                                      v3.2.2.1.2.2.2.1 ++
                                                    [32, 32, 13, 10, 13, 10]).length +
                                                v3.2.2.1.2.2.2.2.2.2.1.length ≤
                                              9223372036854775807) =
                                          true then
                                      some
                                        ((),
                                          v3.2.2.1.2.2.2.2.1 ++ [32] ++ v3.2.2.1.2.2.2.2.2.1 ++ [13, 10, 84, 69, 78, 65, 78, 84, 58] ++
                                                    [UInt8.ofNat (IntKind.u8.wrap (IntKind.i64.wrap (48 + v3.2.2.1.2.2.1))).toNat] ++
                                                  [9, 13, 10, 73, 100, 101, 109, 112, 111, 116, 101, 110, 99, 121, 45, 75, 69, 89, 58, 32, 9] ++
                                                v3.2.2.1.2.2.2.1 ++
                                              [32, 32, 13, 10, 13, 10] ++
                                            v3.2.2.1.2.2.2.2.2.2.1,
                                          v3.2.2.1, ())
                                    else none
                                  else none
                                else none
                              else none
                            else none
                          else none
                        else none
                      else none).bind
                    fun (v5 : Unit × List UInt8 × (Int × Int × Int × List UInt8 × List UInt8 × List UInt8 × List UInt8 × Unit) × Unit) =>
                    (M_head_Parse F v5.2.1).bind fun (v6 : (Int × Int × Int × List UInt8 × List UInt8 × List UInt8 × List UInt8 × Unit) × Int) =>
                      (if decide (v6.2 = 0) = true then
                            some
                              (decide (v6.1.1 = v5.2.2.1.1) &&
                                  (decide (v6.1.2.1 = v5.2.2.1.2.1) &&
                                    (decide (v6.1.2.2.1 = v5.2.2.1.2.2.1) &&
                                      (decide (v6.1.2.2.2.1 = v5.2.2.1.2.2.2.1) &&
                                        (decide (v6.1.2.2.2.2.1 = v5.2.2.1.2.2.2.2.1) &&
                                          (decide (v6.1.2.2.2.2.2.1 = v5.2.2.1.2.2.2.2.2.1) &&
                                            (decide (v6.1.2.2.2.2.2.2.1 = v5.2.2.1.2.2.2.2.2.2.1) && true)))))),
                                ())
                          else some (false, ())).bind
                        fun (v7 : Bool × Unit) => some v7.1
theorem t_conciergelaw38_HeadTurned (x : ((Int) × (Int) × (Int) × (List UInt8) × (List UInt8) × (List UInt8) × (List UInt8) × Unit)) (F : Nat) : fnRun TT Tryd.prog (e_conciergelaw38_HeadTurned F) s_conciergelaw38_HeadTurned (bodyOf 6) F x = M_conciergelaw38_HeadTurned F x := by kernel_rfl
theorem c_conciergelaw38_HeadTurned (F : Nat) : Ctr TT Tryd.prog 6 (conOf TT s_conciergelaw38_HeadTurned (M_conciergelaw38_HeadTurned F)) :=
  ctr_of (code := bodyOf 6) Tryd.func6 (by kernel_rfl) (by kernel_rfl) (by kernel_rfl) (by kernel_rfl) (envS_ok (envS_ok (envS_ok envN_ok (c_conciergelaw38_awake F)) (c_conciergeref38_Print F)) (c_head_Parse F)) hm (by kernel_rfl) (fun x r h => ⟨F, (t_conciergelaw38_HeadTurned x F).trans h⟩)
end Go.Vm
