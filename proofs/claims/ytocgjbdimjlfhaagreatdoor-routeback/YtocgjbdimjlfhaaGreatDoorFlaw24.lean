/- Models of functions of the program, and that each keeps its contract: for all arguments of its shape. No condition. -/
import Derived.Test.YtocgjbdimjlfhaaGreatDoorKt
import Derived.Test.YtocgjbdimjlfhaaGreatDoorFroute
import Derived.Test.YtocgjbdimjlfhaaGreatDoorFref24
import Derived.Test.YtocgjbdimjlfhaaGreatDoorFlaw23s
namespace Go.Vm
open Go.Proofs
set_option linter.unusedVariables false
noncomputable def s_conciergelaw24_awake : Spec Kd := { params := [], ret := (.one (.a .bool)), pins := [], pl := { nt := 32, cuts := [(3, [(7, ⟨[.tmp 1 (.a (.slc .rl)), .tmp 16 (.a .bool)], [], []⟩), (5, ⟨[.tmp 1 (.a (.slc .rl)), .tmp 21 (.a .bool)], [], []⟩), (5, ⟨[.tmp 1 (.a (.slc .rl)), .tmp 26 (.a .bool)], [], []⟩), (5, ⟨[.tmp 31 (.a .bool)], [], []⟩)])] }, rfrz := [], ts := [0] }
noncomputable def e_conciergelaw24_awake (F : Nat) : Env El := (envS 30 (conOf TT s_route_Find (M_route_Find F)) (envS 28 (conOf TT s_conciergeref24_Standard (M_conciergeref24_Standard F)) (envS 21 (conOf TT s_route_Print (M_route_Print F)) (envS 29 (conOf TT s_route_Standard (M_route_Standard F)) envN))))
noncomputable def M_conciergelaw24_awake (F : Nat) (x : Unit) : Option (Bool) :=
  (M_route_Standard F ()).bind fun (v0 : List (List UInt8 × List UInt8 × List (Int × List UInt8 × Int × List UInt8 × Unit) × Unit)) =>
    (M_route_Print F v0).bind fun (v1 : List UInt8 × Int) =>
      (if decide (v1.2 = 0) = true then (M_conciergeref24_Standard F ()).bind fun (v2 : List UInt8) => some (v0, decide (v1.1 = v2), ())
          else some (v0, false, ())).bind
        fun (v3 : List (List UInt8 × List UInt8 × List (Int × List UInt8 × Int × List UInt8 × Unit) × Unit) × Bool × Unit) =>
        (if v3.2.1 = true then (M_route_Find F (v3.1, [80, 79, 83, 84], [47, 110, 111, 116, 101, 47, 97])).bind fun (v4 : Int) => some (v3.1, decide (v4 = 1), ())
            else some (v3.1, false, ())).bind
          fun (v5 : List (List UInt8 × List UInt8 × List (Int × List UInt8 × Int × List UInt8 × Unit) × Unit) × Bool × Unit) =>
          (if v5.2.1 = true then (M_route_Find F (v5.1, [71, 69, 84], [47, 110, 111, 116, 101, 47, 97])).bind fun (v6 : Int) => some (v5.1, decide (v6 = 2), ())
              else some (v5.1, false, ())).bind
            fun (v7 : List (List UInt8 × List UInt8 × List (Int × List UInt8 × Int × List UInt8 × Unit) × Unit) × Bool × Unit) =>
            (if v7.2.1 = true then (M_route_Find F (v7.1, [71, 69, 84], [47])).bind fun (v8 : Int) => some (decide (v8 < 0), ()) else some (false, ())).bind
              fun (v9 : Bool × Unit) => some v9.1
theorem t_conciergelaw24_awake (x : Unit) (F : Nat) : fnRun TT Tryz.prog (e_conciergelaw24_awake F) s_conciergelaw24_awake (bodyOf 15) F x = M_conciergelaw24_awake F x := by kernel_rfl
theorem c_conciergelaw24_awake (F : Nat) : Ctr TT Tryz.prog 15 (conOf TT s_conciergelaw24_awake (M_conciergelaw24_awake F)) :=
  ctr_of (code := bodyOf 15) Tryz.func15 (by kernel_rfl) (by kernel_rfl) (by kernel_rfl) (by kernel_rfl) (envS_ok (envS_ok (envS_ok (envS_ok envN_ok (c_route_Standard F)) (c_route_Print F)) (c_conciergeref24_Standard F)) (c_route_Find F)) hm (by kernel_rfl) (fun x r h => ⟨F, (t_conciergelaw24_awake x F).trans h⟩)
noncomputable def s_conciergelaw24_Small : Spec Kd := { params := [(.a (.slc .rl))], ret := (.one (.a .bool)), pins := [], pl := { nt := 31, loops := [(0, ⟨[.tmp 8 (.a (.slc .rl)), .tmp 9 (.a (.int .i64)), .tmp 10 (.a (.int .i64))], [], []⟩, (.exit 0, ⟨[], [], []⟩), [(.ret, ⟨[.tmp 2 (.a .bool)], [], []⟩)])], cuts := [(6, [(10, ⟨[.tmp 4 (.a (.ptr 256 0)), .tmp 8 (.a (.slc .rl)), .tmp 9 (.a (.int .i64)), .tmp 10 (.a (.int .i64)), .tmp 23 (.a .bool), .box 256 (.cells 41 [.str, .str, (.slc .ph)])], [], [.cellSlc 256 2 .ph]⟩), (6, ⟨[.tmp 8 (.a (.slc .rl)), .tmp 9 (.a (.int .i64)), .tmp 10 (.a (.int .i64)), .tmp 29 (.a .bool)], [], []⟩)])] }, rfrz := [], ts := [2] }
noncomputable def e_conciergelaw24_Small (F : Nat) : Env El := (envS 58 (conOf TT s_conciergelaw23_Small (M_conciergelaw23_Small F)) envN)
noncomputable def M_conciergelaw24_Small_l0 (F : Nat) (v0 : (List (List UInt8 × List UInt8 × List (Int × List UInt8 × Int × List UInt8 × Unit) × Unit) × Int × Int × Unit)) : Option ((List (List UInt8 × List UInt8 × List (Int × List UInt8 × Int × List UInt8 × Unit) × Unit) × Int × Int × Unit) ⊕ (Unit ⊕ Bool × Unit)) :=
  if decide (v0.2.2.1 < v0.2.1) = true then
            (idx v0.1 v0.2.2.1).bind fun (v1 : List UInt8 × List UInt8 × List (Int × List UInt8 × Int × List UInt8 × Unit) × Unit) =>
              (if decide (100 < (↑v1.1.length : Int)) = false then
                    some ((), v0.1, v0.2.1, v0.2.2.1, decide (100 < (↑v1.2.1.length : Int)), (v1.1, v1.2.1, v1.2.2.1, ()), ())
                  else some ((), v0.1, v0.2.1, v0.2.2.1, true, (v1.1, v1.2.1, v1.2.2.1, ()), ())).bind
                fun
                  (v2 :
                    Unit ×
                      List (List UInt8 × List UInt8 × List (Int × List UInt8 × Int × List UInt8 × Unit) × Unit) ×
                        Int × Int × Bool × (List UInt8 × List UInt8 × List (Int × List UInt8 × Int × List UInt8 × Unit) × Unit) × Unit) =>
                (if v2.2.2.2.2.1 = false then
                      (M_conciergelaw23_Small F v2.2.2.2.2.2.1.2.2.1).bind fun (v3 : Bool) => some (v2.2.1, v2.2.2.1, v2.2.2.2.1, !v3, ())
                    else some (v2.2.1, v2.2.2.1, v2.2.2.2.1, true, ())).bind
                  fun (v4 : List (List UInt8 × List UInt8 × List (Int × List UInt8 × Int × List UInt8 × Unit) × Unit) × Int × Int × Bool × Unit) =>
                  if v4.2.2.2.1 = true then some (Sum.inr (Sum.inr (false, ()))) else some (Sum.inl (v4.1, v4.2.1, IntKind.i64.wrap (v4.2.2.1 + 1), ()))
          else some (Sum.inr (Sum.inl ()))
noncomputable def M_conciergelaw24_Small (F : Nat) (x : (List (El .rl))) : Option (Bool) :=
  if decide (10 < (↑x.length : Int)) = true then some false
  else
    (loopM (M_conciergelaw24_Small_l0 F)
          F (x, (↑x.length : Int), 0, ())).bind
      fun (v5 : Unit ⊕ Bool × Unit) => sumC v5 (fun (v6 : Unit) => some true) fun (v7 : Bool × Unit) => some v7.1
theorem t_conciergelaw24_Small (x : (List (El .rl))) (F : Nat) : fnRun TT Tryz.prog (e_conciergelaw24_Small F) s_conciergelaw24_Small (bodyOf 20) F x = M_conciergelaw24_Small F x := by kernel_rfl
theorem c_conciergelaw24_Small (F : Nat) : Ctr TT Tryz.prog 20 (conOf TT s_conciergelaw24_Small (M_conciergelaw24_Small F)) :=
  ctr_of (code := bodyOf 20) Tryz.func20 (by kernel_rfl) (by kernel_rfl) (by kernel_rfl) (by kernel_rfl) (envS_ok envN_ok (c_conciergelaw23_Small F)) hm (by kernel_rfl) (fun x r h => ⟨F, (t_conciergelaw24_Small x F).trans h⟩)
noncomputable def s_conciergelaw24_RouteBack : Spec Kd := { params := [(.a (.slc .rl))], ret := (.one (.a .bool)), pins := [], pl := { nt := 57, cuts := [(9, [(8, ⟨[.tmp 0 (.a (.slc .rl)), .tmp 5 (.a (.slc .rl)), .tmp 6 (.a (.int .i64)), .tmp 43 (.a .bool)], [2113], []⟩), (4, ⟨[.tmp 0 (.a (.slc .rl)), .tmp 5 (.a (.slc .rl)), .tmp 6 (.a (.int .i64)), .tmp 47 (.a .bool)], [2113], []⟩), (4, ⟨[.tmp 0 (.a (.slc .rl)), .tmp 5 (.a (.slc .rl)), .tmp 51 (.a .bool)], [2113], []⟩), (5, ⟨[.tmp 56 (.a .bool)], [2113], []⟩)]), (7, [(6, ⟨[.tmp 0 (.a (.slc .rl)), .tmp 25 (.a .bool)], [2113], []⟩), (5, ⟨[.tmp 30 (.a .bool)], [2113], []⟩)])] }, rfrz := [], ts := [2] }
noncomputable def e_conciergelaw24_RouteBack (F : Nat) : Env El := (envS 26 (conOf TT s_conciergeref24_Same (M_conciergeref24_Same F)) (envS 25 (conOf TT s_conciergeref24_Print (M_conciergeref24_Print F)) (envS 24 (conOf TT s_route_Parse (M_route_Parse F)) (envS 23 (conOf TT s_route_May (M_route_May F)) (envS 22 (conOf TT s_conciergeref24_May (M_conciergeref24_May F)) (envS 21 (conOf TT s_route_Print (M_route_Print F)) (envS 20 (conOf TT s_conciergelaw24_Small (M_conciergelaw24_Small F)) (envS 15 (conOf TT s_conciergelaw24_awake (M_conciergelaw24_awake F)) envN))))))))
noncomputable def M_conciergelaw24_RouteBack (F : Nat) (x : (List (El .rl))) : Option (Bool) :=
  (M_conciergelaw24_awake F ()).bind fun (v0 : Bool) =>
    if (!v0) = true then some false
    else
      (M_conciergelaw24_Small F x).bind fun (v1 : Bool) =>
        if (!v1) = true then some true
        else
          (M_route_Print F x).bind fun (v2 : List UInt8 × Int) =>
            (M_conciergeref24_May F x).bind fun (v3 : Bool) =>
              if (!v3) = true then
                (if decide (v2.2 = 1) = true then some (x, decide (v2.1 = []), ()) else some (x, false, ())).bind
                  fun (v4 : List (List UInt8 × List UInt8 × List (Int × List UInt8 × Int × List UInt8 × Unit) × Unit) × Bool × Unit) =>
                  (if v4.2.1 = true then (M_route_May F v4.1).bind fun (v5 : Bool) => some (!v5, ()) else some (false, ())).bind fun (v6 : Bool × Unit) =>
                    some v6.1
              else
                (M_route_Parse F v2.1).bind fun (v7 : List (List UInt8 × List UInt8 × List (Int × List UInt8 × Int × List UInt8 × Unit) × Unit) × Int) =>
                  (if decide (v2.2 = 0) = true then (M_conciergeref24_Print F x).bind fun (v8 : List UInt8) => some (x, v7.1, v7.2, decide (v2.1 = v8), ())
                      else some (x, v7.1, v7.2, false, ())).bind
                    fun
                      (v9 :
                        List (List UInt8 × List UInt8 × List (Int × List UInt8 × Int × List UInt8 × Unit) × Unit) ×
                          List (List UInt8 × List UInt8 × List (Int × List UInt8 × Int × List UInt8 × Unit) × Unit) × Int × Bool × Unit) =>
                    (if v9.2.2.2.1 = true then (M_route_May F v9.1).bind fun (v10 : Bool) => some (v9.1, v9.2.1, v9.2.2.1, v10, ())
                        else some (v9.1, v9.2.1, v9.2.2.1, false, ())).bind
                      fun
                        (v11 :
                          List (List UInt8 × List UInt8 × List (Int × List UInt8 × Int × List UInt8 × Unit) × Unit) ×
                            List (List UInt8 × List UInt8 × List (Int × List UInt8 × Int × List UInt8 × Unit) × Unit) × Int × Bool × Unit) =>
                      (if v11.2.2.2.1 = true then some (v11.1, v11.2.1, decide (v11.2.2.1 = 0), ()) else some (v11.1, v11.2.1, false, ())).bind
                        fun
                          (v12 :
                            List (List UInt8 × List UInt8 × List (Int × List UInt8 × Int × List UInt8 × Unit) × Unit) ×
                              List (List UInt8 × List UInt8 × List (Int × List UInt8 × Int × List UInt8 × Unit) × Unit) × Bool × Unit) =>
                        (if v12.2.2.1 = true then (M_conciergeref24_Same F (v12.2.1, v12.1)).bind fun (v13 : Bool) => some (v13, ()) else some (false, ())).bind
                          fun (v14 : Bool × Unit) => some v14.1
theorem t_conciergelaw24_RouteBack (x : (List (El .rl))) (F : Nat) : fnRun TT Tryz.prog (e_conciergelaw24_RouteBack F) s_conciergelaw24_RouteBack (bodyOf 4) F x = M_conciergelaw24_RouteBack F x := by kernel_rfl
theorem c_conciergelaw24_RouteBack (F : Nat) : Ctr TT Tryz.prog 4 (conOf TT s_conciergelaw24_RouteBack (M_conciergelaw24_RouteBack F)) :=
  ctr_of (code := bodyOf 4) Tryz.func4 (by kernel_rfl) (by kernel_rfl) (by kernel_rfl) (by kernel_rfl) (envS_ok (envS_ok (envS_ok (envS_ok (envS_ok (envS_ok (envS_ok (envS_ok envN_ok (c_conciergelaw24_awake F)) (c_conciergelaw24_Small F)) (c_route_Print F)) (c_conciergeref24_May F)) (c_route_May F)) (c_route_Parse F)) (c_conciergeref24_Print F)) (c_conciergeref24_Same F)) hm (by kernel_rfl) (fun x r h => ⟨F, (t_conciergelaw24_RouteBack x F).trans h⟩)
noncomputable def s_conciergelaw24_RouteFinds : Spec Kd := { params := [(.a (.slc .rl)), (.a .str), (.a .str)], ret := (.one (.a .bool)), pins := [], pl := { nt := 108, loops := [(0, ⟨[.tmp 0 (.a (.slc .rl)), .tmp 1 (.a .str), .tmp 2 (.a .str), .tmp 9 (.a (.int .i64)), .tmp 62 (.a (.slc .rl)), .tmp 63 (.a (.int .i64)), .tmp 64 (.a (.int .i64))], [1921], []⟩, (.exit 0, ⟨[.tmp 0 (.a (.slc .rl)), .tmp 9 (.a (.int .i64))], [1921], []⟩), [(.ret, ⟨[.tmp 6 (.a .bool)], [1921], []⟩)])], cuts := [(15, [(10, ⟨[.tmp 0 (.a (.slc .rl)), .tmp 1 (.a .str), .tmp 2 (.a .str), .tmp 9 (.a (.int .i64)), .tmp 10 (.a (.int .i64)), .tmp 12 (.a .bool), .tmp 62 (.a (.slc .rl)), .tmp 63 (.a (.int .i64)), .tmp 64 (.a (.int .i64)), .tmp 93 (.a .bool)], [1921], []⟩), (9, ⟨[.tmp 0 (.a (.slc .rl)), .tmp 1 (.a .str), .tmp 2 (.a .str), .tmp 9 (.a (.int .i64)), .tmp 62 (.a (.slc .rl)), .tmp 63 (.a (.int .i64)), .tmp 64 (.a (.int .i64)), .tmp 102 (.a .bool)], [1921], []⟩)]), (14, [(9, ⟨[.tmp 0 (.a (.slc .rl)), .tmp 1 (.a .str), .tmp 2 (.a .str), .tmp 9 (.a (.int .i64)), .tmp 10 (.a (.int .i64)), .tmp 11 (.a (.ptr 704 0)), .tmp 62 (.a (.slc .rl)), .tmp 63 (.a (.int .i64)), .tmp 64 (.a (.int .i64)), .tmp 77 (.a .bool), .box 704 (.cells 41 [.str, .str, (.slc .ph)])], [1921], [.cellSlc 704 2 .ph]⟩), (6, ⟨[.tmp 0 (.a (.slc .rl)), .tmp 1 (.a .str), .tmp 2 (.a .str), .tmp 9 (.a (.int .i64)), .tmp 10 (.a (.int .i64)), .tmp 62 (.a (.slc .rl)), .tmp 63 (.a (.int .i64)), .tmp 64 (.a (.int .i64)), .tmp 83 (.a .bool)], [1921], []⟩)]), (6, [(8, ⟨[.tmp 0 (.a (.slc .rl)), .tmp 1 (.a .str), .tmp 2 (.a .str), .tmp 7 (.a (.slc .rl)), .tmp 40 (.a .bool)], [1921], []⟩), (11, ⟨[.tmp 0 (.a (.slc .rl)), .tmp 1 (.a .str), .tmp 2 (.a .str), .tmp 51 (.a .bool)], [1921], []⟩)]), (3, [(8, ⟨[.tmp 0 (.a (.slc .rl)), .tmp 1 (.a .str), .tmp 2 (.a .str), .tmp 22 (.a .bool)], [1921], []⟩), (5, ⟨[.tmp 0 (.a (.slc .rl)), .tmp 1 (.a .str), .tmp 2 (.a .str), .tmp 27 (.a .bool)], [1921], []⟩)])] }, rfrz := [], ts := [6] }
noncomputable def e_conciergelaw24_RouteFinds (F : Nat) : Env El := (envS 18 (conOf TT s_route_Fits (M_route_Fits F)) (envS 31 (conOf TT s_conciergeref24_Find (M_conciergeref24_Find F)) (envS 30 (conOf TT s_route_Find (M_route_Find F)) (envS 26 (conOf TT s_conciergeref24_Same (M_conciergeref24_Same F)) (envS 29 (conOf TT s_route_Standard (M_route_Standard F)) (envS 27 (conOf TT s_conciergeref24_Parse (M_conciergeref24_Parse F)) (envS 28 (conOf TT s_conciergeref24_Standard (M_conciergeref24_Standard F)) (envS 20 (conOf TT s_conciergelaw24_Small (M_conciergelaw24_Small F)) (envS 15 (conOf TT s_conciergelaw24_awake (M_conciergelaw24_awake F)) envN)))))))))
noncomputable def M_conciergelaw24_RouteFinds_l0 (F : Nat) (v14 : (List (List UInt8 × List UInt8 × List (Int × List UInt8 × Int × List UInt8 × Unit) × Unit) ×
                                  List UInt8 ×
                                    List UInt8 ×
                                      Int × List (List UInt8 × List UInt8 × List (Int × List UInt8 × Int × List UInt8 × Unit) × Unit) × Int × Int × Unit)) : Option ((List (List UInt8 × List UInt8 × List (Int × List UInt8 × Int × List UInt8 × Unit) × Unit) ×
                                  List UInt8 ×
                                    List UInt8 ×
                                      Int × List (List UInt8 × List UInt8 × List (Int × List UInt8 × Int × List UInt8 × Unit) × Unit) × Int × Int × Unit) ⊕ (List (List UInt8 × List UInt8 × List (Int × List UInt8 × Int × List UInt8 × Unit) × Unit) × Int × Unit ⊕ Bool × Unit)) :=
  if decide (v14.2.2.2.2.2.2.1 < v14.2.2.2.2.2.1) = true then
                                    (idx v14.2.2.2.2.1 v14.2.2.2.2.2.2.1).bind
                                      fun (v15 : List UInt8 × List UInt8 × List (Int × List UInt8 × Int × List UInt8 × Unit) × Unit) =>
                                      (if decide (v15.1 = v14.2.1) = false then
                                            some
                                              (v14.1, v14.2.1, v14.2.2.1, v14.2.2.2.1, v14.2.2.2.2.2.2.1, (), v14.2.2.2.2.1, v14.2.2.2.2.2.1, v14.2.2.2.2.2.2.1,
                                                decide (v15.1 = [42]), (v15.1, v15.2.1, v15.2.2.1, ()), ())
                                          else
                                            some
                                              (v14.1, v14.2.1, v14.2.2.1, v14.2.2.2.1, v14.2.2.2.2.2.2.1, (), v14.2.2.2.2.1, v14.2.2.2.2.2.1, v14.2.2.2.2.2.2.1,
                                                true, (v15.1, v15.2.1, v15.2.2.1, ()), ())).bind
                                        fun
                                          (v16 :
                                            List (List UInt8 × List UInt8 × List (Int × List UInt8 × Int × List UInt8 × Unit) × Unit) ×
                                              List UInt8 ×
                                                List UInt8 ×
                                                  Int ×
                                                    Int ×
                                                      Unit ×
                                                        List (List UInt8 × List UInt8 × List (Int × List UInt8 × Int × List UInt8 × Unit) × Unit) ×
                                                          Int ×
                                                            Int ×
                                                              Bool ×
                                                                (List UInt8 × List UInt8 × List (Int × List UInt8 × Int × List UInt8 × Unit) × Unit) ×
                                                                  Unit) =>
                                        (if v16.2.2.2.2.2.2.2.2.2.1 = true then
                                              (M_route_Fits F (v16.2.2.2.2.2.2.2.2.2.2.1.2.1, v16.2.2.1)).bind fun (v17 : Bool) =>
                                                some
                                                  (v16.1, v16.2.1, v16.2.2.1, v16.2.2.2.1, v16.2.2.2.2.1, v16.2.2.2.2.2.2.1, v16.2.2.2.2.2.2.2.1,
                                                    v16.2.2.2.2.2.2.2.2.1, v17, ())
                                            else
                                              some
                                                (v16.1, v16.2.1, v16.2.2.1, v16.2.2.2.1, v16.2.2.2.2.1, v16.2.2.2.2.2.2.1, v16.2.2.2.2.2.2.2.1,
                                                  v16.2.2.2.2.2.2.2.2.1, false, ())).bind
                                          fun
                                            (v18 :
                                              List (List UInt8 × List UInt8 × List (Int × List UInt8 × Int × List UInt8 × Unit) × Unit) ×
                                                List UInt8 ×
                                                  List UInt8 ×
                                                    Int ×
                                                      Int ×
                                                        List (List UInt8 × List UInt8 × List (Int × List UInt8 × Int × List UInt8 × Unit) × Unit) ×
                                                          Int × Int × Bool × Unit) =>
                                          (if v18.2.2.2.2.2.2.2.2.1 = true then
                                                if decide (v18.2.2.2.1 < 0) = false then
                                                  some
                                                    (v18.1, v18.2.1, v18.2.2.1, v18.2.2.2.1, v18.2.2.2.2.1, v18.2.2.2.2.2.2.2.2.1, v18.2.2.2.2.2.1,
                                                      v18.2.2.2.2.2.2.1, v18.2.2.2.2.2.2.2.1, decide (v18.2.2.2.2.1 < v18.2.2.2.1), ())
                                                else
                                                  some
                                                    (v18.1, v18.2.1, v18.2.2.1, v18.2.2.2.1, v18.2.2.2.2.1, v18.2.2.2.2.2.2.2.2.1, v18.2.2.2.2.2.1,
                                                      v18.2.2.2.2.2.2.1, v18.2.2.2.2.2.2.2.1, true, ())
                                              else
                                                some
                                                  (v18.1, v18.2.1, v18.2.2.1, v18.2.2.2.1, v18.2.2.2.2.1, v18.2.2.2.2.2.2.2.2.1, v18.2.2.2.2.2.1,
                                                    v18.2.2.2.2.2.2.1, v18.2.2.2.2.2.2.2.1, false, ())).bind
                                            fun
                                              (v19 :
                                                List (List UInt8 × List UInt8 × List (Int × List UInt8 × Int × List UInt8 × Unit) × Unit) ×
                                                  List UInt8 ×
                                                    List UInt8 ×
                                                      Int ×
                                                        Int ×
                                                          Bool ×
                                                            List (List UInt8 × List UInt8 × List (Int × List UInt8 × Int × List UInt8 × Unit) × Unit) ×
                                                              Int × Int × Bool × Unit) =>
                                            (if v19.2.2.2.2.2.2.2.2.2.1 = false then
                                                  if decide (v19.2.2.2.2.1 = v19.2.2.2.1) = true then
                                                    some
                                                      (v19.1, v19.2.1, v19.2.2.1, v19.2.2.2.1, v19.2.2.2.2.2.2.1, v19.2.2.2.2.2.2.2.1, v19.2.2.2.2.2.2.2.2.1,
                                                        !v19.2.2.2.2.2.1, ())
                                                  else
                                                    some
                                                      (v19.1, v19.2.1, v19.2.2.1, v19.2.2.2.1, v19.2.2.2.2.2.2.1, v19.2.2.2.2.2.2.2.1, v19.2.2.2.2.2.2.2.2.1,
                                                        false, ())
                                                else
                                                  some
                                                    (v19.1, v19.2.1, v19.2.2.1, v19.2.2.2.1, v19.2.2.2.2.2.2.1, v19.2.2.2.2.2.2.2.1, v19.2.2.2.2.2.2.2.2.1,
                                                      true, ())).bind
                                              fun
                                                (v20 :
                                                  List (List UInt8 × List UInt8 × List (Int × List UInt8 × Int × List UInt8 × Unit) × Unit) ×
                                                    List UInt8 ×
                                                      List UInt8 ×
                                                        Int ×
                                                          List (List UInt8 × List UInt8 × List (Int × List UInt8 × Int × List UInt8 × Unit) × Unit) ×
                                                            Int × Int × Bool × Unit) =>
                                              if v20.2.2.2.2.2.2.2.1 = true then some (Sum.inr (Sum.inr (false, ())))
                                              else
                                                some
                                                  (Sum.inl
                                                    (v20.1, v20.2.1, v20.2.2.1, v20.2.2.2.1, v20.2.2.2.2.1, v20.2.2.2.2.2.1,
                                                      IntKind.i64.wrap (v20.2.2.2.2.2.2.1 + 1), ()))
                                  else some (Sum.inr (Sum.inl (v14.1, v14.2.2.2.1, ())))
noncomputable def M_conciergelaw24_RouteFinds (F : Nat) (x : (List (El .rl)) × (List UInt8) × (List UInt8)) : Option (Bool) :=
  (M_conciergelaw24_awake F ()).bind fun (v0 : Bool) =>
    if (!v0) = true then some false
    else
      ((M_conciergelaw24_Small F x.1).bind fun (v1 : Bool) =>
            if (!v1) = false then some (x.1, x.2.1, x.2.2, decide (100 < (↑x.2.1.length : Int)), ()) else some (x.1, x.2.1, x.2.2, true, ())).bind
        fun (v2 : List (List UInt8 × List UInt8 × List (Int × List UInt8 × Int × List UInt8 × Unit) × Unit) × List UInt8 × List UInt8 × Bool × Unit) =>
        (if v2.2.2.2.1 = false then some (v2.1, v2.2.1, v2.2.2.1, decide (100 < (↑v2.2.2.1.length : Int)), ()) else some (v2.1, v2.2.1, v2.2.2.1, true, ())).bind
          fun (v3 : List (List UInt8 × List UInt8 × List (Int × List UInt8 × Int × List UInt8 × Unit) × Unit) × List UInt8 × List UInt8 × Bool × Unit) =>
          if v3.2.2.2.1 = true then some true
          else
            (M_conciergeref24_Standard F ()).bind fun (v4 : List UInt8) =>
              (M_conciergeref24_Parse F v4).bind fun (v5 : List (List UInt8 × List UInt8 × List (Int × List UInt8 × Int × List UInt8 × Unit) × Unit) × Bool) =>
                (if (!v5.2) = false then
                      (M_route_Standard F ()).bind fun (v6 : List (List UInt8 × List UInt8 × List (Int × List UInt8 × Int × List UInt8 × Unit) × Unit)) =>
                        (M_conciergeref24_Same F (v6, v5.1)).bind fun (v7 : Bool) => some (v3.1, v3.2.1, v3.2.2.1, v5.1, !v7, ())
                    else some (v3.1, v3.2.1, v3.2.2.1, v5.1, true, ())).bind
                  fun
                    (v8 :
                      List (List UInt8 × List UInt8 × List (Int × List UInt8 × Int × List UInt8 × Unit) × Unit) ×
                        List UInt8 × List UInt8 × List (List UInt8 × List UInt8 × List (Int × List UInt8 × Int × List UInt8 × Unit) × Unit) × Bool × Unit) =>
                  (if v8.2.2.2.2.1 = false then
                        (M_route_Find F (v8.2.2.2.1, v8.2.1, v8.2.2.1)).bind fun (v9 : Int) =>
                          (M_conciergeref24_Find F (v8.2.2.2.1, v8.2.1, v8.2.2.1)).bind fun (v10 : Int) => some (v8.1, v8.2.1, v8.2.2.1, !decide (v9 = v10), ())
                      else some (v8.1, v8.2.1, v8.2.2.1, true, ())).bind
                    fun
                      (v11 :
                        List (List UInt8 × List UInt8 × List (Int × List UInt8 × Int × List UInt8 × Unit) × Unit) × List UInt8 × List UInt8 × Bool × Unit) =>
                    if v11.2.2.2.1 = true then some false
                    else
                      (M_route_Find F (v11.1, v11.2.1, v11.2.2.1)).bind fun (v12 : Int) =>
                        (M_conciergeref24_Find F (v11.1, v11.2.1, v11.2.2.1)).bind fun (v13 : Int) =>
                          if (!decide (v12 = v13)) = true then some false
                          else
                            (loopM (M_conciergelaw24_RouteFinds_l0 F)
                                  F (v11.1, v11.2.1, v11.2.2.1, v12, v11.1, (↑v11.1.length : Int), 0, ())).bind
                              fun
                                (v21 :
                                  List (List UInt8 × List UInt8 × List (Int × List UInt8 × Int × List UInt8 × Unit) × Unit) × Int × Unit ⊕ Bool × Unit) =>
                              sumC v21
                                (fun (v22 : List (List UInt8 × List UInt8 × List (Int × List UInt8 × Int × List UInt8 × Unit) × Unit) × Int × Unit) =>
                                  some (decide (v22.2.1 < (↑v22.1.length : Int))))
                                fun (v23 : Bool × Unit) => some v23.1
theorem t_conciergelaw24_RouteFinds (x : (List (El .rl)) × (List UInt8) × (List UInt8)) (F : Nat) : fnRun TT Tryz.prog (e_conciergelaw24_RouteFinds F) s_conciergelaw24_RouteFinds (bodyOf 6) F x = M_conciergelaw24_RouteFinds F x := by kernel_rfl
theorem c_conciergelaw24_RouteFinds (F : Nat) : Ctr TT Tryz.prog 6 (conOf TT s_conciergelaw24_RouteFinds (M_conciergelaw24_RouteFinds F)) :=
  ctr_of (code := bodyOf 6) Tryz.func6 (by kernel_rfl) (by kernel_rfl) (by kernel_rfl) (by kernel_rfl) (envS_ok (envS_ok (envS_ok (envS_ok (envS_ok (envS_ok (envS_ok (envS_ok (envS_ok envN_ok (c_conciergelaw24_awake F)) (c_conciergelaw24_Small F)) (c_conciergeref24_Standard F)) (c_conciergeref24_Parse F)) (c_route_Standard F)) (c_conciergeref24_Same F)) (c_route_Find F)) (c_conciergeref24_Find F)) (c_route_Fits F)) hm (by kernel_rfl) (fun x r h => ⟨F, (t_conciergelaw24_RouteFinds x F).trans h⟩)
end Go.Vm
