/- Models of functions of the program, and that each keeps its contract: for all arguments of its shape. No condition. -/
import Derived.Test.YtocgjbdimjlfhaaGreatDoorKt
import Derived.Test.YtocgjbdimjlfhaaGreatDoorFroute
import Derived.Test.YtocgjbdimjlfhaaGreatDoorFref24
import Derived.Test.YtocgjbdimjlfhaaGreatDoorFlaw23s
namespace Go.Vm
open Go.Proofs
set_option linter.unusedVariables false
noncomputable def s_conciergelaw24_awake : Spec Kd := { params := [], ret := (.one (.a .bool)), pins := [], pl := { nt := 32, cuts := [(3, [(7, ⟨[.tmp 1 (.a (.slc .rl)), .tmp 16 (.a .bool)], [], []⟩), (5, ⟨[.tmp 1 (.a (.slc .rl)), .tmp 21 (.a .bool)], [], []⟩), (5, ⟨[.tmp 1 (.a (.slc .rl)), .tmp 26 (.a .bool)], [], []⟩), (5, ⟨[.tmp 31 (.a .bool)], [], []⟩)])] }, rfrz := [], ts := [0] }
noncomputable def e_conciergelaw24_awake (F : Nat) : Env El := (envS 30 (conOf TT s_route_Find (M_route_Find F)) (envS 28 (conOf TT s_conciergeref24_Standard (M_conciergeref24_Standard F)) (envS 21 (conOf TT s_route_Print (M_route_Print F)) (envS 29 (conOf TT s_route_Standard (M_route_Standard F)) envN))))
noncomputable def M_conciergelaw24_awake (F : Nat) (x : Unit) : Option (Bool) :=
  (M_route_Standard F ()).bind fun (v0 : List (List UInt8 × List UInt8 × List (Int × List UInt8 × Int × List UInt8 × Unit) × Unit)) =>
    (M_route_Print F v0).bind fun (v1 : List UInt8 × Int) =>
      (if decide (v1.2 = 0) = true then (M_conciergeref24_Standard F ()).bind fun (v2 : List UInt8) => some (v0, decide (v1.1 = v2), ())
          else some (v0, false, ())).bind
        fun (v3 : List (List UInt8 × List UInt8 × List (Int × List UInt8 × Int × List UInt8 × Unit) × Unit) × Bool × Unit) =>
        (if v3.2.1 = true then (M_route_Find F (v3.1, [80, 79, 83, 84], [47, 110, 111, 116, 101, 47, 97])).bind fun (v4 : Int) => some (v3.1, decide (v4 = 1), ())
            else some (v3.1, false, ())).bind
          fun (v5 : List (List UInt8 × List UInt8 × List (Int × List UInt8 × Int × List UInt8 × Unit) × Unit) × Bool × Unit) =>
          (if v5.2.1 = true then (M_route_Find F (v5.1, [71, 69, 84], [47, 110, 111, 116, 101, 47, 97])).bind fun (v6 : Int) => some (v5.1, decide (v6 = 2), ())
              else some (v5.1, false, ())).bind
            fun (v7 : List (List UInt8 × List UInt8 × List (Int × List UInt8 × Int × List UInt8 × Unit) × Unit) × Bool × Unit) =>
            (if v7.2.1 = true then (M_route_Find F (v7.1, [71, 69, 84], [47])).bind fun (v8 : Int) => some (decide (v8 < 0), ()) else some (false, ())).bind
              fun (v9 : Bool × Unit) => some v9.1
theorem t_conciergelaw24_awake (x : Unit) (F : Nat) : fnRun TT Tryz.prog (e_conciergelaw24_awake F) s_conciergelaw24_awake (bodyOf 15) F x = M_conciergelaw24_awake F x := by kernel_rfl
theorem c_conciergelaw24_awake (F : Nat) : Ctr TT Tryz.prog 15 (conOf TT s_conciergelaw24_awake (M_conciergelaw24_awake F)) :=
  ctr_of (code := bodyOf 15) Tryz.func15 (by kernel_rfl) (by kernel_rfl) (by kernel_rfl) (by kernel_rfl) (envS_ok (envS_ok (envS_ok (envS_ok envN_ok (c_route_Standard F)) (c_route_Print F)) (c_conciergeref24_Standard F)) (c_route_Find F)) hm (by kernel_rfl) (fun x r h => ⟨F, (t_conciergelaw24_awake x F).trans h⟩)
noncomputable def s_conciergelaw24_RouteFits : Spec Kd := { params := [(.a .str), (.a .str)], ret := (.one (.a .bool)), pins := [], pl := { nt := 38, cuts := [(5, [(14, ⟨[.tmp 1 (.a .str), .tmp 28 (.a .bool)], [], []⟩), (9, ⟨[.tmp 37 (.a .bool)], [], []⟩)]), (3, [(8, ⟨[.tmp 0 (.a .str), .tmp 1 (.a .str), .tmp 14 (.a .bool)], [], []⟩)])] }, rfrz := [], ts := [4] }
noncomputable def e_conciergelaw24_RouteFits (F : Nat) : Env El := (envS 19 (conOf TT s_conciergeref24_Fits (M_conciergeref24_Fits F)) (envS 18 (conOf TT s_route_Fits (M_route_Fits F)) (envS 17 (conOf TT s_conciergeref24_Pattern (M_conciergeref24_Pattern F)) (envS 16 (conOf TT s_route_Pattern (M_route_Pattern F)) (envS 15 (conOf TT s_conciergelaw24_awake (M_conciergelaw24_awake F)) envN)))))
noncomputable def M_conciergelaw24_RouteFits (F : Nat) (x : (List UInt8) × (List UInt8)) : Option (Bool) :=
  (M_conciergelaw24_awake F ()).bind fun (v0 : Bool) =>
    if (!v0) = true then some false
    else
      (if decide (100 < (↑x.1.length : Int)) = false then some (x.1, x.2, decide (100 < (↑x.2.length : Int)), ()) else some (x.1, x.2, true, ())).bind
        fun (v1 : List UInt8 × List UInt8 × Bool × Unit) =>
        if v1.2.2.1 = true then some true
        else
          ((M_route_Pattern F v1.1).bind fun (v2 : Bool) =>
                (M_conciergeref24_Pattern F v1.1).bind fun (v3 : Bool) =>
                  if (v2 == v3) = true then
                    (M_route_Fits F (v1.1, v1.2.1)).bind fun (v4 : Bool) =>
                      (M_conciergeref24_Fits F (v1.1, v1.2.1)).bind fun (v5 : Bool) => some (v1.2.1, v4 == v5, ())
                  else some (v1.2.1, false, ())).bind
            fun (v6 : List UInt8 × Bool × Unit) =>
            (if v6.2.1 = true then
                  (M_route_Fits F (v6.1, v6.1)).bind fun (v7 : Bool) => (M_conciergeref24_Fits F (v6.1, v6.1)).bind fun (v8 : Bool) => some (v7 == v8, ())
                else some (false, ())).bind
              fun (v9 : Bool × Unit) => some v9.1
theorem t_conciergelaw24_RouteFits (x : (List UInt8) × (List UInt8)) (F : Nat) : fnRun TT Tryz.prog (e_conciergelaw24_RouteFits F) s_conciergelaw24_RouteFits (bodyOf 3) F x = M_conciergelaw24_RouteFits F x := by kernel_rfl
theorem c_conciergelaw24_RouteFits (F : Nat) : Ctr TT Tryz.prog 3 (conOf TT s_conciergelaw24_RouteFits (M_conciergelaw24_RouteFits F)) :=
  ctr_of (code := bodyOf 3) Tryz.func3 (by kernel_rfl) (by kernel_rfl) (by kernel_rfl) (by kernel_rfl) (envS_ok (envS_ok (envS_ok (envS_ok (envS_ok envN_ok (c_conciergelaw24_awake F)) (c_route_Pattern F)) (c_conciergeref24_Pattern F)) (c_route_Fits F)) (c_conciergeref24_Fits F)) hm (by kernel_rfl) (fun x r h => ⟨F, (t_conciergelaw24_RouteFits x F).trans h⟩)
noncomputable def s_conciergelaw24_RouteAny : Spec Kd := { params := [(.a .str)], ret := (.one (.a .bool)), pins := [], pl := { nt := 38, cuts := [(9, [(7, ⟨[.tmp 37 (.a .bool)], [897, 1217], []⟩)]), (8, [(7, ⟨[.tmp 30 (.a .bool)], [897, 1217], []⟩)])] }, rfrz := [], ts := [2] }
noncomputable def e_conciergelaw24_RouteAny (F : Nat) : Env El := (envS 26 (conOf TT s_conciergeref24_Same (M_conciergeref24_Same F)) (envS 27 (conOf TT s_conciergeref24_Parse (M_conciergeref24_Parse F)) (envS 24 (conOf TT s_route_Parse (M_route_Parse F)) (envS 15 (conOf TT s_conciergelaw24_awake (M_conciergelaw24_awake F)) envN))))
noncomputable def M_conciergelaw24_RouteAny (F : Nat) (x : (List UInt8)) : Option (Bool) :=
  (M_conciergelaw24_awake F ()).bind fun (v0 : Bool) =>
    if (!v0) = true then some false
    else
      if decide (700 < (↑x.length : Int)) = true then some true
      else
        (M_route_Parse F x).bind fun (v1 : List (List UInt8 × List UInt8 × List (Int × List UInt8 × Int × List UInt8 × Unit) × Unit) × Int) =>
          (M_conciergeref24_Parse F x).bind fun (v2 : List (List UInt8 × List UInt8 × List (Int × List UInt8 × Int × List UInt8 × Unit) × Unit) × Bool) =>
            if (!v2.2) = true then
              (if decide (v1.2 = 3) = true then some (decide ((↑v1.1.length : Int) = 0), ()) else some (false, ())).bind fun (v3 : Bool × Unit) => some v3.1
            else
              (if decide (v1.2 = 0) = true then (M_conciergeref24_Same F (v1.1, v2.1)).bind fun (v4 : Bool) => some (v4, ()) else some (false, ())).bind
                fun (v5 : Bool × Unit) => some v5.1
theorem t_conciergelaw24_RouteAny (x : (List UInt8)) (F : Nat) : fnRun TT Tryz.prog (e_conciergelaw24_RouteAny F) s_conciergelaw24_RouteAny (bodyOf 5) F x = M_conciergelaw24_RouteAny F x := by kernel_rfl
theorem c_conciergelaw24_RouteAny (F : Nat) : Ctr TT Tryz.prog 5 (conOf TT s_conciergelaw24_RouteAny (M_conciergelaw24_RouteAny F)) :=
  ctr_of (code := bodyOf 5) Tryz.func5 (by kernel_rfl) (by kernel_rfl) (by kernel_rfl) (by kernel_rfl) (envS_ok (envS_ok (envS_ok (envS_ok envN_ok (c_conciergelaw24_awake F)) (c_route_Parse F)) (c_conciergeref24_Parse F)) (c_conciergeref24_Same F)) hm (by kernel_rfl) (fun x r h => ⟨F, (t_conciergelaw24_RouteAny x F).trans h⟩)
end Go.Vm
