/- Models of functions of the program, and that each keeps its contract: for all arguments of its shape. No condition. -/
import Derived.Test.YtblbmkhlnaaopaaDoorKt
import Derived.Test.YtblbmkhlnaaopaaDoorFcanon
import Derived.Test.YtblbmkhlnaaopaaDoorFref5
namespace Go.Vm
open Go.Proofs
set_option linter.unusedVariables false
noncomputable def s_conciergelaw05_awake : Spec Kd := { params := [], ret := (.one (.a .bool)), pins := [], pl := { nt := 33, cuts := [(3, [(4, ⟨[.tmp 1 (.a .str), .tmp 3 (.a .str), .tmp 16 (.a .bool)], [], []⟩), (4, ⟨[.tmp 3 (.a .str), .tmp 20 (.a .bool)], [], []⟩), (4, ⟨[.tmp 24 (.a .bool)], [], []⟩), (3, ⟨[.tmp 27 (.a .bool)], [], []⟩), (5, ⟨[.tmp 32 (.a .bool)], [], []⟩)])] }, rfrz := [], ts := [0] }
noncomputable def e_conciergelaw05_awake (F : Nat) : Env El := (envS 14 (conOf TT s_canon_Print (M_canon_Print F)) (envS 12 (conOf TT s_canon_Key (M_canon_Key F)) (envS 10 (conOf TT s_canon_Method (M_canon_Method F)) (envS 8 (conOf TT s_canon_Path (M_canon_Path F)) envN))))
/-- concierge/conciergelaw05.awake -/
noncomputable def M_conciergelaw05_awake (F : Nat) (x : Unit) : Option (Bool) :=
  (M_canon_Path F [47, 97, 47, 47, 98, 47, 46, 46, 47, 99, 37, 50, 102, 100]).bind fun v0 =>
    (M_canon_Method F [112, 111, 115, 116]).bind fun v1 =>
      (if v0.2 = true then some (v0.1, v1.1, v1.2, ()) else some (v0.1, v1.1, false, ())).bind fun v2 =>
        (if v2.2.2.1 = true then some (v2.2.1, decide (v2.1 = [47, 97, 47, 99, 37, 50, 70, 100]), ()) else some (v2.2.1, false, ())).bind fun v3 =>
          (if v3.2.1 = true then some (decide (v3.1 = [80, 79, 83, 84]), ()) else some (false, ())).bind fun v4 =>
            (if v4.1 = true then (M_canon_Key F [97, 45, 49]).bind fun v5 => some (v5, ()) else some (false, ())).bind fun v6 =>
              (if v6.1 = true then (M_canon_Print F ([97], [98], [99])).bind fun v7 => some (decide ((↑v7.length : Int) = 32), ()) else some (false, ())).bind
                fun v8 => some v8.1
theorem t_conciergelaw05_awake (x : Unit) (F : Nat) : fnRun TT Tryd.prog (e_conciergelaw05_awake F) s_conciergelaw05_awake (bodyOf 7) F x = M_conciergelaw05_awake F x := by kernel_rfl
theorem c_conciergelaw05_awake (F : Nat) : Ctr TT Tryd.prog 7 (conOf TT s_conciergelaw05_awake (M_conciergelaw05_awake F)) :=
  ctr_of (code := bodyOf 7) Tryd.func7 (by kernel_rfl) (by kernel_rfl) (by kernel_rfl) (by kernel_rfl) (envS_ok (envS_ok (envS_ok (envS_ok envN_ok (c_canon_Path F)) (c_canon_Method F)) (c_canon_Key F)) (c_canon_Print F)) hm (by kernel_rfl) (fun x r h => ⟨F, (t_conciergelaw05_awake x F).trans h⟩)
theorem mo_conciergelaw05_awake {F F' : Nat} (h : F ≤ F') : ∀ v, Le (M_conciergelaw05_awake F v) (M_conciergelaw05_awake F' v) := by
  intro v
  unfold M_conciergelaw05_awake
  with_reducible repeat (first | (intro v) | exact Le.refl _ | exact h | exact mo_canon_Path h _ | exact mo_canon_Method h _ | exact mo_canon_Key h _ | exact mo_canon_Print h _ | apply Le.bind | apply Le.ite | apply Le.loop | apply Le.sumC)
noncomputable def s_conciergelaw05_CanonPaths : Spec Kd := { params := [(.a .str)], ret := (.one (.a .bool)), pins := [], pl := { nt := 49, cuts := [(8, [(8, ⟨[.tmp 3 (.a .str), .tmp 4 (.a .bool), .tmp 7 (.a .str), .tmp 8 (.a .bool), .tmp 36 (.a .bool)], [], []⟩), (12, ⟨[.tmp 48 (.a .bool)], [], []⟩)])] }, rfrz := [], ts := [2] }
noncomputable def e_conciergelaw05_CanonPaths (F : Nat) : Env El := (envS 9 (conOf TT s_conciergeref05_Path (M_conciergeref05_Path F)) (envS 8 (conOf TT s_canon_Path (M_canon_Path F)) (envS 7 (conOf TT s_conciergelaw05_awake (M_conciergelaw05_awake F)) envN)))
/-- concierge/conciergelaw05.CanonPaths -/
noncomputable def M_conciergelaw05_CanonPaths (F : Nat) (x : (List UInt8)) : Option (Bool) :=
  (M_conciergelaw05_awake F ()).bind fun v0 =>
    if (!v0) = true then some false
    else
      if decide (100 < (↑x.length : Int)) = true then some true
      else
        (M_canon_Path F x).bind fun v1 =>
          (M_conciergeref05_Path F x).bind fun v2 =>
            (M_canon_Path F v1.1).bind fun v3 =>
              (if (v1.2 == v2.2) = true then some (v1.1, v1.2, v3.1, v3.2, decide (v1.1 = v2.1), ()) else some (v1.1, v1.2, v3.1, v3.2, false, ())).bind fun v4 =>
                (if v4.2.2.2.2.1 = true then
                      if (!v4.2.1) = false then if v4.2.2.2.1 = true then some (decide (v4.2.2.1 = v4.1), ()) else some (false, ()) else some (true, ())
                    else some (false, ())).bind
                  fun v5 => some v5.1
theorem t_conciergelaw05_CanonPaths (x : (List UInt8)) (F : Nat) : fnRun TT Tryd.prog (e_conciergelaw05_CanonPaths F) s_conciergelaw05_CanonPaths (bodyOf 3) F x = M_conciergelaw05_CanonPaths F x := by kernel_rfl
theorem c_conciergelaw05_CanonPaths (F : Nat) : Ctr TT Tryd.prog 3 (conOf TT s_conciergelaw05_CanonPaths (M_conciergelaw05_CanonPaths F)) :=
  ctr_of (code := bodyOf 3) Tryd.func3 (by kernel_rfl) (by kernel_rfl) (by kernel_rfl) (by kernel_rfl) (envS_ok (envS_ok (envS_ok envN_ok (c_conciergelaw05_awake F)) (c_canon_Path F)) (c_conciergeref05_Path F)) hm (by kernel_rfl) (fun x r h => ⟨F, (t_conciergelaw05_CanonPaths x F).trans h⟩)
theorem mo_conciergelaw05_CanonPaths {F F' : Nat} (h : F ≤ F') : ∀ v, Le (M_conciergelaw05_CanonPaths F v) (M_conciergelaw05_CanonPaths F' v) := by
  intro v
  unfold M_conciergelaw05_CanonPaths
  with_reducible repeat (first | (intro v) | exact Le.refl _ | exact h | exact mo_conciergelaw05_awake h _ | exact mo_canon_Path h _ | exact mo_conciergeref05_Path h _ | apply Le.bind | apply Le.ite | apply Le.loop | apply Le.sumC)
noncomputable def s_conciergelaw05_CanonNames : Spec Kd := { params := [(.a .str), (.a .str)], ret := (.one (.a .bool)), pins := [], pl := { nt := 63, cuts := [(8, [(8, ⟨[.tmp 1 (.a .str), .tmp 5 (.a .str), .tmp 6 (.a .bool), .tmp 9 (.a .str), .tmp 10 (.a .bool), .tmp 43 (.a .bool)], [], []⟩), (12, ⟨[.tmp 1 (.a .str), .tmp 55 (.a .bool)], [], []⟩), (7, ⟨[.tmp 62 (.a .bool)], [], []⟩)]), (3, [(8, ⟨[.tmp 0 (.a .str), .tmp 1 (.a .str), .tmp 20 (.a .bool)], [], []⟩)])] }, rfrz := [], ts := [4] }
noncomputable def e_conciergelaw05_CanonNames (F : Nat) : Env El := (envS 13 (conOf TT s_conciergeref05_Key (M_conciergeref05_Key F)) (envS 12 (conOf TT s_canon_Key (M_canon_Key F)) (envS 11 (conOf TT s_conciergeref05_Method (M_conciergeref05_Method F)) (envS 10 (conOf TT s_canon_Method (M_canon_Method F)) (envS 7 (conOf TT s_conciergelaw05_awake (M_conciergelaw05_awake F)) envN)))))
/-- concierge/conciergelaw05.CanonNames -/
noncomputable def M_conciergelaw05_CanonNames (F : Nat) (x : (List UInt8) × (List UInt8)) : Option (Bool) :=
  (M_conciergelaw05_awake F ()).bind fun v0 =>
    if (!v0) = true then some false
    else
      (if decide (60 < (↑x.1.length : Int)) = false then some (x.1, x.2, decide (60 < (↑x.2.length : Int)), ()) else some (x.1, x.2, true, ())).bind fun v1 =>
        if v1.2.2.1 = true then some true
        else
          (M_canon_Method F v1.1).bind fun v2 =>
            (M_conciergeref05_Method F v1.1).bind fun v3 =>
              (M_canon_Method F v2.1).bind fun v4 =>
                (if (v2.2 == v3.2) = true then some (v1.2.1, v2.1, v2.2, v4.1, v4.2, decide (v2.1 = v3.1), ())
                    else some (v1.2.1, v2.1, v2.2, v4.1, v4.2, false, ())).bind
                  fun v5 =>
                  (if v5.2.2.2.2.2.1 = true then
                        if (!v5.2.2.1) = false then if v5.2.2.2.2.1 = true then some (v5.1, decide (v5.2.2.2.1 = v5.2.1), ()) else some (v5.1, false, ())
                        else some (v5.1, true, ())
                      else some (v5.1, false, ())).bind
                    fun v6 =>
                    (if v6.2.1 = true then (M_canon_Key F v6.1).bind fun v7 => (M_conciergeref05_Key F v6.1).bind fun v8 => some (v7 == v8, ())
                        else some (false, ())).bind
                      fun v9 => some v9.1
theorem t_conciergelaw05_CanonNames (x : (List UInt8) × (List UInt8)) (F : Nat) : fnRun TT Tryd.prog (e_conciergelaw05_CanonNames F) s_conciergelaw05_CanonNames (bodyOf 4) F x = M_conciergelaw05_CanonNames F x := by kernel_rfl
theorem c_conciergelaw05_CanonNames (F : Nat) : Ctr TT Tryd.prog 4 (conOf TT s_conciergelaw05_CanonNames (M_conciergelaw05_CanonNames F)) :=
  ctr_of (code := bodyOf 4) Tryd.func4 (by kernel_rfl) (by kernel_rfl) (by kernel_rfl) (by kernel_rfl) (envS_ok (envS_ok (envS_ok (envS_ok (envS_ok envN_ok (c_conciergelaw05_awake F)) (c_canon_Method F)) (c_conciergeref05_Method F)) (c_canon_Key F)) (c_conciergeref05_Key F)) hm (by kernel_rfl) (fun x r h => ⟨F, (t_conciergelaw05_CanonNames x F).trans h⟩)
theorem mo_conciergelaw05_CanonNames {F F' : Nat} (h : F ≤ F') : ∀ v, Le (M_conciergelaw05_CanonNames F v) (M_conciergelaw05_CanonNames F' v) := by
  intro v
  unfold M_conciergelaw05_CanonNames
  with_reducible repeat (first | (intro v) | exact Le.refl _ | exact h | exact mo_conciergelaw05_awake h _ | exact mo_canon_Method h _ | exact mo_conciergeref05_Method h _ | exact mo_canon_Key h _ | exact mo_conciergeref05_Key h _ | apply Le.bind | apply Le.ite | apply Le.loop | apply Le.sumC)
noncomputable def s_conciergelaw05_CanonPrints : Spec Kd := { params := [(.a .str), (.a .str), (.a .str)], ret := (.one (.a .bool)), pins := [], pl := { nt := 63, cuts := [(3, [(8, ⟨[.tmp 0 (.a .str), .tmp 1 (.a .str), .tmp 2 (.a .str), .tmp 18 (.a .bool)], [], []⟩), (5, ⟨[.tmp 0 (.a .str), .tmp 1 (.a .str), .tmp 2 (.a .str), .tmp 23 (.a .bool)], [], []⟩)])], ends := [(11, ⟨[.tmp 6 (.a .bool)], [], []⟩), (10, ⟨[.tmp 0 (.a .str), .tmp 1 (.a .str), .tmp 2 (.a .str), .tmp 7 (.a .str), .tmp 8 (.a .str)], [], []⟩)] }, rfrz := [], ts := [6] }
noncomputable def e_conciergelaw05_CanonPrints (F : Nat) : Env El := (envS 15 (conOf TT s_conciergeref05_Print (M_conciergeref05_Print F)) (envS 14 (conOf TT s_canon_Print (M_canon_Print F)) (envS 7 (conOf TT s_conciergelaw05_awake (M_conciergelaw05_awake F)) envN)))
/-- concierge/conciergelaw05.CanonPrints -/
noncomputable def M_conciergelaw05_CanonPrints (F : Nat) (x : (List UInt8) × (List UInt8) × (List UInt8)) : Option (Bool) :=
  (M_conciergelaw05_awake F ()).bind fun v0 =>
    if (!v0) = true then some false
    else
      (if decide (100 < (↑x.1.length : Int)) = false then some (x.1, x.2.1, x.2.2, decide (100 < (↑x.2.1.length : Int)), ())
          else some (x.1, x.2.1, x.2.2, true, ())).bind
        fun v1 =>
        (if v1.2.2.2.1 = false then some (v1.1, v1.2.1, v1.2.2.1, decide (100 < (↑v1.2.2.1.length : Int)), ()) else some (v1.1, v1.2.1, v1.2.2.1, true, ())).bind
          fun v2 =>
          if v2.2.2.2.1 = true then some true
          else
            (M_canon_Print F (v2.1, v2.2.1, v2.2.2.1)).bind fun v3 =>
              (M_conciergeref05_Print F (v2.1, v2.2.1, v2.2.2.1)).bind fun v4 =>
                if (!decide (v3 = v4)) = true then some false
                else
                  if decide ((↑v2.2.1.length : Int) = 0) = true then some true
                  else
                    ((sub v2.2.1 0 1).bind fun v5 =>
                          if decide (v2.1.length + v5.length ≤ 9223372036854775807) = true then
                            (sub v2.2.1 1 (↑v2.2.1.length : Int)).bind fun v6 =>
                              (M_canon_Print F (v2.1 ++ v5, v6, v2.2.2.1)).bind fun v7 => some (v2.1, v2.2.1, v2.2.2.1, v3, v7, ())
                          else none).bind
                      fun v8 =>
                      (if (!decide (v8.2.2.2.2.1 = v8.2.2.2.1)) = false then
                            (sub v8.2.1 0 1).bind fun v9 =>
                              if decide (v8.1.length + v9.length ≤ 9223372036854775807) = true then
                                (sub v8.2.1 1 (↑v8.2.1.length : Int)).bind fun v10 =>
                                  (M_conciergeref05_Print F (v8.1 ++ v9, v10, v8.2.2.1)).bind fun v11 =>
                                    (M_conciergeref05_Print F (v8.1, v8.2.1, v8.2.2.1)).bind fun v12 => some (decide (v11 = v12), ())
                              else none
                          else some (true, ())).bind
                        fun v13 => some v13.1
theorem t_conciergelaw05_CanonPrints (x : (List UInt8) × (List UInt8) × (List UInt8)) (F : Nat) : fnRun TT Tryd.prog (e_conciergelaw05_CanonPrints F) s_conciergelaw05_CanonPrints (bodyOf 5) F x = M_conciergelaw05_CanonPrints F x := by kernel_rfl
theorem c_conciergelaw05_CanonPrints (F : Nat) : Ctr TT Tryd.prog 5 (conOf TT s_conciergelaw05_CanonPrints (M_conciergelaw05_CanonPrints F)) :=
  ctr_of (code := bodyOf 5) Tryd.func5 (by kernel_rfl) (by kernel_rfl) (by kernel_rfl) (by kernel_rfl) (envS_ok (envS_ok (envS_ok envN_ok (c_conciergelaw05_awake F)) (c_canon_Print F)) (c_conciergeref05_Print F)) hm (by kernel_rfl) (fun x r h => ⟨F, (t_conciergelaw05_CanonPrints x F).trans h⟩)
theorem mo_conciergelaw05_CanonPrints {F F' : Nat} (h : F ≤ F') : ∀ v, Le (M_conciergelaw05_CanonPrints F v) (M_conciergelaw05_CanonPrints F' v) := by
  intro v
  unfold M_conciergelaw05_CanonPrints
  with_reducible repeat (first | (intro v) | exact Le.refl _ | exact h | exact mo_conciergelaw05_awake h _ | exact mo_canon_Print h _ | exact mo_conciergeref05_Print h _ | apply Le.bind | apply Le.ite | apply Le.loop | apply Le.sumC)
noncomputable def s_conciergelaw05_CanonRequests : Spec Kd := { params := [(.agg [(.int .i64), (.int .i64), (.int .i64), .str, .str, .str, .str])], ret := (.one (.a .bool)), pins := [], pl := { nt := 68, cuts := [(8, [(8, ⟨[.tmp 3 (.a (.ptr 192 0)), .tmp 4 (.a .bool), .tmp 7 (.a (.ptr 448 0)), .tmp 8 (.a .bool), .tmp 55 (.a .bool), .box 192 (.cells 30 [(.int .i64), (.int .i64), (.int .i64), .str, .str, .str, .str]), .box 448 (.cells 30 [(.int .i64), (.int .i64), (.int .i64), .str, .str, .str, .str])], [], []⟩), (12, ⟨[.tmp 67 (.a .bool)], [], []⟩)]), (3, [(10, ⟨[.tmp 1 (.a (.ptr 64 0)), .tmp 20 (.a .bool), .box 64 (.cells 30 [(.int .i64), (.int .i64), (.int .i64), .str, .str, .str, .str])], [], []⟩), (6, ⟨[.tmp 1 (.a (.ptr 64 0)), .tmp 26 (.a .bool), .box 64 (.cells 30 [(.int .i64), (.int .i64), (.int .i64), .str, .str, .str, .str])], [], []⟩), (6, ⟨[.tmp 1 (.a (.ptr 64 0)), .tmp 32 (.a .bool), .box 64 (.cells 30 [(.int .i64), (.int .i64), (.int .i64), .str, .str, .str, .str])], [], []⟩)])] }, rfrz := [], ts := [2] }
noncomputable def e_conciergelaw05_CanonRequests (F : Nat) : Env El := (envS 17 (conOf TT s_conciergeref05_Request (M_conciergeref05_Request F)) (envS 16 (conOf TT s_canon_Request (M_canon_Request F)) (envS 7 (conOf TT s_conciergelaw05_awake (M_conciergelaw05_awake F)) envN)))
/-- concierge/conciergelaw05.CanonRequests -/
noncomputable def M_conciergelaw05_CanonRequests (F : Nat) (x : ((Int) × (Int) × (Int) × (List UInt8) × (List UInt8) × (List UInt8) × (List UInt8) × Unit)) : Option (Bool) :=
  (M_conciergelaw05_awake F ()).bind fun (v0 : Bool) =>
    if (!v0) = true then some false
    else
      (if decide (100 < (↑x.2.2.2.1.length : Int)) = false then
            some ((), decide (100 < (↑x.2.2.2.2.1.length : Int)), (x.1, x.2.1, x.2.2.1, x.2.2.2.1, x.2.2.2.2.1, x.2.2.2.2.2.1, x.2.2.2.2.2.2.1, ()), ())
          else some ((), true, (x.1, x.2.1, x.2.2.1, x.2.2.2.1, x.2.2.2.2.1, x.2.2.2.2.2.1, x.2.2.2.2.2.2.1, ()), ())).bind
        fun (v1 : Unit × Bool × (Int × Int × Int × List UInt8 × List UInt8 × List UInt8 × List UInt8 × Unit) × Unit) =>
        (if v1.2.1 = false then
              some
                ((), decide (100 < (↑v1.2.2.1.2.2.2.2.2.1.length : Int)),
                  (v1.2.2.1.1, v1.2.2.1.2.1, v1.2.2.1.2.2.1, v1.2.2.1.2.2.2.1, v1.2.2.1.2.2.2.2.1, v1.2.2.1.2.2.2.2.2.1, v1.2.2.1.2.2.2.2.2.2.1, ()), ())
            else
              some
                ((), true, (v1.2.2.1.1, v1.2.2.1.2.1, v1.2.2.1.2.2.1, v1.2.2.1.2.2.2.1, v1.2.2.1.2.2.2.2.1, v1.2.2.1.2.2.2.2.2.1, v1.2.2.1.2.2.2.2.2.2.1, ()),
                  ())).bind
          fun (v2 : Unit × Bool × (Int × Int × Int × List UInt8 × List UInt8 × List UInt8 × List UInt8 × Unit) × Unit) =>
          (if v2.2.1 = false then
                some
                  ((), decide (100 < (↑v2.2.2.1.2.2.2.2.2.2.1.length : Int)),
                    (v2.2.2.1.1, v2.2.2.1.2.1, v2.2.2.1.2.2.1, v2.2.2.1.2.2.2.1, v2.2.2.1.2.2.2.2.1, v2.2.2.1.2.2.2.2.2.1, v2.2.2.1.2.2.2.2.2.2.1, ()), ())
              else
                some
                  ((), true, (v2.2.2.1.1, v2.2.2.1.2.1, v2.2.2.1.2.2.1, v2.2.2.1.2.2.2.1, v2.2.2.1.2.2.2.2.1, v2.2.2.1.2.2.2.2.2.1, v2.2.2.1.2.2.2.2.2.2.1, ()),
                    ())).bind
            fun (v3 : Unit × Bool × (Int × Int × Int × List UInt8 × List UInt8 × List UInt8 × List UInt8 × Unit) × Unit) =>
            if v3.2.1 = true then some true
            else
              (M_canon_Request F
                    (v3.2.2.1.1, v3.2.2.1.2.1, v3.2.2.1.2.2.1, v3.2.2.1.2.2.2.1, v3.2.2.1.2.2.2.2.1, v3.2.2.1.2.2.2.2.2.1, v3.2.2.1.2.2.2.2.2.2.1, ())).bind
                fun (v4 : (Int × Int × Int × List UInt8 × List UInt8 × List UInt8 × List UInt8 × Unit) × Bool) =>
                (M_conciergeref05_Request F
                      (v3.2.2.1.1, v3.2.2.1.2.1, v3.2.2.1.2.2.1, v3.2.2.1.2.2.2.1, v3.2.2.1.2.2.2.2.1, v3.2.2.1.2.2.2.2.2.1, v3.2.2.1.2.2.2.2.2.2.1, ())).bind
                  fun (v5 : (Int × Int × Int × List UInt8 × List UInt8 × List UInt8 × List UInt8 × Unit) × Bool) =>
                  (M_canon_Request F (v4.1.1, v4.1.2.1, v4.1.2.2.1, v4.1.2.2.2.1, v4.1.2.2.2.2.1, v4.1.2.2.2.2.2.1, v4.1.2.2.2.2.2.2.1, ())).bind
                    fun (v6 : (Int × Int × Int × List UInt8 × List UInt8 × List UInt8 × List UInt8 × Unit) × Bool) =>
                    (if (v4.2 == v5.2) = true then
                          some
                            ((), v4.2, (), v6.2,
                              decide (v4.1.1 = v5.1.1) &&
                                (decide (v4.1.2.1 = v5.1.2.1) &&
                                  (decide (v4.1.2.2.1 = v5.1.2.2.1) &&
                                    (decide (v4.1.2.2.2.1 = v5.1.2.2.2.1) &&
                                      (decide (v4.1.2.2.2.2.1 = v5.1.2.2.2.2.1) &&
                                        (decide (v4.1.2.2.2.2.2.1 = v5.1.2.2.2.2.2.1) && (decide (v4.1.2.2.2.2.2.2.1 = v5.1.2.2.2.2.2.2.1) && true)))))),
                              (v4.1.1, v4.1.2.1, v4.1.2.2.1, v4.1.2.2.2.1, v4.1.2.2.2.2.1, v4.1.2.2.2.2.2.1, v4.1.2.2.2.2.2.2.1, ()),
                              (v6.1.1, v6.1.2.1, v6.1.2.2.1, v6.1.2.2.2.1, v6.1.2.2.2.2.1, v6.1.2.2.2.2.2.1, v6.1.2.2.2.2.2.2.1, ()), ())
                        else
                          some
                            ((), v4.2, (), v6.2, false, (v4.1.1, v4.1.2.1, v4.1.2.2.1, v4.1.2.2.2.1, v4.1.2.2.2.2.1, v4.1.2.2.2.2.2.1, v4.1.2.2.2.2.2.2.1, ()),
                              (v6.1.1, v6.1.2.1, v6.1.2.2.1, v6.1.2.2.2.1, v6.1.2.2.2.2.1, v6.1.2.2.2.2.2.1, v6.1.2.2.2.2.2.2.1, ()), ())).bind
                      fun
                        (v7 :
                          Unit ×
                            Bool ×
                              Unit ×
                                Bool ×
                                  Bool ×
                                    (Int × Int × Int × List UInt8 × List UInt8 × List UInt8 × List UInt8 × Unit) ×
                                      (Int × Int × Int × List UInt8 × List UInt8 × List UInt8 × List UInt8 × Unit) × Unit) =>
                      (if v7.2.2.2.2.1 = true then
                            if (!v7.2.1) = false then
                              if v7.2.2.2.1 = true then
                                some
                                  (decide (v7.2.2.2.2.2.2.1.1 = v7.2.2.2.2.2.1.1) &&
                                      (decide (v7.2.2.2.2.2.2.1.2.1 = v7.2.2.2.2.2.1.2.1) &&
                                        (decide (v7.2.2.2.2.2.2.1.2.2.1 = v7.2.2.2.2.2.1.2.2.1) &&
                                          (decide (v7.2.2.2.2.2.2.1.2.2.2.1 = v7.2.2.2.2.2.1.2.2.2.1) &&
                                            (decide (v7.2.2.2.2.2.2.1.2.2.2.2.1 = v7.2.2.2.2.2.1.2.2.2.2.1) &&
                                              (decide (v7.2.2.2.2.2.2.1.2.2.2.2.2.1 = v7.2.2.2.2.2.1.2.2.2.2.2.1) &&
                                                (decide (v7.2.2.2.2.2.2.1.2.2.2.2.2.2.1 = v7.2.2.2.2.2.1.2.2.2.2.2.2.1) && true)))))),
                                    ())
                              else some (false, ())
                            else some (true, ())
                          else some (false, ())).bind
                        fun (v8 : Bool × Unit) => some v8.1
theorem t_conciergelaw05_CanonRequests (x : ((Int) × (Int) × (Int) × (List UInt8) × (List UInt8) × (List UInt8) × (List UInt8) × Unit)) (F : Nat) : fnRun TT Tryd.prog (e_conciergelaw05_CanonRequests F) s_conciergelaw05_CanonRequests (bodyOf 6) F x = M_conciergelaw05_CanonRequests F x := by kernel_rfl
theorem c_conciergelaw05_CanonRequests (F : Nat) : Ctr TT Tryd.prog 6 (conOf TT s_conciergelaw05_CanonRequests (M_conciergelaw05_CanonRequests F)) :=
  ctr_of (code := bodyOf 6) Tryd.func6 (by kernel_rfl) (by kernel_rfl) (by kernel_rfl) (by kernel_rfl) (envS_ok (envS_ok (envS_ok envN_ok (c_conciergelaw05_awake F)) (c_canon_Request F)) (c_conciergeref05_Request F)) hm (by kernel_rfl) (fun x r h => ⟨F, (t_conciergelaw05_CanonRequests x F).trans h⟩)
theorem mo_conciergelaw05_CanonRequests {F F' : Nat} (h : F ≤ F') : ∀ v, Le (M_conciergelaw05_CanonRequests F v) (M_conciergelaw05_CanonRequests F' v) := by
  intro v
  unfold M_conciergelaw05_CanonRequests
  with_reducible repeat (first | (intro v) | exact Le.refl _ | exact h | exact mo_conciergelaw05_awake h _ | exact mo_canon_Request h _ | exact mo_conciergeref05_Request h _ | apply Le.bind | apply Le.ite | apply Le.loop | apply Le.sumC)

end Go.Vm
