/- Models of functions of the program, and that each keeps its contract: for all arguments of its shape. No condition. -/
import Derived.Test.YtmbnnjpdpginlaaDoorKt
import Derived.Test.YtmbnnjpdpginlaaDoorFentry
import Derived.Test.YtmbnnjpdpginlaaDoorFref14
namespace Go.Vm
open Go.Proofs
set_option linter.unusedVariables false
noncomputable def s_conciergelaw14_first : Spec Kd := { params := [], ret := (.one (.agg [(.int .i64), .str, (.int .i64), (.int .i64), (.int .i64), (.int .i64), .str, (.int .i64), (.int .i64), (.int .i64), .str, .str, .str, .str])), pins := [], pl := { nt := 2 }, rfrz := [], ts := [2], rc := [(0, some 23)] }
noncomputable def e_conciergelaw14_first (F : Nat) : Env El := envN
/-- concierge/conciergelaw14.first -/
noncomputable def M_conciergelaw14_first (F : Nat) (x : Unit) : Option ((Int) × (List UInt8) × (Int) × (Int) × (Int) × (Int) × (List UInt8) × (Int) × (Int) × (Int) × (List UInt8) × (List UInt8) × (List UInt8) × (List UInt8) × Unit) :=
  some
    (2, [107], 2, 1, 3, 2, [48, 49, 50, 51, 52, 53, 54, 55, 56, 57, 97, 98, 99, 100, 101, 102, 48, 49, 50, 51, 52, 53, 54, 55, 56, 57, 97, 98, 99, 100, 101, 102],
      0, 9, 201, [109, 97, 100, 101], [], [], [], ())
theorem t_conciergelaw14_first (x : Unit) (F : Nat) : fnRun TT Tryd.prog (e_conciergelaw14_first F) s_conciergelaw14_first (bodyOf 31) F x = M_conciergelaw14_first F x := by kernel_rfl
theorem c_conciergelaw14_first (F : Nat) : Ctr TT Tryd.prog 31 (conOf TT s_conciergelaw14_first (M_conciergelaw14_first F)) :=
  ctr_of (code := bodyOf 31) Tryd.func31 (by kernel_rfl) (by kernel_rfl) (by kernel_rfl) (by kernel_rfl) envN_ok hm (by kernel_rfl) (fun x r h => ⟨F, (t_conciergelaw14_first x F).trans h⟩)
theorem mo_conciergelaw14_first {F F' : Nat} (h : F ≤ F') : ∀ v, Le (M_conciergelaw14_first F v) (M_conciergelaw14_first F' v) := by
  intro v
  unfold M_conciergelaw14_first
  with_reducible repeat (first | (intro v) | exact Le.refl _ | exact h | apply Le.bind | apply Le.ite | apply Le.loop | apply Le.sumC)
noncomputable def s_conciergelaw14_awake : Spec Kd := { params := [], ret := (.one (.a .bool)), pins := [], pl := { nt := 46, ends := [(4, ⟨[.tmp 0 (.a .bool)], [], []⟩)] }, rfrz := [], ts := [0] }
noncomputable def e_conciergelaw14_awake (F : Nat) : Env El := (envS 14 (conOf TT s_entry_May (M_entry_May F)) (envS 18 (conOf TT s_entry_Record (M_entry_Record F)) (envS 15 (conOf TT s_entry_Open (M_entry_Open F)) (envS 12 (conOf TT s_entry_Pack (M_entry_Pack F)) (envS 31 (conOf TT s_conciergelaw14_first (M_conciergelaw14_first F)) envN)))))
/-- concierge/conciergelaw14.awake -/
noncomputable def M_conciergelaw14_awake (F : Nat) (x : Unit) : Option (Bool) :=
  (M_conciergelaw14_first F ()).bind
    fun (v0 : Int × List UInt8 × Int × Int × Int × Int × List UInt8 × Int × Int × Int × List UInt8 × List UInt8 × List UInt8 × List UInt8 × Unit) =>
    (M_entry_Pack F v0).bind fun (v1 : List UInt8 × Int) =>
      (M_entry_Open F v1.1).bind
        fun (v2 : (Int × List UInt8 × Int × Int × Int × Int × List UInt8 × Int × Int × Int × List UInt8 × List UInt8 × List UInt8 × List UInt8 × Unit) × Int) =>
        (M_entry_Record F (2, 2, [107], 0, 0, 0, 0, [], 0, 0, 0, [], [], [], [], ())).bind fun (v3 : List UInt8 × Int) =>
          (if decide (v1.2 = 0) = true then
                if decide (v2.2 = 0) = true then
                  if decide (v3.2 = 0) = true then
                    (M_conciergelaw14_first F ()).bind
                      fun
                        (v4 :
                          Int × List UInt8 × Int × Int × Int × Int × List UInt8 × Int × Int × Int × List UInt8 × List UInt8 × List UInt8 × List UInt8 × Unit) =>
                      if
                          (decide (v2.1.1 = v4.1) &&
                              (decide (v2.1.2.1 = v4.2.1) &&
                                (decide (v2.1.2.2.1 = v4.2.2.1) &&
                                  (decide (v2.1.2.2.2.1 = v4.2.2.2.1) &&
                                    (decide (v2.1.2.2.2.2.1 = v4.2.2.2.2.1) &&
                                      (decide (v2.1.2.2.2.2.2.1 = v4.2.2.2.2.2.1) &&
                                        (decide (v2.1.2.2.2.2.2.2.1 = v4.2.2.2.2.2.2.1) &&
                                          (decide (v2.1.2.2.2.2.2.2.2.1 = v4.2.2.2.2.2.2.2.1) &&
                                            (decide (v2.1.2.2.2.2.2.2.2.2.1 = v4.2.2.2.2.2.2.2.2.1) &&
                                              (decide (v2.1.2.2.2.2.2.2.2.2.2.1 = v4.2.2.2.2.2.2.2.2.2.1) &&
                                                (decide (v2.1.2.2.2.2.2.2.2.2.2.2.1 = v4.2.2.2.2.2.2.2.2.2.2.1) &&
                                                  (decide (v2.1.2.2.2.2.2.2.2.2.2.2.2.1 = v4.2.2.2.2.2.2.2.2.2.2.2.1) &&
                                                    (decide (v2.1.2.2.2.2.2.2.2.2.2.2.2.2.1 = v4.2.2.2.2.2.2.2.2.2.2.2.2.1) &&
                                                      (decide (v2.1.2.2.2.2.2.2.2.2.2.2.2.2.2.1 = v4.2.2.2.2.2.2.2.2.2.2.2.2.2.1) && true)))))))))))))) =
                            true then
                        (M_entry_May F v2.1).bind fun (v5 : Bool) => if v5 = true then some (decide (v3.1 = [1, 2, 2, 1, 107]), ()) else some (false, ())
                      else some (false, ())
                  else some (false, ())
                else some (false, ())
              else some (false, ())).bind
            fun (v6 : Bool × Unit) => some v6.1
theorem t_conciergelaw14_awake (x : Unit) (F : Nat) : fnRun TT Tryd.prog (e_conciergelaw14_awake F) s_conciergelaw14_awake (bodyOf 10) F x = M_conciergelaw14_awake F x := by kernel_rfl
theorem c_conciergelaw14_awake (F : Nat) : Ctr TT Tryd.prog 10 (conOf TT s_conciergelaw14_awake (M_conciergelaw14_awake F)) :=
  ctr_of (code := bodyOf 10) Tryd.func10 (by kernel_rfl) (by kernel_rfl) (by kernel_rfl) (by kernel_rfl) (envS_ok (envS_ok (envS_ok (envS_ok (envS_ok envN_ok (c_conciergelaw14_first F)) (c_entry_Pack F)) (c_entry_Open F)) (c_entry_Record F)) (c_entry_May F)) hm (by kernel_rfl) (fun x r h => ⟨F, (t_conciergelaw14_awake x F).trans h⟩)
theorem mo_conciergelaw14_awake {F F' : Nat} (h : F ≤ F') : ∀ v, Le (M_conciergelaw14_awake F v) (M_conciergelaw14_awake F' v) := by
  intro v
  unfold M_conciergelaw14_awake
  with_reducible repeat (first | (intro v) | exact Le.refl _ | exact h | exact mo_conciergelaw14_first h _ | exact mo_entry_Pack h _ | exact mo_entry_Open h _ | exact mo_entry_Record h _ | exact mo_entry_May h _ | apply Le.bind | apply Le.ite | apply Le.loop | apply Le.sumC)
noncomputable def s_conciergelaw14_large : Spec Kd := { params := [(.agg [(.int .i64), .str, (.int .i64), (.int .i64), (.int .i64), (.int .i64), .str, (.int .i64), (.int .i64), (.int .i64), .str, .str, .str, .str])], ret := (.one (.a .bool)), pins := [], pl := { nt := 37, cuts := [(1, [(10, ⟨[.tmp 1 (.a (.ptr 64 0)), .tmp 12 (.a .bool), .box 64 (.cells 23 [(.int .i64), .str, (.int .i64), (.int .i64), (.int .i64), (.int .i64), .str, (.int .i64), (.int .i64), (.int .i64), .str, .str, .str, .str])], [], []⟩), (6, ⟨[.tmp 1 (.a (.ptr 64 0)), .tmp 18 (.a .bool), .box 64 (.cells 23 [(.int .i64), .str, (.int .i64), (.int .i64), (.int .i64), (.int .i64), .str, (.int .i64), (.int .i64), (.int .i64), .str, .str, .str, .str])], [], []⟩), (6, ⟨[.tmp 1 (.a (.ptr 64 0)), .tmp 24 (.a .bool), .box 64 (.cells 23 [(.int .i64), .str, (.int .i64), (.int .i64), (.int .i64), (.int .i64), .str, (.int .i64), (.int .i64), (.int .i64), .str, .str, .str, .str])], [], []⟩), (6, ⟨[.tmp 1 (.a (.ptr 64 0)), .tmp 30 (.a .bool), .box 64 (.cells 23 [(.int .i64), .str, (.int .i64), (.int .i64), (.int .i64), (.int .i64), .str, (.int .i64), (.int .i64), (.int .i64), .str, .str, .str, .str])], [], []⟩), (6, ⟨[.tmp 36 (.a .bool)], [], []⟩)])] }, rfrz := [], ts := [2] }
noncomputable def e_conciergelaw14_large (F : Nat) : Env El := envN
/-- concierge/conciergelaw14.large -/
noncomputable def M_conciergelaw14_large (F : Nat) (x : ((Int) × (List UInt8) × (Int) × (Int) × (Int) × (Int) × (List UInt8) × (Int) × (Int) × (Int) × (List UInt8) × (List UInt8) × (List UInt8) × (List UInt8) × Unit)) : Option (Bool) :=
  (if decide (100 < (↑x.2.1.length : Int)) = false then some ((), decide (100 < (↑x.2.2.2.2.2.2.1.length : Int)), x, ()) else some ((), true, x, ())).bind
    fun
      (v0 :
        Unit ×
          Bool × (Int × List UInt8 × Int × Int × Int × Int × List UInt8 × Int × Int × Int × List UInt8 × List UInt8 × List UInt8 × List UInt8 × Unit) × Unit) =>
    (if v0.2.1 = false then some ((), decide (100 < (↑v0.2.2.1.2.2.2.2.2.2.2.2.2.2.1.length : Int)), v0.2.2.1, ()) else some ((), true, v0.2.2.1, ())).bind
      fun
        (v1 :
          Unit ×
            Bool ×
              (Int × List UInt8 × Int × Int × Int × Int × List UInt8 × Int × Int × Int × List UInt8 × List UInt8 × List UInt8 × List UInt8 × Unit) × Unit) =>
      (if v1.2.1 = false then some ((), decide (100 < (↑v1.2.2.1.2.2.2.2.2.2.2.2.2.2.2.1.length : Int)), v1.2.2.1, ()) else some ((), true, v1.2.2.1, ())).bind
        fun
          (v2 :
            Unit ×
              Bool ×
                (Int × List UInt8 × Int × Int × Int × Int × List UInt8 × Int × Int × Int × List UInt8 × List UInt8 × List UInt8 × List UInt8 × Unit) × Unit) =>
        (if v2.2.1 = false then some ((), decide (100 < (↑v2.2.2.1.2.2.2.2.2.2.2.2.2.2.2.2.1.length : Int)), v2.2.2.1, ())
            else some ((), true, v2.2.2.1, ())).bind
          fun
            (v3 :
              Unit ×
                Bool ×
                  (Int × List UInt8 × Int × Int × Int × Int × List UInt8 × Int × Int × Int × List UInt8 × List UInt8 × List UInt8 × List UInt8 × Unit) ×
                    Unit) =>
          (if v3.2.1 = false then some (decide (100 < (↑v3.2.2.1.2.2.2.2.2.2.2.2.2.2.2.2.2.1.length : Int)), ()) else some (true, ())).bind
            fun (v4 : Bool × Unit) => some v4.1
theorem t_conciergelaw14_large (x : ((Int) × (List UInt8) × (Int) × (Int) × (Int) × (Int) × (List UInt8) × (Int) × (Int) × (Int) × (List UInt8) × (List UInt8) × (List UInt8) × (List UInt8) × Unit)) (F : Nat) : fnRun TT Tryd.prog (e_conciergelaw14_large F) s_conciergelaw14_large (bodyOf 11) F x = M_conciergelaw14_large F x := by kernel_rfl
theorem c_conciergelaw14_large (F : Nat) : Ctr TT Tryd.prog 11 (conOf TT s_conciergelaw14_large (M_conciergelaw14_large F)) :=
  ctr_of (code := bodyOf 11) Tryd.func11 (by kernel_rfl) (by kernel_rfl) (by kernel_rfl) (by kernel_rfl) envN_ok hm (by kernel_rfl) (fun x r h => ⟨F, (t_conciergelaw14_large x F).trans h⟩)
theorem mo_conciergelaw14_large {F F' : Nat} (h : F ≤ F') : ∀ v, Le (M_conciergelaw14_large F v) (M_conciergelaw14_large F' v) := by
  intro v
  unfold M_conciergelaw14_large
  with_reducible repeat (first | (intro v) | exact Le.refl _ | exact h | apply Le.bind | apply Le.ite | apply Le.loop | apply Le.sumC)
noncomputable def s_conciergelaw14_EntryBack : Spec Kd := { params := [(.agg [(.int .i64), .str, (.int .i64), (.int .i64), (.int .i64), (.int .i64), .str, (.int .i64), (.int .i64), (.int .i64), .str, .str, .str, .str])], ret := (.one (.a .bool)), pins := [], pl := { nt := 61, cuts := [(9, [(8, ⟨[.tmp 1 (.a (.ptr 64 0)), .tmp 3 (.a .str), .tmp 5 (.a (.ptr 320 0)), .tmp 6 (.a (.int .i64)), .tmp 42 (.a .bool), .box 64 (.cells 23 [(.int .i64), .str, (.int .i64), (.int .i64), (.int .i64), (.int .i64), .str, (.int .i64), (.int .i64), (.int .i64), .str, .str, .str, .str]), .box 320 (.cells 23 [(.int .i64), .str, (.int .i64), (.int .i64), (.int .i64), (.int .i64), .str, (.int .i64), (.int .i64), (.int .i64), .str, .str, .str, .str])], [], []⟩), (5, ⟨[.tmp 1 (.a (.ptr 64 0)), .tmp 5 (.a (.ptr 320 0)), .tmp 6 (.a (.int .i64)), .tmp 47 (.a .bool), .box 64 (.cells 23 [(.int .i64), .str, (.int .i64), (.int .i64), (.int .i64), (.int .i64), .str, (.int .i64), (.int .i64), (.int .i64), .str, .str, .str, .str]), .box 320 (.cells 23 [(.int .i64), .str, (.int .i64), (.int .i64), (.int .i64), (.int .i64), .str, (.int .i64), (.int .i64), (.int .i64), .str, .str, .str, .str])], [], []⟩), (4, ⟨[.tmp 1 (.a (.ptr 64 0)), .tmp 5 (.a (.ptr 320 0)), .tmp 6 (.a (.int .i64)), .tmp 51 (.a .bool), .box 64 (.cells 23 [(.int .i64), .str, (.int .i64), (.int .i64), (.int .i64), (.int .i64), .str, (.int .i64), (.int .i64), (.int .i64), .str, .str, .str, .str]), .box 320 (.cells 23 [(.int .i64), .str, (.int .i64), (.int .i64), (.int .i64), (.int .i64), .str, (.int .i64), (.int .i64), (.int .i64), .str, .str, .str, .str])], [], []⟩), (4, ⟨[.tmp 1 (.a (.ptr 64 0)), .tmp 5 (.a (.ptr 320 0)), .tmp 55 (.a .bool), .box 64 (.cells 23 [(.int .i64), .str, (.int .i64), (.int .i64), (.int .i64), (.int .i64), .str, (.int .i64), (.int .i64), (.int .i64), .str, .str, .str, .str]), .box 320 (.cells 23 [(.int .i64), .str, (.int .i64), (.int .i64), (.int .i64), (.int .i64), .str, (.int .i64), (.int .i64), (.int .i64), .str, .str, .str, .str])], [], []⟩), (5, ⟨[.tmp 60 (.a .bool)], [], []⟩)]), (7, [(6, ⟨[.tmp 1 (.a (.ptr 64 0)), .tmp 24 (.a .bool), .box 64 (.cells 23 [(.int .i64), .str, (.int .i64), (.int .i64), (.int .i64), (.int .i64), .str, (.int .i64), (.int .i64), (.int .i64), .str, .str, .str, .str])], [], []⟩), (5, ⟨[.tmp 29 (.a .bool)], [], []⟩)])] }, rfrz := [], ts := [2] }
noncomputable def e_conciergelaw14_EntryBack (F : Nat) : Env El := (envS 16 (conOf TT s_conciergeref14_Bytes (M_conciergeref14_Bytes F)) (envS 15 (conOf TT s_entry_Open (M_entry_Open F)) (envS 14 (conOf TT s_entry_May (M_entry_May F)) (envS 13 (conOf TT s_conciergeref14_May (M_conciergeref14_May F)) (envS 12 (conOf TT s_entry_Pack (M_entry_Pack F)) (envS 11 (conOf TT s_conciergelaw14_large (M_conciergelaw14_large F)) (envS 10 (conOf TT s_conciergelaw14_awake (M_conciergelaw14_awake F)) envN)))))))
/-- concierge/conciergelaw14.EntryBack -/
noncomputable def M_conciergelaw14_EntryBack (F : Nat) (x : ((Int) × (List UInt8) × (Int) × (Int) × (Int) × (Int) × (List UInt8) × (Int) × (Int) × (Int) × (List UInt8) × (List UInt8) × (List UInt8) × (List UInt8) × Unit)) : Option (Bool) :=
  (M_conciergelaw14_awake F ()).bind fun (v0 : Bool) =>
    if (!v0) = true then some false
    else
      (M_conciergelaw14_large F x).bind fun (v1 : Bool) =>
        if v1 = true then some true
        else
          (M_entry_Pack F x).bind fun (v2 : List UInt8 × Int) =>
            (M_conciergeref14_May F x).bind fun (v3 : Bool) =>
              if (!v3) = true then
                (if decide (v2.2 = 1) = true then some ((), decide (v2.1 = []), x, ()) else some ((), false, x, ())).bind
                  fun
                    (v4 :
                      Unit ×
                        Bool ×
                          (Int × List UInt8 × Int × Int × Int × Int × List UInt8 × Int × Int × Int × List UInt8 × List UInt8 × List UInt8 × List UInt8 × Unit) ×
                            Unit) =>
                  (if v4.2.1 = true then (M_entry_May F v4.2.2.1).bind fun (v5 : Bool) => some (!v5, ()) else some (false, ())).bind fun (v6 : Bool × Unit) =>
                    some v6.1
              else
                (M_entry_Open F v2.1).bind
                  fun
                    (v7 :
                      (Int × List UInt8 × Int × Int × Int × Int × List UInt8 × Int × Int × Int × List UInt8 × List UInt8 × List UInt8 × List UInt8 × Unit) ×
                        Int) =>
                  (if decide (v2.2 = 0) = true then
                        (M_conciergeref14_Bytes F x).bind fun (v8 : List UInt8) => some ((), v2.1, (), v7.2, decide (v2.1 = v8), x, v7.1, ())
                      else some ((), v2.1, (), v7.2, false, x, v7.1, ())).bind
                    fun
                      (v9 :
                        Unit ×
                          List UInt8 ×
                            Unit ×
                              Int ×
                                Bool ×
                                  (Int ×
                                      List UInt8 ×
                                        Int × Int × Int × Int × List UInt8 × Int × Int × Int × List UInt8 × List UInt8 × List UInt8 × List UInt8 × Unit) ×
                                    (Int ×
                                        List UInt8 ×
                                          Int × Int × Int × Int × List UInt8 × Int × Int × Int × List UInt8 × List UInt8 × List UInt8 × List UInt8 × Unit) ×
                                      Unit) =>
                    (if v9.2.2.2.2.1 = true then some ((), (), v9.2.2.2.1, decide ((↑v9.2.1.length : Int) ≤ 233), v9.2.2.2.2.2.1, v9.2.2.2.2.2.2.1, ())
                        else some ((), (), v9.2.2.2.1, false, v9.2.2.2.2.2.1, v9.2.2.2.2.2.2.1, ())).bind
                      fun
                        (v10 :
                          Unit ×
                            Unit ×
                              Int ×
                                Bool ×
                                  (Int ×
                                      List UInt8 ×
                                        Int × Int × Int × Int × List UInt8 × Int × Int × Int × List UInt8 × List UInt8 × List UInt8 × List UInt8 × Unit) ×
                                    (Int ×
                                        List UInt8 ×
                                          Int × Int × Int × Int × List UInt8 × Int × Int × Int × List UInt8 × List UInt8 × List UInt8 × List UInt8 × Unit) ×
                                      Unit) =>
                      (if v10.2.2.2.1 = true then
                            (M_entry_May F v10.2.2.2.2.1).bind fun (v11 : Bool) => some ((), (), v10.2.2.1, v11, v10.2.2.2.2.1, v10.2.2.2.2.2.1, ())
                          else some ((), (), v10.2.2.1, false, v10.2.2.2.2.1, v10.2.2.2.2.2.1, ())).bind
                        fun
                          (v12 :
                            Unit ×
                              Unit ×
                                Int ×
                                  Bool ×
                                    (Int ×
                                        List UInt8 ×
                                          Int × Int × Int × Int × List UInt8 × Int × Int × Int × List UInt8 × List UInt8 × List UInt8 × List UInt8 × Unit) ×
                                      (Int ×
                                          List UInt8 ×
                                            Int × Int × Int × Int × List UInt8 × Int × Int × Int × List UInt8 × List UInt8 × List UInt8 × List UInt8 × Unit) ×
                                        Unit) =>
                        (if v12.2.2.2.1 = true then some ((), (), decide (v12.2.2.1 = 0), v12.2.2.2.2.1, v12.2.2.2.2.2.1, ())
                            else some ((), (), false, v12.2.2.2.2.1, v12.2.2.2.2.2.1, ())).bind
                          fun
                            (v13 :
                              Unit ×
                                Unit ×
                                  Bool ×
                                    (Int ×
                                        List UInt8 ×
                                          Int × Int × Int × Int × List UInt8 × Int × Int × Int × List UInt8 × List UInt8 × List UInt8 × List UInt8 × Unit) ×
                                      (Int ×
                                          List UInt8 ×
                                            Int × Int × Int × Int × List UInt8 × Int × Int × Int × List UInt8 × List UInt8 × List UInt8 × List UInt8 × Unit) ×
                                        Unit) =>
                          (if v13.2.2.1 = true then
                                some
                                  (decide (v13.2.2.2.2.1.1 = v13.2.2.2.1.1) &&
                                      (decide (v13.2.2.2.2.1.2.1 = v13.2.2.2.1.2.1) &&
                                        (decide (v13.2.2.2.2.1.2.2.1 = v13.2.2.2.1.2.2.1) &&
                                          (decide (v13.2.2.2.2.1.2.2.2.1 = v13.2.2.2.1.2.2.2.1) &&
                                            (decide (v13.2.2.2.2.1.2.2.2.2.1 = v13.2.2.2.1.2.2.2.2.1) &&
                                              (decide (v13.2.2.2.2.1.2.2.2.2.2.1 = v13.2.2.2.1.2.2.2.2.2.1) &&
                                                (decide (v13.2.2.2.2.1.2.2.2.2.2.2.1 = v13.2.2.2.1.2.2.2.2.2.2.1) &&
                                                  (decide (v13.2.2.2.2.1.2.2.2.2.2.2.2.1 = v13.2.2.2.1.2.2.2.2.2.2.2.1) &&
                                                    (decide (v13.2.2.2.2.1.2.2.2.2.2.2.2.2.1 = v13.2.2.2.1.2.2.2.2.2.2.2.2.1) &&
                                                      (decide (v13.2.2.2.2.1.2.2.2.2.2.2.2.2.2.1 = v13.2.2.2.1.2.2.2.2.2.2.2.2.2.1) &&
                                                        (decide (v13.2.2.2.2.1.2.2.2.2.2.2.2.2.2.2.1 = v13.2.2.2.1.2.2.2.2.2.2.2.2.2.2.1) &&
                                                          (decide (v13.2.2.2.2.1.2.2.2.2.2.2.2.2.2.2.2.1 = v13.2.2.2.1.2.2.2.2.2.2.2.2.2.2.2.1) &&
                                                            (decide (v13.2.2.2.2.1.2.2.2.2.2.2.2.2.2.2.2.2.1 = v13.2.2.2.1.2.2.2.2.2.2.2.2.2.2.2.2.1) &&
                                                              (decide (v13.2.2.2.2.1.2.2.2.2.2.2.2.2.2.2.2.2.2.1 = v13.2.2.2.1.2.2.2.2.2.2.2.2.2.2.2.2.2.1) &&
                                                                true))))))))))))),
                                    ())
                              else some (false, ())).bind
                            fun (v14 : Bool × Unit) => some v14.1
theorem t_conciergelaw14_EntryBack (x : ((Int) × (List UInt8) × (Int) × (Int) × (Int) × (Int) × (List UInt8) × (Int) × (Int) × (Int) × (List UInt8) × (List UInt8) × (List UInt8) × (List UInt8) × Unit)) (F : Nat) : fnRun TT Tryd.prog (e_conciergelaw14_EntryBack F) s_conciergelaw14_EntryBack (bodyOf 3) F x = M_conciergelaw14_EntryBack F x := by kernel_rfl
theorem c_conciergelaw14_EntryBack (F : Nat) : Ctr TT Tryd.prog 3 (conOf TT s_conciergelaw14_EntryBack (M_conciergelaw14_EntryBack F)) :=
  ctr_of (code := bodyOf 3) Tryd.func3 (by kernel_rfl) (by kernel_rfl) (by kernel_rfl) (by kernel_rfl) (envS_ok (envS_ok (envS_ok (envS_ok (envS_ok (envS_ok (envS_ok envN_ok (c_conciergelaw14_awake F)) (c_conciergelaw14_large F)) (c_entry_Pack F)) (c_conciergeref14_May F)) (c_entry_May F)) (c_entry_Open F)) (c_conciergeref14_Bytes F)) hm (by kernel_rfl) (fun x r h => ⟨F, (t_conciergelaw14_EntryBack x F).trans h⟩)
theorem mo_conciergelaw14_EntryBack {F F' : Nat} (h : F ≤ F') : ∀ v, Le (M_conciergelaw14_EntryBack F v) (M_conciergelaw14_EntryBack F' v) := by
  intro v
  unfold M_conciergelaw14_EntryBack
  with_reducible repeat (first | (intro v) | exact Le.refl _ | exact h | exact mo_conciergelaw14_awake h _ | exact mo_conciergelaw14_large h _ | exact mo_entry_Pack h _ | exact mo_conciergeref14_May h _ | exact mo_entry_May h _ | exact mo_entry_Open h _ | exact mo_conciergeref14_Bytes h _ | apply Le.bind | apply Le.ite | apply Le.loop | apply Le.sumC)
noncomputable def s_conciergelaw14_EntryAny : Spec Kd := { params := [(.a .str)], ret := (.one (.a .bool)), pins := [], pl := { nt := 38, cuts := [(9, [(7, ⟨[.tmp 37 (.a .bool)], [], []⟩)]), (8, [(7, ⟨[.tmp 30 (.a .bool)], [], []⟩)])] }, rfrz := [], ts := [2] }
noncomputable def e_conciergelaw14_EntryAny (F : Nat) : Env El := (envS 17 (conOf TT s_conciergeref14_Open (M_conciergeref14_Open F)) (envS 15 (conOf TT s_entry_Open (M_entry_Open F)) (envS 10 (conOf TT s_conciergelaw14_awake (M_conciergelaw14_awake F)) envN)))
/-- concierge/conciergelaw14.EntryAny -/
noncomputable def M_conciergelaw14_EntryAny (F : Nat) (x : (List UInt8)) : Option (Bool) :=
  (M_conciergelaw14_awake F ()).bind fun (v0 : Bool) =>
    if (!v0) = true then some false
    else
      if decide (300 < (↑x.length : Int)) = true then some true
      else
        (M_entry_Open F x).bind
          fun
            (v1 : (Int × List UInt8 × Int × Int × Int × Int × List UInt8 × Int × Int × Int × List UInt8 × List UInt8 × List UInt8 × List UInt8 × Unit) × Int) =>
          (M_conciergeref14_Open F x).bind
            fun
              (v2 :
                (Int × List UInt8 × Int × Int × Int × Int × List UInt8 × Int × Int × Int × List UInt8 × List UInt8 × List UInt8 × List UInt8 × Unit) × Bool) =>
            if (!v2.2) = true then
              (if decide (v1.2 = 3) = true then
                    some
                      (decide (v1.1.1 = 0) &&
                          (decide (v1.1.2.1 = []) &&
                            (decide (v1.1.2.2.1 = 0) &&
                              (decide (v1.1.2.2.2.1 = 0) &&
                                (decide (v1.1.2.2.2.2.1 = 0) &&
                                  (decide (v1.1.2.2.2.2.2.1 = 0) &&
                                    (decide (v1.1.2.2.2.2.2.2.1 = []) &&
                                      (decide (v1.1.2.2.2.2.2.2.2.1 = 0) &&
                                        (decide (v1.1.2.2.2.2.2.2.2.2.1 = 0) &&
                                          (decide (v1.1.2.2.2.2.2.2.2.2.2.1 = 0) &&
                                            (decide (v1.1.2.2.2.2.2.2.2.2.2.2.1 = []) &&
                                              (decide (v1.1.2.2.2.2.2.2.2.2.2.2.2.1 = []) &&
                                                (decide (v1.1.2.2.2.2.2.2.2.2.2.2.2.2.1 = []) &&
                                                  (decide (v1.1.2.2.2.2.2.2.2.2.2.2.2.2.2.1 = []) && true))))))))))))),
                        ())
                  else some (false, ())).bind
                fun (v3 : Bool × Unit) => some v3.1
            else
              (if decide (v1.2 = 0) = true then
                    some
                      (decide (v1.1.1 = v2.1.1) &&
                          (decide (v1.1.2.1 = v2.1.2.1) &&
                            (decide (v1.1.2.2.1 = v2.1.2.2.1) &&
                              (decide (v1.1.2.2.2.1 = v2.1.2.2.2.1) &&
                                (decide (v1.1.2.2.2.2.1 = v2.1.2.2.2.2.1) &&
                                  (decide (v1.1.2.2.2.2.2.1 = v2.1.2.2.2.2.2.1) &&
                                    (decide (v1.1.2.2.2.2.2.2.1 = v2.1.2.2.2.2.2.2.1) &&
                                      (decide (v1.1.2.2.2.2.2.2.2.1 = v2.1.2.2.2.2.2.2.2.1) &&
                                        (decide (v1.1.2.2.2.2.2.2.2.2.1 = v2.1.2.2.2.2.2.2.2.2.1) &&
                                          (decide (v1.1.2.2.2.2.2.2.2.2.2.1 = v2.1.2.2.2.2.2.2.2.2.2.1) &&
                                            (decide (v1.1.2.2.2.2.2.2.2.2.2.2.1 = v2.1.2.2.2.2.2.2.2.2.2.2.1) &&
                                              (decide (v1.1.2.2.2.2.2.2.2.2.2.2.2.1 = v2.1.2.2.2.2.2.2.2.2.2.2.2.1) &&
                                                (decide (v1.1.2.2.2.2.2.2.2.2.2.2.2.2.1 = v2.1.2.2.2.2.2.2.2.2.2.2.2.2.1) &&
                                                  (decide (v1.1.2.2.2.2.2.2.2.2.2.2.2.2.2.1 = v2.1.2.2.2.2.2.2.2.2.2.2.2.2.2.1) && true))))))))))))),
                        ())
                  else some (false, ())).bind
                fun (v4 : Bool × Unit) => some v4.1
theorem t_conciergelaw14_EntryAny (x : (List UInt8)) (F : Nat) : fnRun TT Tryd.prog (e_conciergelaw14_EntryAny F) s_conciergelaw14_EntryAny (bodyOf 4) F x = M_conciergelaw14_EntryAny F x := by kernel_rfl
theorem c_conciergelaw14_EntryAny (F : Nat) : Ctr TT Tryd.prog 4 (conOf TT s_conciergelaw14_EntryAny (M_conciergelaw14_EntryAny F)) :=
  ctr_of (code := bodyOf 4) Tryd.func4 (by kernel_rfl) (by kernel_rfl) (by kernel_rfl) (by kernel_rfl) (envS_ok (envS_ok (envS_ok envN_ok (c_conciergelaw14_awake F)) (c_entry_Open F)) (c_conciergeref14_Open F)) hm (by kernel_rfl) (fun x r h => ⟨F, (t_conciergelaw14_EntryAny x F).trans h⟩)
theorem mo_conciergelaw14_EntryAny {F F' : Nat} (h : F ≤ F') : ∀ v, Le (M_conciergelaw14_EntryAny F v) (M_conciergelaw14_EntryAny F' v) := by
  intro v
  unfold M_conciergelaw14_EntryAny
  with_reducible repeat (first | (intro v) | exact Le.refl _ | exact h | exact mo_conciergelaw14_awake h _ | exact mo_entry_Open h _ | exact mo_conciergeref14_Open h _ | apply Le.bind | apply Le.ite | apply Le.loop | apply Le.sumC)
noncomputable def s_conciergelaw14_EntryUnlike : Spec Kd := { params := [(.agg [(.int .i64), .str, (.int .i64), (.int .i64), (.int .i64), (.int .i64), .str, (.int .i64), (.int .i64), (.int .i64), .str, .str, .str, .str]), (.agg [(.int .i64), .str, (.int .i64), (.int .i64), (.int .i64), (.int .i64), .str, (.int .i64), (.int .i64), (.int .i64), .str, .str, .str, .str])], ret := (.one (.a .bool)), pins := [], pl := { nt := 58, joins := [(1100045, (.norm, ⟨[.tmp 2 (.a (.ptr 128 0)), .tmp 3 (.a (.ptr 192 0)), .tmp 5 (.a .str), .tmp 7 (.a .str), .box 128 (.cells 23 [(.int .i64), .str, (.int .i64), (.int .i64), (.int .i64), (.int .i64), .str, (.int .i64), (.int .i64), (.int .i64), .str, .str, .str, .str]), .box 192 (.cells 23 [(.int .i64), .str, (.int .i64), (.int .i64), (.int .i64), (.int .i64), .str, (.int .i64), (.int .i64), (.int .i64), .str, .str, .str, .str])], [], []⟩), [])], cuts := [(8, [(8, ⟨[.tmp 40 (.a .bool)], [], []⟩)]), (7, [(6, ⟨[.tmp 2 (.a (.ptr 128 0)), .tmp 3 (.a (.ptr 192 0)), .tmp 5 (.a .str), .tmp 7 (.a .str), .tmp 32 (.a .bool), .box 128 (.cells 23 [(.int .i64), .str, (.int .i64), (.int .i64), (.int .i64), (.int .i64), .str, (.int .i64), (.int .i64), (.int .i64), .str, .str, .str, .str]), .box 192 (.cells 23 [(.int .i64), .str, (.int .i64), (.int .i64), (.int .i64), (.int .i64), .str, (.int .i64), (.int .i64), (.int .i64), .str, .str, .str, .str])], [], []⟩)]), (3, [(6, ⟨[.tmp 2 (.a (.ptr 128 0)), .tmp 3 (.a (.ptr 192 0)), .tmp 16 (.a .bool), .box 128 (.cells 23 [(.int .i64), .str, (.int .i64), (.int .i64), (.int .i64), (.int .i64), .str, (.int .i64), (.int .i64), (.int .i64), .str, .str, .str, .str]), .box 192 (.cells 23 [(.int .i64), .str, (.int .i64), (.int .i64), (.int .i64), (.int .i64), .str, (.int .i64), (.int .i64), (.int .i64), .str, .str, .str, .str])], [], []⟩)])], ends := [(11, ⟨[.tmp 4 (.a .bool)], [], []⟩)] }, rfrz := [], ts := [4] }
noncomputable def e_conciergelaw14_EntryUnlike (F : Nat) : Env El := (envS 13 (conOf TT s_conciergeref14_May (M_conciergeref14_May F)) (envS 12 (conOf TT s_entry_Pack (M_entry_Pack F)) (envS 11 (conOf TT s_conciergelaw14_large (M_conciergelaw14_large F)) (envS 10 (conOf TT s_conciergelaw14_awake (M_conciergelaw14_awake F)) envN))))
/-- concierge/conciergelaw14.EntryUnlike -/
noncomputable def M_conciergelaw14_EntryUnlike (F : Nat) (x : ((Int) × (List UInt8) × (Int) × (Int) × (Int) × (Int) × (List UInt8) × (Int) × (Int) × (Int) × (List UInt8) × (List UInt8) × (List UInt8) × (List UInt8) × Unit) × ((Int) × (List UInt8) × (Int) × (Int) × (Int) × (Int) × (List UInt8) × (Int) × (Int) × (Int) × (List UInt8) × (List UInt8) × (List UInt8) × (List UInt8) × Unit)) : Option (Bool) :=
  (M_conciergelaw14_awake F ()).bind fun (v0 : Bool) =>
    if (!v0) = true then some false
    else
      ((M_conciergelaw14_large F x.1).bind fun (v1 : Bool) =>
            if v1 = false then (M_conciergelaw14_large F x.2).bind fun (v2 : Bool) => some ((), (), v2, x.1, x.2, ()) else some ((), (), true, x.1, x.2, ())).bind
        fun
          (v3 :
            Unit ×
              Unit ×
                Bool ×
                  (Int × List UInt8 × Int × Int × Int × Int × List UInt8 × Int × Int × Int × List UInt8 × List UInt8 × List UInt8 × List UInt8 × Unit) ×
                    (Int × List UInt8 × Int × Int × Int × Int × List UInt8 × Int × Int × Int × List UInt8 × List UInt8 × List UInt8 × List UInt8 × Unit) ×
                      Unit) =>
        if v3.2.2.1 = true then some true
        else
          (M_entry_Pack F v3.2.2.2.1).bind fun (v4 : List UInt8 × Int) =>
            (M_entry_Pack F v3.2.2.2.2.1).bind fun (v5 : List UInt8 × Int) =>
              (if (!decide (v4.2 = 0)) = false then some ((), (), v4.1, v5.1, !decide (v5.2 = 0), v3.2.2.2.1, v3.2.2.2.2.1, ())
                  else some ((), (), v4.1, v5.1, true, v3.2.2.2.1, v3.2.2.2.2.1, ())).bind
                fun
                  (v6 :
                    Unit ×
                      Unit ×
                        List UInt8 ×
                          List UInt8 ×
                            Bool ×
                              (Int ×
                                  List UInt8 × Int × Int × Int × Int × List UInt8 × Int × Int × Int × List UInt8 × List UInt8 × List UInt8 × List UInt8 × Unit) ×
                                (Int ×
                                    List UInt8 ×
                                      Int × Int × Int × Int × List UInt8 × Int × Int × Int × List UInt8 × List UInt8 × List UInt8 × List UInt8 × Unit) ×
                                  Unit) =>
                if v6.2.2.2.2.1 = true then
                  ((M_conciergeref14_May F v6.2.2.2.2.2.1).bind fun (v7 : Bool) =>
                        if (!v7) = false then (M_conciergeref14_May F v6.2.2.2.2.2.2.1).bind fun (v8 : Bool) => some (!v8, ()) else some (true, ())).bind
                    fun (v9 : Bool × Unit) => some v9.1
                else
                  (if decide ((↑v6.2.2.2.1.length : Int) < (↑v6.2.2.1.length : Int)) = true then
                        some ((), (), v6.2.2.2.1, v6.2.2.1, v6.2.2.2.2.2.1, v6.2.2.2.2.2.2.1, ())
                      else some ((), (), v6.2.2.1, v6.2.2.2.1, v6.2.2.2.2.2.1, v6.2.2.2.2.2.2.1, ())).bind
                    fun
                      (v10 :
                        Unit ×
                          Unit ×
                            List UInt8 ×
                              List UInt8 ×
                                (Int ×
                                    List UInt8 ×
                                      Int × Int × Int × Int × List UInt8 × Int × Int × Int × List UInt8 × List UInt8 × List UInt8 × List UInt8 × Unit) ×
                                  (Int ×
                                      List UInt8 ×
                                        Int × Int × Int × Int × List UInt8 × Int × Int × Int × List UInt8 × List UInt8 × List UInt8 × List UInt8 × Unit) ×
                                    Unit) =>
                    ((sub v10.2.2.2.1 0 (↑v10.2.2.1.length : Int)).bind fun (v11 : List UInt8) =>
                          some
                            (decide (v11 = v10.2.2.1) ==
                                (decide (v10.2.2.2.2.1.1 = v10.2.2.2.2.2.1.1) &&
                                  (decide (v10.2.2.2.2.1.2.1 = v10.2.2.2.2.2.1.2.1) &&
                                    (decide (v10.2.2.2.2.1.2.2.1 = v10.2.2.2.2.2.1.2.2.1) &&
                                      (decide (v10.2.2.2.2.1.2.2.2.1 = v10.2.2.2.2.2.1.2.2.2.1) &&
                                        (decide (v10.2.2.2.2.1.2.2.2.2.1 = v10.2.2.2.2.2.1.2.2.2.2.1) &&
                                          (decide (v10.2.2.2.2.1.2.2.2.2.2.1 = v10.2.2.2.2.2.1.2.2.2.2.2.1) &&
                                            (decide (v10.2.2.2.2.1.2.2.2.2.2.2.1 = v10.2.2.2.2.2.1.2.2.2.2.2.2.1) &&
                                              (decide (v10.2.2.2.2.1.2.2.2.2.2.2.2.1 = v10.2.2.2.2.2.1.2.2.2.2.2.2.2.1) &&
                                                (decide (v10.2.2.2.2.1.2.2.2.2.2.2.2.2.1 = v10.2.2.2.2.2.1.2.2.2.2.2.2.2.2.1) &&
                                                  (decide (v10.2.2.2.2.1.2.2.2.2.2.2.2.2.2.1 = v10.2.2.2.2.2.1.2.2.2.2.2.2.2.2.2.1) &&
                                                    (decide (v10.2.2.2.2.1.2.2.2.2.2.2.2.2.2.2.1 = v10.2.2.2.2.2.1.2.2.2.2.2.2.2.2.2.2.1) &&
                                                      (decide (v10.2.2.2.2.1.2.2.2.2.2.2.2.2.2.2.2.1 = v10.2.2.2.2.2.1.2.2.2.2.2.2.2.2.2.2.2.1) &&
                                                        (decide (v10.2.2.2.2.1.2.2.2.2.2.2.2.2.2.2.2.2.1 = v10.2.2.2.2.2.1.2.2.2.2.2.2.2.2.2.2.2.2.1) &&
                                                          (decide (v10.2.2.2.2.1.2.2.2.2.2.2.2.2.2.2.2.2.2.1 = v10.2.2.2.2.2.1.2.2.2.2.2.2.2.2.2.2.2.2.2.1) &&
                                                            true)))))))))))))),
                              ())).bind
                      fun (v12 : Bool × Unit) => some v12.1
theorem t_conciergelaw14_EntryUnlike (x : ((Int) × (List UInt8) × (Int) × (Int) × (Int) × (Int) × (List UInt8) × (Int) × (Int) × (Int) × (List UInt8) × (List UInt8) × (List UInt8) × (List UInt8) × Unit) × ((Int) × (List UInt8) × (Int) × (Int) × (Int) × (Int) × (List UInt8) × (Int) × (Int) × (Int) × (List UInt8) × (List UInt8) × (List UInt8) × (List UInt8) × Unit)) (F : Nat) : fnRun TT Tryd.prog (e_conciergelaw14_EntryUnlike F) s_conciergelaw14_EntryUnlike (bodyOf 5) F x = M_conciergelaw14_EntryUnlike F x := by kernel_rfl
theorem c_conciergelaw14_EntryUnlike (F : Nat) : Ctr TT Tryd.prog 5 (conOf TT s_conciergelaw14_EntryUnlike (M_conciergelaw14_EntryUnlike F)) :=
  ctr_of (code := bodyOf 5) Tryd.func5 (by kernel_rfl) (by kernel_rfl) (by kernel_rfl) (by kernel_rfl) (envS_ok (envS_ok (envS_ok (envS_ok envN_ok (c_conciergelaw14_awake F)) (c_conciergelaw14_large F)) (c_entry_Pack F)) (c_conciergeref14_May F)) hm (by kernel_rfl) (fun x r h => ⟨F, (t_conciergelaw14_EntryUnlike x F).trans h⟩)
theorem mo_conciergelaw14_EntryUnlike {F F' : Nat} (h : F ≤ F') : ∀ v, Le (M_conciergelaw14_EntryUnlike F v) (M_conciergelaw14_EntryUnlike F' v) := by
  intro v
  unfold M_conciergelaw14_EntryUnlike
  with_reducible repeat (first | (intro v) | exact Le.refl _ | exact h | exact mo_conciergelaw14_awake h _ | exact mo_conciergelaw14_large h _ | exact mo_entry_Pack h _ | exact mo_conciergeref14_May h _ | apply Le.bind | apply Le.ite | apply Le.loop | apply Le.sumC)
noncomputable def s_conciergelaw14_EntryRecords : Spec Kd := { params := [(.agg [(.int .i64), (.int .i64), .str, (.int .i64), (.int .i64), (.int .i64), (.int .i64), .str, (.int .i64), (.int .i64), (.int .i64), .str, .str, .str, .str])], ret := (.one (.a .bool)), pins := [], pl := { nt := 53, cuts := [(9, [(8, ⟨[.tmp 1 (.a (.ptr 64 0)), .tmp 3 (.a .str), .tmp 5 (.a (.ptr 320 0)), .tmp 6 (.a (.int .i64)), .tmp 38 (.a .bool), .box 64 (.cells 37 [(.int .i64), (.int .i64), .str, (.int .i64), (.int .i64), (.int .i64), (.int .i64), .str, (.int .i64), (.int .i64), (.int .i64), .str, .str, .str, .str]), .box 320 (.cells 37 [(.int .i64), (.int .i64), .str, (.int .i64), (.int .i64), (.int .i64), (.int .i64), .str, (.int .i64), (.int .i64), (.int .i64), .str, .str, .str, .str])], [], []⟩), (5, ⟨[.tmp 1 (.a (.ptr 64 0)), .tmp 5 (.a (.ptr 320 0)), .tmp 6 (.a (.int .i64)), .tmp 43 (.a .bool), .box 64 (.cells 37 [(.int .i64), (.int .i64), .str, (.int .i64), (.int .i64), (.int .i64), (.int .i64), .str, (.int .i64), (.int .i64), (.int .i64), .str, .str, .str, .str]), .box 320 (.cells 37 [(.int .i64), (.int .i64), .str, (.int .i64), (.int .i64), (.int .i64), (.int .i64), .str, (.int .i64), (.int .i64), (.int .i64), .str, .str, .str, .str])], [], []⟩), (4, ⟨[.tmp 1 (.a (.ptr 64 0)), .tmp 5 (.a (.ptr 320 0)), .tmp 47 (.a .bool), .box 64 (.cells 37 [(.int .i64), (.int .i64), .str, (.int .i64), (.int .i64), (.int .i64), (.int .i64), .str, (.int .i64), (.int .i64), (.int .i64), .str, .str, .str, .str]), .box 320 (.cells 37 [(.int .i64), (.int .i64), .str, (.int .i64), (.int .i64), (.int .i64), (.int .i64), .str, (.int .i64), (.int .i64), (.int .i64), .str, .str, .str, .str])], [], []⟩), (5, ⟨[.tmp 52 (.a .bool)], [], []⟩)]), (7, [(6, ⟨[.tmp 25 (.a .bool)], [], []⟩)])] }, rfrz := [], ts := [2] }
noncomputable def e_conciergelaw14_EntryRecords (F : Nat) : Env El := (envS 21 (conOf TT s_conciergeref14_RecordBytes (M_conciergeref14_RecordBytes F)) (envS 20 (conOf TT s_entry_Parse (M_entry_Parse F)) (envS 19 (conOf TT s_conciergeref14_MayRecord (M_conciergeref14_MayRecord F)) (envS 18 (conOf TT s_entry_Record (M_entry_Record F)) (envS 11 (conOf TT s_conciergelaw14_large (M_conciergelaw14_large F)) (envS 10 (conOf TT s_conciergelaw14_awake (M_conciergelaw14_awake F)) envN))))))
/-- concierge/conciergelaw14.EntryRecords -/
noncomputable def M_conciergelaw14_EntryRecords (F : Nat) (x : ((Int) × (Int) × (List UInt8) × (Int) × (Int) × (Int) × (Int) × (List UInt8) × (Int) × (Int) × (Int) × (List UInt8) × (List UInt8) × (List UInt8) × (List UInt8) × Unit)) : Option (Bool) :=
  (M_conciergelaw14_awake F ()).bind fun (v0 : Bool) =>
    if (!v0) = true then some false
    else
      (M_conciergelaw14_large F x.2).bind fun (v1 : Bool) =>
        if v1 = true then some true
        else
          (M_entry_Record F x).bind fun (v2 : List UInt8 × Int) =>
            (M_conciergeref14_MayRecord F x).bind fun (v3 : Bool) =>
              if (!v3) = true then
                (if decide (v2.2 = 1) = true then some (decide (v2.1 = []), ()) else some (false, ())).bind fun (v4 : Bool × Unit) => some v4.1
              else
                (M_entry_Parse F v2.1).bind
                  fun
                    (v5 :
                      (Int ×
                          Int × List UInt8 × Int × Int × Int × Int × List UInt8 × Int × Int × Int × List UInt8 × List UInt8 × List UInt8 × List UInt8 × Unit) ×
                        Int) =>
                  (if decide (v2.2 = 0) = true then
                        (M_conciergeref14_RecordBytes F x).bind fun (v6 : List UInt8) => some ((), v2.1, (), v5.2, decide (v2.1 = v6), x, v5.1, ())
                      else some ((), v2.1, (), v5.2, false, x, v5.1, ())).bind
                    fun
                      (v7 :
                        Unit ×
                          List UInt8 ×
                            Unit ×
                              Int ×
                                Bool ×
                                  (Int ×
                                      Int ×
                                        List UInt8 ×
                                          Int × Int × Int × Int × List UInt8 × Int × Int × Int × List UInt8 × List UInt8 × List UInt8 × List UInt8 × Unit) ×
                                    (Int ×
                                        Int ×
                                          List UInt8 ×
                                            Int × Int × Int × Int × List UInt8 × Int × Int × Int × List UInt8 × List UInt8 × List UInt8 × List UInt8 × Unit) ×
                                      Unit) =>
                    (if v7.2.2.2.2.1 = true then some ((), (), v7.2.2.2.1, decide ((↑v7.2.1.length : Int) ≤ 235), v7.2.2.2.2.2.1, v7.2.2.2.2.2.2.1, ())
                        else some ((), (), v7.2.2.2.1, false, v7.2.2.2.2.2.1, v7.2.2.2.2.2.2.1, ())).bind
                      fun
                        (v8 :
                          Unit ×
                            Unit ×
                              Int ×
                                Bool ×
                                  (Int ×
                                      Int ×
                                        List UInt8 ×
                                          Int × Int × Int × Int × List UInt8 × Int × Int × Int × List UInt8 × List UInt8 × List UInt8 × List UInt8 × Unit) ×
                                    (Int ×
                                        Int ×
                                          List UInt8 ×
                                            Int × Int × Int × Int × List UInt8 × Int × Int × Int × List UInt8 × List UInt8 × List UInt8 × List UInt8 × Unit) ×
                                      Unit) =>
                      (if v8.2.2.2.1 = true then some ((), (), decide (v8.2.2.1 = 0), v8.2.2.2.2.1, v8.2.2.2.2.2.1, ())
                          else some ((), (), false, v8.2.2.2.2.1, v8.2.2.2.2.2.1, ())).bind
                        fun
                          (v9 :
                            Unit ×
                              Unit ×
                                Bool ×
                                  (Int ×
                                      Int ×
                                        List UInt8 ×
                                          Int × Int × Int × Int × List UInt8 × Int × Int × Int × List UInt8 × List UInt8 × List UInt8 × List UInt8 × Unit) ×
                                    (Int ×
                                        Int ×
                                          List UInt8 ×
                                            Int × Int × Int × Int × List UInt8 × Int × Int × Int × List UInt8 × List UInt8 × List UInt8 × List UInt8 × Unit) ×
                                      Unit) =>
                        (if v9.2.2.1 = true then
                              some
                                (decide (v9.2.2.2.2.1.1 = v9.2.2.2.1.1) &&
                                    (decide (v9.2.2.2.2.1.2.1 = v9.2.2.2.1.2.1) &&
                                        (decide (v9.2.2.2.2.1.2.2.1 = v9.2.2.2.1.2.2.1) &&
                                          (decide (v9.2.2.2.2.1.2.2.2.1 = v9.2.2.2.1.2.2.2.1) &&
                                            (decide (v9.2.2.2.2.1.2.2.2.2.1 = v9.2.2.2.1.2.2.2.2.1) &&
                                              (decide (v9.2.2.2.2.1.2.2.2.2.2.1 = v9.2.2.2.1.2.2.2.2.2.1) &&
                                                (decide (v9.2.2.2.2.1.2.2.2.2.2.2.1 = v9.2.2.2.1.2.2.2.2.2.2.1) &&
                                                  (decide (v9.2.2.2.2.1.2.2.2.2.2.2.2.1 = v9.2.2.2.1.2.2.2.2.2.2.2.1) &&
                                                    (decide (v9.2.2.2.2.1.2.2.2.2.2.2.2.2.1 = v9.2.2.2.1.2.2.2.2.2.2.2.2.1) &&
                                                      (decide (v9.2.2.2.2.1.2.2.2.2.2.2.2.2.2.1 = v9.2.2.2.1.2.2.2.2.2.2.2.2.2.1) &&
                                                        (decide (v9.2.2.2.2.1.2.2.2.2.2.2.2.2.2.2.1 = v9.2.2.2.1.2.2.2.2.2.2.2.2.2.2.1) &&
                                                          (decide (v9.2.2.2.2.1.2.2.2.2.2.2.2.2.2.2.2.1 = v9.2.2.2.1.2.2.2.2.2.2.2.2.2.2.2.1) &&
                                                            (decide (v9.2.2.2.2.1.2.2.2.2.2.2.2.2.2.2.2.2.1 = v9.2.2.2.1.2.2.2.2.2.2.2.2.2.2.2.2.1) &&
                                                              (decide (v9.2.2.2.2.1.2.2.2.2.2.2.2.2.2.2.2.2.2.1 = v9.2.2.2.1.2.2.2.2.2.2.2.2.2.2.2.2.2.1) &&
                                                                (decide (v9.2.2.2.2.1.2.2.2.2.2.2.2.2.2.2.2.2.2.2.1 = v9.2.2.2.1.2.2.2.2.2.2.2.2.2.2.2.2.2.2.1) &&
                                                                  true))))))))))))) &&
                                      true),
                                  ())
                            else some (false, ())).bind
                          fun (v10 : Bool × Unit) => some v10.1
theorem t_conciergelaw14_EntryRecords (x : ((Int) × (Int) × (List UInt8) × (Int) × (Int) × (Int) × (Int) × (List UInt8) × (Int) × (Int) × (Int) × (List UInt8) × (List UInt8) × (List UInt8) × (List UInt8) × Unit)) (F : Nat) : fnRun TT Tryd.prog (e_conciergelaw14_EntryRecords F) s_conciergelaw14_EntryRecords (bodyOf 6) F x = M_conciergelaw14_EntryRecords F x := by kernel_rfl
theorem c_conciergelaw14_EntryRecords (F : Nat) : Ctr TT Tryd.prog 6 (conOf TT s_conciergelaw14_EntryRecords (M_conciergelaw14_EntryRecords F)) :=
  ctr_of (code := bodyOf 6) Tryd.func6 (by kernel_rfl) (by kernel_rfl) (by kernel_rfl) (by kernel_rfl) (envS_ok (envS_ok (envS_ok (envS_ok (envS_ok (envS_ok envN_ok (c_conciergelaw14_awake F)) (c_conciergelaw14_large F)) (c_entry_Record F)) (c_conciergeref14_MayRecord F)) (c_entry_Parse F)) (c_conciergeref14_RecordBytes F)) hm (by kernel_rfl) (fun x r h => ⟨F, (t_conciergelaw14_EntryRecords x F).trans h⟩)
theorem mo_conciergelaw14_EntryRecords {F F' : Nat} (h : F ≤ F') : ∀ v, Le (M_conciergelaw14_EntryRecords F v) (M_conciergelaw14_EntryRecords F' v) := by
  intro v
  unfold M_conciergelaw14_EntryRecords
  with_reducible repeat (first | (intro v) | exact Le.refl _ | exact h | exact mo_conciergelaw14_awake h _ | exact mo_conciergelaw14_large h _ | exact mo_entry_Record h _ | exact mo_conciergeref14_MayRecord h _ | exact mo_entry_Parse h _ | exact mo_conciergeref14_RecordBytes h _ | apply Le.bind | apply Le.ite | apply Le.loop | apply Le.sumC)
noncomputable def s_conciergelaw14_EntryParses : Spec Kd := { params := [(.a .str)], ret := (.one (.a .bool)), pins := [], pl := { nt := 38, cuts := [(9, [(7, ⟨[.tmp 37 (.a .bool)], [], []⟩)]), (8, [(7, ⟨[.tmp 30 (.a .bool)], [], []⟩)])] }, rfrz := [], ts := [2] }
noncomputable def e_conciergelaw14_EntryParses (F : Nat) : Env El := (envS 22 (conOf TT s_conciergeref14_Parse (M_conciergeref14_Parse F)) (envS 20 (conOf TT s_entry_Parse (M_entry_Parse F)) (envS 10 (conOf TT s_conciergelaw14_awake (M_conciergelaw14_awake F)) envN)))
/-- concierge/conciergelaw14.EntryParses -/
noncomputable def M_conciergelaw14_EntryParses (F : Nat) (x : (List UInt8)) : Option (Bool) :=
  (M_conciergelaw14_awake F ()).bind fun (v0 : Bool) =>
    if (!v0) = true then some false
    else
      if decide (300 < (↑x.length : Int)) = true then some true
      else
        (M_entry_Parse F x).bind
          fun
            (v1 :
              (Int × Int × List UInt8 × Int × Int × Int × Int × List UInt8 × Int × Int × Int × List UInt8 × List UInt8 × List UInt8 × List UInt8 × Unit) ×
                Int) =>
          (M_conciergeref14_Parse F x).bind
            fun
              (v2 :
                (Int × Int × List UInt8 × Int × Int × Int × Int × List UInt8 × Int × Int × Int × List UInt8 × List UInt8 × List UInt8 × List UInt8 × Unit) ×
                  Bool) =>
            if (!v2.2) = true then
              (if decide (v1.2 = 3) = true then
                    some
                      (decide (v1.1.1 = 0) &&
                          (decide (v1.1.2.1 = 0) &&
                              (decide (v1.1.2.2.1 = []) &&
                                (decide (v1.1.2.2.2.1 = 0) &&
                                  (decide (v1.1.2.2.2.2.1 = 0) &&
                                    (decide (v1.1.2.2.2.2.2.1 = 0) &&
                                      (decide (v1.1.2.2.2.2.2.2.1 = 0) &&
                                        (decide (v1.1.2.2.2.2.2.2.2.1 = []) &&
                                          (decide (v1.1.2.2.2.2.2.2.2.2.1 = 0) &&
                                            (decide (v1.1.2.2.2.2.2.2.2.2.2.1 = 0) &&
                                              (decide (v1.1.2.2.2.2.2.2.2.2.2.2.1 = 0) &&
                                                (decide (v1.1.2.2.2.2.2.2.2.2.2.2.2.1 = []) &&
                                                  (decide (v1.1.2.2.2.2.2.2.2.2.2.2.2.2.1 = []) &&
                                                    (decide (v1.1.2.2.2.2.2.2.2.2.2.2.2.2.2.1 = []) &&
                                                      (decide (v1.1.2.2.2.2.2.2.2.2.2.2.2.2.2.2.1 = []) && true))))))))))))) &&
                            true),
                        ())
                  else some (false, ())).bind
                fun (v3 : Bool × Unit) => some v3.1
            else
              (if decide (v1.2 = 0) = true then
                    some
                      (decide (v1.1.1 = v2.1.1) &&
                          (decide (v1.1.2.1 = v2.1.2.1) &&
                              (decide (v1.1.2.2.1 = v2.1.2.2.1) &&
                                (decide (v1.1.2.2.2.1 = v2.1.2.2.2.1) &&
                                  (decide (v1.1.2.2.2.2.1 = v2.1.2.2.2.2.1) &&
                                    (decide (v1.1.2.2.2.2.2.1 = v2.1.2.2.2.2.2.1) &&
                                      (decide (v1.1.2.2.2.2.2.2.1 = v2.1.2.2.2.2.2.2.1) &&
                                        (decide (v1.1.2.2.2.2.2.2.2.1 = v2.1.2.2.2.2.2.2.2.1) &&
                                          (decide (v1.1.2.2.2.2.2.2.2.2.1 = v2.1.2.2.2.2.2.2.2.2.1) &&
                                            (decide (v1.1.2.2.2.2.2.2.2.2.2.1 = v2.1.2.2.2.2.2.2.2.2.2.1) &&
                                              (decide (v1.1.2.2.2.2.2.2.2.2.2.2.1 = v2.1.2.2.2.2.2.2.2.2.2.2.1) &&
                                                (decide (v1.1.2.2.2.2.2.2.2.2.2.2.2.1 = v2.1.2.2.2.2.2.2.2.2.2.2.2.1) &&
                                                  (decide (v1.1.2.2.2.2.2.2.2.2.2.2.2.2.1 = v2.1.2.2.2.2.2.2.2.2.2.2.2.2.1) &&
                                                    (decide (v1.1.2.2.2.2.2.2.2.2.2.2.2.2.2.1 = v2.1.2.2.2.2.2.2.2.2.2.2.2.2.2.1) &&
                                                      (decide (v1.1.2.2.2.2.2.2.2.2.2.2.2.2.2.2.1 = v2.1.2.2.2.2.2.2.2.2.2.2.2.2.2.2.1) && true))))))))))))) &&
                            true),
                        ())
                  else some (false, ())).bind
                fun (v4 : Bool × Unit) => some v4.1
theorem t_conciergelaw14_EntryParses (x : (List UInt8)) (F : Nat) : fnRun TT Tryd.prog (e_conciergelaw14_EntryParses F) s_conciergelaw14_EntryParses (bodyOf 7) F x = M_conciergelaw14_EntryParses F x := by kernel_rfl
theorem c_conciergelaw14_EntryParses (F : Nat) : Ctr TT Tryd.prog 7 (conOf TT s_conciergelaw14_EntryParses (M_conciergelaw14_EntryParses F)) :=
  ctr_of (code := bodyOf 7) Tryd.func7 (by kernel_rfl) (by kernel_rfl) (by kernel_rfl) (by kernel_rfl) (envS_ok (envS_ok (envS_ok envN_ok (c_conciergelaw14_awake F)) (c_entry_Parse F)) (c_conciergeref14_Parse F)) hm (by kernel_rfl) (fun x r h => ⟨F, (t_conciergelaw14_EntryParses x F).trans h⟩)
theorem mo_conciergelaw14_EntryParses {F F' : Nat} (h : F ≤ F') : ∀ v, Le (M_conciergelaw14_EntryParses F v) (M_conciergelaw14_EntryParses F' v) := by
  intro v
  unfold M_conciergelaw14_EntryParses
  with_reducible repeat (first | (intro v) | exact Le.refl _ | exact h | exact mo_conciergelaw14_awake h _ | exact mo_entry_Parse h _ | exact mo_conciergeref14_Parse h _ | apply Le.bind | apply Le.ite | apply Le.loop | apply Le.sumC)

end Go.Vm
