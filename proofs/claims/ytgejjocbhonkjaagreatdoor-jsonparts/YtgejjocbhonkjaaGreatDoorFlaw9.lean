/- Models of functions of the program, and that each keeps its contract: for all arguments of its shape. No condition. -/
import Derived.Test.YtgejjocbhonkjaaGreatDoorKt
import Derived.Test.YtgejjocbhonkjaaGreatDoorFjson
import Derived.Test.YtgejjocbhonkjaaGreatDoorFr9v
namespace Go.Vm
open Go.Proofs
set_option linter.unusedVariables false
noncomputable def s_conciergelaw09_awake : Spec Kd := { params := [], ret := (.one (.a .bool)), pins := [], pl := { nt := 30, cuts := [(3, [(6, ⟨[.tmp 3 (.a .str), .tmp 4 (.a .bool), .tmp 18 (.a .bool)], [], []⟩), (3, ⟨[.tmp 3 (.a .str), .tmp 21 (.a .bool)], [], []⟩), (4, ⟨[.tmp 25 (.a .bool)], [], []⟩), (4, ⟨[.tmp 29 (.a .bool)], [], []⟩)])] }, rfrz := [], ts := [0] }
noncomputable def e_conciergelaw09_awake (F : Nat) : Env El := (envS 20 (conOf TT s_json_Kind (M_json_Kind F)) (envS 25 (conOf TT s_json_Text (M_json_Text F)) (envS 16 (conOf TT s_json_Form (M_json_Form F)) envN)))
/-- concierge/conciergelaw09.awake -/
noncomputable def M_conciergelaw09_awake (F : Nat) (x : Unit) : Option (Bool) :=
  (M_json_Form F [32, 123, 34, 98, 34, 58, 91, 49, 44, 45, 48, 93, 44, 32, 34, 97, 34, 58, 34, 92, 117, 48, 48, 101, 57, 92, 110, 34, 125]).bind
    fun (v0 : List UInt8 × Int) =>
    (M_json_Text F [34, 97, 92, 47, 34]).bind fun (v1 : List UInt8 × Bool) =>
      (if decide (v0.2 = 0) = true then
            some (v1.1, v1.2, decide (v0.1 = [123, 34, 97, 34, 58, 34, 195, 169, 92, 110, 34, 44, 34, 98, 34, 58, 91, 49, 44, 48, 93, 125]), ())
          else some (v1.1, v1.2, false, ())).bind
        fun (v2 : List UInt8 × Bool × Bool × Unit) =>
        (if v2.2.2.1 = true then some (v2.1, v2.2.1, ()) else some (v2.1, false, ())).bind fun (v3 : List UInt8 × Bool × Unit) =>
          (if v3.2.1 = true then some (decide (v3.1 = [97, 47]), ()) else some (false, ())).bind fun (v4 : Bool × Unit) =>
            (if v4.1 = true then (M_json_Kind F [91, 93]).bind fun (v5 : Int) => some (decide (v5 = 5), ()) else some (false, ())).bind fun (v6 : Bool × Unit) =>
              some v6.1
theorem t_conciergelaw09_awake (x : Unit) (F : Nat) : fnRun TT Tryz.prog (e_conciergelaw09_awake F) s_conciergelaw09_awake (bodyOf 15) F x = M_conciergelaw09_awake F x := by kernel_rfl
theorem c_conciergelaw09_awake (F : Nat) : Ctr TT Tryz.prog 15 (conOf TT s_conciergelaw09_awake (M_conciergelaw09_awake F)) :=
  ctr_of (code := bodyOf 15) Tryz.func15 (by kernel_rfl) (by kernel_rfl) (by kernel_rfl) (by kernel_rfl) (envS_ok (envS_ok (envS_ok envN_ok (c_json_Form F)) (c_json_Text F)) (c_json_Kind F)) hm (by kernel_rfl) (fun x r h => ⟨F, (t_conciergelaw09_awake x F).trans h⟩)
theorem mo_conciergelaw09_awake {F F' : Nat} (h : F ≤ F') : ∀ v, Le (M_conciergelaw09_awake F v) (M_conciergelaw09_awake F' v) := by
  intro v
  unfold M_conciergelaw09_awake
  with_reducible repeat (first | (intro v) | exact Le.refl _ | exact h | exact mo_json_Form h _ | exact mo_json_Text h _ | exact mo_json_Kind h _ | apply Le.bind | apply Le.ite | apply Le.loop | apply Le.sumC)
noncomputable def s_conciergelaw09_JsonForms : Spec Kd := { params := [(.a .str)], ret := (.one (.a .bool)), pins := [], pl := { nt := 54, cuts := [(12, [(9, ⟨[.tmp 3 (.a .str), .tmp 7 (.a .str), .tmp 48 (.a .bool)], [], []⟩), (5, ⟨[.tmp 53 (.a .bool)], [], []⟩)]), (7, [(9, ⟨[.tmp 0 (.a .str), .tmp 3 (.a .str), .tmp 6 (.a (.int .i64)), .tmp 32 (.a .bool)], [], []⟩)])] }, rfrz := [], ts := [2] }
noncomputable def e_conciergelaw09_JsonForms (F : Nat) : Env El := (envS 17 (conOf TT s_conciergeref09_Of (M_conciergeref09_Of F)) (envS 16 (conOf TT s_json_Form (M_json_Form F)) (envS 15 (conOf TT s_conciergelaw09_awake (M_conciergelaw09_awake F)) envN)))
/-- concierge/conciergelaw09.JsonForms -/
noncomputable def M_conciergelaw09_JsonForms (F : Nat) (x : (List UInt8)) : Option (Bool) :=
  (M_conciergelaw09_awake F ()).bind fun (v0 : Bool) =>
    if (!v0) = true then some false
    else
      if decide (500 < (↑x.length : Int)) = true then some true
      else
        (M_json_Form F x).bind fun (v1 : List UInt8 × Int) =>
          (M_conciergeref09_Of F x).bind fun (v2 : (Int × List UInt8 × List UInt8 × Int × List (List UInt8) × List (List UInt8) × Unit) × Int) =>
            (if (!decide (v1.2 = v2.2)) = false then some (x, v1.1, v2.2, !decide (v1.1 = v2.1.2.1), ()) else some (x, v1.1, v2.2, true, ())).bind
              fun (v3 : List UInt8 × List UInt8 × Int × Bool × Unit) =>
              if v3.2.2.2.1 = true then some false
              else
                if (!decide (v3.2.2.1 = 0)) = true then some true
                else
                  (M_json_Form F v3.2.1).bind fun (v4 : List UInt8 × Int) =>
                    (if decide ((↑v3.2.1.length : Int) ≤ (↑v3.1.length : Int)) = true then some (v3.2.1, v4.1, decide (v4.2 = 0), ())
                        else some (v3.2.1, v4.1, false, ())).bind
                      fun (v5 : List UInt8 × List UInt8 × Bool × Unit) =>
                      (if v5.2.2.1 = true then some (decide (v5.2.1 = v5.1), ()) else some (false, ())).bind fun (v6 : Bool × Unit) => some v6.1
theorem t_conciergelaw09_JsonForms (x : (List UInt8)) (F : Nat) : fnRun TT Tryz.prog (e_conciergelaw09_JsonForms F) s_conciergelaw09_JsonForms (bodyOf 5) F x = M_conciergelaw09_JsonForms F x := by kernel_rfl
theorem c_conciergelaw09_JsonForms (F : Nat) : Ctr TT Tryz.prog 5 (conOf TT s_conciergelaw09_JsonForms (M_conciergelaw09_JsonForms F)) :=
  ctr_of (code := bodyOf 5) Tryz.func5 (by kernel_rfl) (by kernel_rfl) (by kernel_rfl) (by kernel_rfl) (envS_ok (envS_ok (envS_ok envN_ok (c_conciergelaw09_awake F)) (c_json_Form F)) (c_conciergeref09_Of F)) hm (by kernel_rfl) (fun x r h => ⟨F, (t_conciergelaw09_JsonForms x F).trans h⟩)
theorem mo_conciergelaw09_JsonForms {F F' : Nat} (h : F ≤ F') : ∀ v, Le (M_conciergelaw09_JsonForms F v) (M_conciergelaw09_JsonForms F' v) := by
  intro v
  unfold M_conciergelaw09_JsonForms
  with_reducible repeat (first | (intro v) | exact Le.refl _ | exact h | exact mo_conciergelaw09_awake h _ | exact mo_json_Form h _ | exact mo_conciergeref09_Of h _ | apply Le.bind | apply Le.ite | apply Le.loop | apply Le.sumC)
noncomputable def s_conciergelaw09_JsonOrder : Spec Kd := { params := [(.a .str), (.a .str)], ret := (.one (.a .bool)), pins := [], pl := { nt := 73, cuts := [(11, [(8, ⟨[.tmp 72 (.a .bool)], [], []⟩)]), (10, [(12, ⟨[.tmp 9 (.a .str), .tmp 10 (.a (.int .i64)), .tmp 11 (.a .str), .tmp 12 (.a (.int .i64))], [], []⟩)]), (9, [(12, ⟨[.tmp 5 (.a .str), .tmp 7 (.a .str), .tmp 9 (.a .str), .tmp 10 (.a (.int .i64))], [], []⟩)]), (7, [(6, ⟨[.tmp 0 (.a .str), .tmp 1 (.a .str), .tmp 5 (.a .str), .tmp 7 (.a .str), .tmp 38 (.a .bool)], [], []⟩)]), (3, [(8, ⟨[.tmp 0 (.a .str), .tmp 1 (.a .str), .tmp 22 (.a .bool)], [], []⟩)])] }, rfrz := [], ts := [4] }
noncomputable def e_conciergelaw09_JsonOrder (F : Nat) : Env El := (envS 18 (conOf TT s_conciergeref09_Fault (M_conciergeref09_Fault F)) (envS 16 (conOf TT s_json_Form (M_json_Form F)) (envS 15 (conOf TT s_conciergelaw09_awake (M_conciergelaw09_awake F)) envN)))
/-- concierge/conciergelaw09.JsonOrder -/
noncomputable def M_conciergelaw09_JsonOrder (F : Nat) (x : (List UInt8) × (List UInt8)) : Option (Bool) :=
  (M_conciergelaw09_awake F ()).bind fun (v0 : Bool) =>
    if (!v0) = true then some false
    else
      (if decide (200 < (↑x.1.length : Int)) = false then some (x.1, x.2, decide (200 < (↑x.2.length : Int)), ()) else some (x.1, x.2, true, ())).bind
        fun (v1 : List UInt8 × List UInt8 × Bool × Unit) =>
        if v1.2.2.1 = true then some true
        else
          (M_json_Form F v1.1).bind fun (v2 : List UInt8 × Int) =>
            (M_json_Form F v1.2.1).bind fun (v3 : List UInt8 × Int) =>
              (if (!decide (v2.2 = 0)) = false then some (v1.1, v1.2.1, v2.1, v3.1, !decide (v3.2 = 0), ()) else some (v1.1, v1.2.1, v2.1, v3.1, true, ())).bind
                fun (v4 : List UInt8 × List UInt8 × List UInt8 × List UInt8 × Bool × Unit) =>
                if v4.2.2.2.2.1 = true then
                  (M_conciergeref09_Fault F v4.1).bind fun (v5 : Int) =>
                    (M_conciergeref09_Fault F v4.2.1).bind fun (v6 : Int) => some !decide (IntKind.i64.wrap (v5 + v6) = 0)
                else
                  (if decide ([123, 34, 120, 34, 58].length + v4.2.2.1.length ≤ 9223372036854775807) = true then
                        if decide (([123, 34, 120, 34, 58] ++ v4.2.2.1).length + [44, 34, 121, 34, 58, 32].length ≤ 9223372036854775807) = true then
                          if
                              decide (([123, 34, 120, 34, 58] ++ v4.2.2.1 ++ [44, 34, 121, 34, 58, 32]).length + v4.2.2.2.1.length ≤ 9223372036854775807) =
                                true then
                            if
                                decide
                                    (([123, 34, 120, 34, 58] ++ v4.2.2.1 ++ [44, 34, 121, 34, 58, 32] ++ v4.2.2.2.1).length + [125].length ≤
                                      9223372036854775807) =
                                  true then
                              (M_json_Form F ([123, 34, 120, 34, 58] ++ v4.2.2.1 ++ [44, 34, 121, 34, 58, 32] ++ v4.2.2.2.1 ++ [125])).bind
                                fun (v7 : List UInt8 × Int) => some (v4.2.2.1, v4.2.2.2.1, v7.1, v7.2, ())
                            else none
                          else none
                        else none
                      else none).bind
                    fun (v8 : List UInt8 × List UInt8 × List UInt8 × Int × Unit) =>
                    (if decide ([123, 34, 121, 34, 32, 58].length + v8.2.1.length ≤ 9223372036854775807) = true then
                          if decide (([123, 34, 121, 34, 32, 58] ++ v8.2.1).length + [44, 34, 120, 34, 58].length ≤ 9223372036854775807) = true then
                            if decide (([123, 34, 121, 34, 32, 58] ++ v8.2.1 ++ [44, 34, 120, 34, 58]).length + v8.1.length ≤ 9223372036854775807) = true then
                              if
                                  decide (([123, 34, 121, 34, 32, 58] ++ v8.2.1 ++ [44, 34, 120, 34, 58] ++ v8.1).length + [125].length ≤ 9223372036854775807) =
                                    true then
                                (M_json_Form F ([123, 34, 121, 34, 32, 58] ++ v8.2.1 ++ [44, 34, 120, 34, 58] ++ v8.1 ++ [125])).bind
                                  fun (v9 : List UInt8 × Int) => some (v8.2.2.1, v8.2.2.2.1, v9.1, v9.2, ())
                              else none
                            else none
                          else none
                        else none).bind
                      fun (v10 : List UInt8 × Int × List UInt8 × Int × Unit) =>
                      (if decide (v10.2.1 = v10.2.2.2.1) = true then some (decide (v10.1 = v10.2.2.1), ()) else some (false, ())).bind fun (v11 : Bool × Unit) =>
                        some v11.1
theorem t_conciergelaw09_JsonOrder (x : (List UInt8) × (List UInt8)) (F : Nat) : fnRun TT Tryz.prog (e_conciergelaw09_JsonOrder F) s_conciergelaw09_JsonOrder (bodyOf 6) F x = M_conciergelaw09_JsonOrder F x := by kernel_rfl
theorem c_conciergelaw09_JsonOrder (F : Nat) : Ctr TT Tryz.prog 6 (conOf TT s_conciergelaw09_JsonOrder (M_conciergelaw09_JsonOrder F)) :=
  ctr_of (code := bodyOf 6) Tryz.func6 (by kernel_rfl) (by kernel_rfl) (by kernel_rfl) (by kernel_rfl) (envS_ok (envS_ok (envS_ok envN_ok (c_conciergelaw09_awake F)) (c_json_Form F)) (c_conciergeref09_Fault F)) hm (by kernel_rfl) (fun x r h => ⟨F, (t_conciergelaw09_JsonOrder x F).trans h⟩)
theorem mo_conciergelaw09_JsonOrder {F F' : Nat} (h : F ≤ F') : ∀ v, Le (M_conciergelaw09_JsonOrder F v) (M_conciergelaw09_JsonOrder F' v) := by
  intro v
  unfold M_conciergelaw09_JsonOrder
  with_reducible repeat (first | (intro v) | exact Le.refl _ | exact h | exact mo_conciergelaw09_awake h _ | exact mo_json_Form h _ | exact mo_conciergeref09_Fault h _ | apply Le.bind | apply Le.ite | apply Le.loop | apply Le.sumC)
noncomputable def s_conciergelaw09_JsonParts : Spec Kd := { params := [(.a .str), (.a .str), (.a (.int .i64))], ret := (.one (.a .bool)), pins := [], pl := { nt := 173, joins := [(2100101, (.norm, ⟨[.tmp 0 (.a .str), .tmp 1 (.a .str), .tmp 2 (.a (.int .i64)), .tmp 7 (.a (.ptr 448 0)), .tmp 10 (.a .str), .tmp 11 (.a .bool), .tmp 13 (.a .str), .tmp 14 (.a .bool), .box 448 (.cells 43 [(.int .i64), .str, .str, (.int .i64), (.slc .str), (.slc .str)])], [2496], [.cellSlc 448 4 .str, .cellSlc 448 5 .str]⟩), [])], bjoins := [(1, (.norm, ⟨[.tmp 0 (.a .str), .tmp 1 (.a .str), .tmp 2 (.a (.int .i64)), .tmp 7 (.a (.ptr 448 0)), .tmp 9 (.a (.slc .str)), .tmp 10 (.a .str), .tmp 11 (.a .bool), .tmp 62 (.a (.int .i64)), .tmp 63 (.a (.int .i64)), .box 448 (.cells 43 [(.int .i64), .str, .str, (.int .i64), (.slc .str), (.slc .str)])], [2496], [.cellSlc 448 4 .str, .cellSlc 448 5 .str]⟩), [(.ret, ⟨[.tmp 6 (.a .bool)], [2496], []⟩)])], loops := [(0, ⟨[.tmp 0 (.a .str), .tmp 1 (.a .str), .tmp 2 (.a (.int .i64)), .tmp 7 (.a (.ptr 448 0)), .tmp 9 (.a (.slc .str)), .tmp 10 (.a .str), .tmp 11 (.a .bool), .tmp 62 (.a (.int .i64)), .tmp 63 (.a (.int .i64)), .box 448 (.cells 43 [(.int .i64), .str, .str, (.int .i64), (.slc .str), (.slc .str)])], [2496], [.cellSlc 448 4 .str, .cellSlc 448 5 .str]⟩, (.exit 0, ⟨[.tmp 0 (.a .str), .tmp 1 (.a .str), .tmp 2 (.a (.int .i64)), .tmp 7 (.a (.ptr 448 0)), .tmp 10 (.a .str), .tmp 11 (.a .bool), .box 448 (.cells 43 [(.int .i64), .str, .str, (.int .i64), (.slc .str), (.slc .str)])], [2496], [.cellSlc 448 4 .str, .cellSlc 448 5 .str]⟩), [(.ret, ⟨[.tmp 6 (.a .bool)], [2496], []⟩)])], cuts := [(25, [(8, ⟨[.tmp 7 (.a (.ptr 448 0)), .tmp 13 (.a .str), .tmp 14 (.a .bool), .tmp 17 (.a .str), .tmp 18 (.a .bool), .tmp 19 (.a (.int .i64)), .tmp 20 (.a .bool), .tmp 21 (.a .str), .tmp 22 (.a .bool), .tmp 136 (.a .bool), .box 448 (.cells 43 [(.int .i64), .str, .str, (.int .i64), (.slc .str), (.slc .str)])], [2496], [.cellSlc 448 4 .str, .cellSlc 448 5 .str]⟩), (5, ⟨[.tmp 7 (.a (.ptr 448 0)), .tmp 14 (.a .bool), .tmp 18 (.a .bool), .tmp 19 (.a (.int .i64)), .tmp 20 (.a .bool), .tmp 21 (.a .str), .tmp 22 (.a .bool), .tmp 141 (.a .bool), .box 448 (.cells 43 [(.int .i64), .str, .str, (.int .i64), (.slc .str), (.slc .str)])], [2496], [.cellSlc 448 4 .str, .cellSlc 448 5 .str]⟩), (5, ⟨[.tmp 7 (.a (.ptr 448 0)), .tmp 19 (.a (.int .i64)), .tmp 20 (.a .bool), .tmp 21 (.a .str), .tmp 22 (.a .bool), .tmp 146 (.a .bool), .box 448 (.cells 43 [(.int .i64), .str, .str, (.int .i64), (.slc .str), (.slc .str)])], [2496], [.cellSlc 448 4 .str, .cellSlc 448 5 .str]⟩), (6, ⟨[.tmp 7 (.a (.ptr 448 0)), .tmp 20 (.a .bool), .tmp 21 (.a .str), .tmp 22 (.a .bool), .tmp 152 (.a .bool), .box 448 (.cells 43 [(.int .i64), .str, .str, (.int .i64), (.slc .str), (.slc .str)])], [2496], [.cellSlc 448 4 .str, .cellSlc 448 5 .str]⟩), (7, ⟨[.tmp 7 (.a (.ptr 448 0)), .tmp 21 (.a .str), .tmp 22 (.a .bool), .tmp 159 (.a .bool), .box 448 (.cells 43 [(.int .i64), .str, .str, (.int .i64), (.slc .str), (.slc .str)])], [2496], [.cellSlc 448 4 .str, .cellSlc 448 5 .str]⟩), (6, ⟨[.tmp 7 (.a (.ptr 448 0)), .tmp 22 (.a .bool), .tmp 165 (.a .bool), .box 448 (.cells 43 [(.int .i64), .str, .str, (.int .i64), (.slc .str), (.slc .str)])], [2496], [.cellSlc 448 4 .str, .cellSlc 448 5 .str]⟩), (7, ⟨[.tmp 172 (.a .bool)], [2496], []⟩)]), (19, [(7, ⟨[.tmp 0 (.a .str), .tmp 1 (.a .str), .tmp 2 (.a (.int .i64)), .tmp 7 (.a (.ptr 448 0)), .tmp 10 (.a .str), .tmp 11 (.a .bool), .tmp 13 (.a .str), .tmp 14 (.a .bool), .tmp 94 (.a .bool), .box 448 (.cells 43 [(.int .i64), .str, .str, (.int .i64), (.slc .str), (.slc .str)])], [2496], [.cellSlc 448 4 .str, .cellSlc 448 5 .str]⟩), (7, ⟨[.tmp 0 (.a .str), .tmp 1 (.a .str), .tmp 2 (.a (.int .i64)), .tmp 7 (.a (.ptr 448 0)), .tmp 10 (.a .str), .tmp 11 (.a .bool), .tmp 13 (.a .str), .tmp 14 (.a .bool), .tmp 101 (.a .bool), .box 448 (.cells 43 [(.int .i64), .str, .str, (.int .i64), (.slc .str), (.slc .str)])], [2496], [.cellSlc 448 4 .str, .cellSlc 448 5 .str]⟩)]), (3, [(8, ⟨[.tmp 0 (.a .str), .tmp 1 (.a .str), .tmp 2 (.a (.int .i64)), .tmp 32 (.a .bool)], [2496], []⟩)])], ends := [(13, ⟨[.tmp 0 (.a .str), .tmp 1 (.a .str), .tmp 2 (.a (.int .i64)), .tmp 7 (.a (.ptr 448 0)), .tmp 9 (.a (.slc .str)), .tmp 10 (.a .str), .tmp 11 (.a .bool), .tmp 12 (.a (.int .i64)), .tmp 62 (.a (.int .i64)), .tmp 63 (.a (.int .i64)), .tmp 75 (.a .bool), .box 448 (.cells 43 [(.int .i64), .str, .str, (.int .i64), (.slc .str), (.slc .str)])], [2496], [.cellSlc 448 4 .str, .cellSlc 448 5 .str]⟩), (7, ⟨[.tmp 0 (.a .str), .tmp 1 (.a .str), .tmp 2 (.a (.int .i64)), .tmp 7 (.a (.ptr 448 0)), .tmp 9 (.a (.slc .str)), .tmp 60 (.a .bool), .box 448 (.cells 43 [(.int .i64), .str, .str, (.int .i64), (.slc .str), (.slc .str)])], [2496], [.cellSlc 448 4 .str, .cellSlc 448 5 .str]⟩)] }, rfrz := [], ts := [6] }
noncomputable def e_conciergelaw09_JsonParts (F : Nat) : Env El := (envS 25 (conOf TT s_json_Text (M_json_Text F)) (envS 24 (conOf TT s_json_Number (M_json_Number F)) (envS 23 (conOf TT s_json_Item (M_json_Item F)) (envS 22 (conOf TT s_json_Field (M_json_Field F)) (envS 21 (conOf TT s_json_Len (M_json_Len F)) (envS 20 (conOf TT s_json_Kind (M_json_Kind F)) (envS 19 (conOf TT s_json_Names (M_json_Names F)) (envS 17 (conOf TT s_conciergeref09_Of (M_conciergeref09_Of F)) (envS 15 (conOf TT s_conciergelaw09_awake (M_conciergelaw09_awake F)) envN)))))))))
/-- concierge/conciergelaw09.JsonParts -/
noncomputable def M_conciergelaw09_JsonParts_l0 (F : Nat) (v7 : (List UInt8 ×
                        List UInt8 ×
                          Int ×
                            Unit ×
                              List (List UInt8) ×
                                List UInt8 × Bool × Int × Int × (Int × List UInt8 × List UInt8 × Int × List (List UInt8) × List (List UInt8) × Unit) × Unit)) : Option ((List UInt8 ×
                        List UInt8 ×
                          Int ×
                            Unit ×
                              List (List UInt8) ×
                                List UInt8 × Bool × Int × Int × (Int × List UInt8 × List UInt8 × Int × List (List UInt8) × List (List UInt8) × Unit) × Unit) ⊕ (List UInt8 ×
                          List UInt8 ×
                            Int × Unit × List UInt8 × Bool × (Int × List UInt8 × List UInt8 × Int × List (List UInt8) × List (List UInt8) × Unit) × Unit ⊕
                        Bool × Unit)) :=
  if decide (v7.2.2.2.2.2.2.2.2.1 < v7.2.2.2.2.2.2.2.1) = true then
                          (((idx v7.2.2.2.2.1 v7.2.2.2.2.2.2.2.2.1).bind fun (v8 : List UInt8) =>
                                    (idx v7.2.2.2.2.2.2.2.2.2.1.2.2.2.2.1 v7.2.2.2.2.2.2.2.2.1).bind fun (v9 : List UInt8) =>
                                      some
                                        (v7.1, v7.2.1, v7.2.2.1, (), v7.2.2.2.2.1, v7.2.2.2.2.2.1, v7.2.2.2.2.2.2.1, v7.2.2.2.2.2.2.2.2.1, v7.2.2.2.2.2.2.2.1,
                                          v7.2.2.2.2.2.2.2.2.1, !decide (v8 = v9), v7.2.2.2.2.2.2.2.2.2.1, ())).bind
                                fun
                                  (v10 :
                                    List UInt8 ×
                                      List UInt8 ×
                                        Int ×
                                          Unit ×
                                            List (List UInt8) ×
                                              List UInt8 ×
                                                Bool ×
                                                  Int ×
                                                    Int ×
                                                      Int ×
                                                        Bool × (Int × List UInt8 × List UInt8 × Int × List (List UInt8) × List (List UInt8) × Unit) × Unit) =>
                                if v10.2.2.2.2.2.2.2.2.2.2.1 = true then some (Sum.inr (false, ()))
                                else
                                  (idx v10.2.2.2.2.1 v10.2.2.2.2.2.2.2.1).bind fun (v11 : List UInt8) =>
                                    if decide (v11 = v10.2.1) = true then
                                      (idx v10.2.2.2.2.2.2.2.2.2.2.2.1.2.2.2.2.2.1 v10.2.2.2.2.2.2.2.1).bind fun (v12 : List UInt8) =>
                                        some
                                          (Sum.inl
                                            (v10.1, v10.2.1, v10.2.2.1, (), v10.2.2.2.2.1, v12, true, v10.2.2.2.2.2.2.2.2.1, v10.2.2.2.2.2.2.2.2.2.1,
                                              v10.2.2.2.2.2.2.2.2.2.2.2.1, ()))
                                    else
                                      some
                                        (Sum.inl
                                          (v10.1, v10.2.1, v10.2.2.1, (), v10.2.2.2.2.1, v10.2.2.2.2.2.1, v10.2.2.2.2.2.2.1, v10.2.2.2.2.2.2.2.2.1,
                                            v10.2.2.2.2.2.2.2.2.2.1, v10.2.2.2.2.2.2.2.2.2.2.2.1, ()))).bind
                            fun
                              (v13 :
                                List UInt8 ×
                                    List UInt8 ×
                                      Int ×
                                        Unit ×
                                          List (List UInt8) ×
                                            List UInt8 ×
                                              Bool × Int × Int × (Int × List UInt8 × List UInt8 × Int × List (List UInt8) × List (List UInt8) × Unit) × Unit ⊕
                                  Bool × Unit) =>
                            sumC v13
                              (fun
                                  (v14 :
                                    List UInt8 ×
                                      List UInt8 ×
                                        Int ×
                                          Unit ×
                                            List (List UInt8) ×
                                              List UInt8 ×
                                                Bool ×
                                                  Int × Int × (Int × List UInt8 × List UInt8 × Int × List (List UInt8) × List (List UInt8) × Unit) × Unit) =>
                                some
                                  (Sum.inl
                                    (v14.1, v14.2.1, v14.2.2.1, (), v14.2.2.2.2.1, v14.2.2.2.2.2.1, v14.2.2.2.2.2.2.1, v14.2.2.2.2.2.2.2.1,
                                      IntKind.i64.wrap (v14.2.2.2.2.2.2.2.2.1 + 1), v14.2.2.2.2.2.2.2.2.2.1, ())))
                              fun (v15 : Bool × Unit) => some (Sum.inr (Sum.inr (v15.1, ())))
                        else some (Sum.inr (Sum.inl (v7.1, v7.2.1, v7.2.2.1, (), v7.2.2.2.2.2.1, v7.2.2.2.2.2.2.1, v7.2.2.2.2.2.2.2.2.2.1, ())))
noncomputable def M_conciergelaw09_JsonParts (F : Nat) (x : (List UInt8) × (List UInt8) × (Int)) : Option (Bool) :=
  (M_conciergelaw09_awake F ()).bind fun (v0 : Bool) =>
    if (!v0) = true then some false
    else
      (if decide (500 < (↑x.1.length : Int)) = false then some (x.1, x.2.1, x.2.2, decide (100 < (↑x.2.1.length : Int)), ())
          else some (x.1, x.2.1, x.2.2, true, ())).bind
        fun (v1 : List UInt8 × List UInt8 × Int × Bool × Unit) =>
        if v1.2.2.2.1 = true then some true
        else
          (M_conciergeref09_Of F v1.1).bind fun (v2 : (Int × List UInt8 × List UInt8 × Int × List (List UInt8) × List (List UInt8) × Unit) × Int) =>
            (M_json_Names F v1.1).bind fun (v3 : List (List UInt8)) =>
              ((M_json_Kind F v1.1).bind fun (v4 : Int) =>
                    if (!decide (v4 = v2.1.1)) = false then
                      (M_json_Len F v1.1).bind fun (v5 : Int) =>
                        if (!decide (v5 = (↑v2.1.2.2.2.2.2.1.length : Int))) = false then
                          some (v1.1, v1.2.1, v1.2.2.1, (), v3, !decide ((↑v3.length : Int) = (↑v2.1.2.2.2.2.1.length : Int)), v2.1, ())
                        else some (v1.1, v1.2.1, v1.2.2.1, (), v3, true, v2.1, ())
                    else some (v1.1, v1.2.1, v1.2.2.1, (), v3, true, v2.1, ())).bind
                fun
                  (v6 :
                    List UInt8 ×
                      List UInt8 ×
                        Int × Unit × List (List UInt8) × Bool × (Int × List UInt8 × List UInt8 × Int × List (List UInt8) × List (List UInt8) × Unit) × Unit) =>
                if v6.2.2.2.2.2.1 = true then some false
                else
                  (loopM (M_conciergelaw09_JsonParts_l0 F)
                        F (v6.1, v6.2.1, v6.2.2.1, (), v6.2.2.2.2.1, [], false, (↑v6.2.2.2.2.1.length : Int), 0, v6.2.2.2.2.2.2.1, ())).bind
                    fun
                      (v16 :
                        List UInt8 ×
                            List UInt8 ×
                              Int × Unit × List UInt8 × Bool × (Int × List UInt8 × List UInt8 × Int × List (List UInt8) × List (List UInt8) × Unit) × Unit ⊕
                          Bool × Unit) =>
                    sumC v16
                      (fun
                          (v17 :
                            List UInt8 ×
                              List UInt8 ×
                                Int ×
                                  Unit × List UInt8 × Bool × (Int × List UInt8 × List UInt8 × Int × List (List UInt8) × List (List UInt8) × Unit) × Unit) =>
                        (if decide (v17.2.2.2.2.2.2.1.1 = 5) = true then
                              some (v17.1, v17.2.1, v17.2.2.1, (), v17.2.2.2.2.1, v17.2.2.2.2.2.1, [], false, decide (0 ≤ v17.2.2.1), v17.2.2.2.2.2.2.1, ())
                            else some (v17.1, v17.2.1, v17.2.2.1, (), v17.2.2.2.2.1, v17.2.2.2.2.2.1, [], false, false, v17.2.2.2.2.2.2.1, ())).bind
                          fun
                            (v18 :
                              List UInt8 ×
                                List UInt8 ×
                                  Int ×
                                    Unit ×
                                      List UInt8 ×
                                        Bool ×
                                          List UInt8 ×
                                            Bool × Bool × (Int × List UInt8 × List UInt8 × Int × List (List UInt8) × List (List UInt8) × Unit) × Unit) =>
                          (if v18.2.2.2.2.2.2.2.2.1 = true then
                                some
                                  (v18.1, v18.2.1, v18.2.2.1, (), v18.2.2.2.2.1, v18.2.2.2.2.2.1, v18.2.2.2.2.2.2.1, v18.2.2.2.2.2.2.2.1,
                                    decide (v18.2.2.1 < (↑v18.2.2.2.2.2.2.2.2.2.1.2.2.2.2.2.1.length : Int)), v18.2.2.2.2.2.2.2.2.2.1, ())
                              else
                                some
                                  (v18.1, v18.2.1, v18.2.2.1, (), v18.2.2.2.2.1, v18.2.2.2.2.2.1, v18.2.2.2.2.2.2.1, v18.2.2.2.2.2.2.2.1, false,
                                    v18.2.2.2.2.2.2.2.2.2.1, ())).bind
                            fun
                              (v19 :
                                List UInt8 ×
                                  List UInt8 ×
                                    Int ×
                                      Unit ×
                                        List UInt8 ×
                                          Bool ×
                                            List UInt8 ×
                                              Bool × Bool × (Int × List UInt8 × List UInt8 × Int × List (List UInt8) × List (List UInt8) × Unit) × Unit) =>
                            (if v19.2.2.2.2.2.2.2.2.1 = true then
                                  (idx v19.2.2.2.2.2.2.2.2.2.1.2.2.2.2.2.1 v19.2.2.1).bind fun (v20 : List UInt8) =>
                                    some (v19.1, v19.2.1, v19.2.2.1, (), v19.2.2.2.2.1, v19.2.2.2.2.2.1, v20, true, v19.2.2.2.2.2.2.2.2.2.1, ())
                                else
                                  some
                                    (v19.1, v19.2.1, v19.2.2.1, (), v19.2.2.2.2.1, v19.2.2.2.2.2.1, v19.2.2.2.2.2.2.1, v19.2.2.2.2.2.2.2.1,
                                      v19.2.2.2.2.2.2.2.2.2.1, ())).bind
                              fun
                                (v21 :
                                  List UInt8 ×
                                    List UInt8 ×
                                      Int ×
                                        Unit ×
                                          List UInt8 ×
                                            Bool ×
                                              List UInt8 ×
                                                Bool × (Int × List UInt8 × List UInt8 × Int × List (List UInt8) × List (List UInt8) × Unit) × Unit) =>
                              (M_json_Field F (v21.1, v21.2.1)).bind fun (v22 : List UInt8 × Bool) =>
                                (M_json_Item F (v21.1, v21.2.2.1)).bind fun (v23 : List UInt8 × Bool) =>
                                  (M_json_Number F v21.1).bind fun (v24 : Int × Bool) =>
                                    (M_json_Text F v21.1).bind fun (v25 : List UInt8 × Bool) =>
                                      (if decide (v22.1 = v21.2.2.2.2.1) = true then
                                            some
                                              ((), v21.2.2.2.2.2.2.1, v21.2.2.2.2.2.2.2.1, v23.1, v23.2, v24.1, v24.2, v25.1, v25.2, v22.2 == v21.2.2.2.2.2.1,
                                                v21.2.2.2.2.2.2.2.2.1, ())
                                          else
                                            some
                                              ((), v21.2.2.2.2.2.2.1, v21.2.2.2.2.2.2.2.1, v23.1, v23.2, v24.1, v24.2, v25.1, v25.2, false, v21.2.2.2.2.2.2.2.2.1,
                                                ())).bind
                                        fun
                                          (v26 :
                                            Unit ×
                                              List UInt8 ×
                                                Bool ×
                                                  List UInt8 ×
                                                    Bool ×
                                                      Int ×
                                                        Bool ×
                                                          List UInt8 ×
                                                            Bool ×
                                                              Bool ×
                                                                (Int × List UInt8 × List UInt8 × Int × List (List UInt8) × List (List UInt8) × Unit) × Unit) =>
                                        (if v26.2.2.2.2.2.2.2.2.2.1 = true then
                                              some
                                                ((), v26.2.2.1, v26.2.2.2.2.1, v26.2.2.2.2.2.1, v26.2.2.2.2.2.2.1, v26.2.2.2.2.2.2.2.1, v26.2.2.2.2.2.2.2.2.1,
                                                  decide (v26.2.2.2.1 = v26.2.1), v26.2.2.2.2.2.2.2.2.2.2.1, ())
                                            else
                                              some
                                                ((), v26.2.2.1, v26.2.2.2.2.1, v26.2.2.2.2.2.1, v26.2.2.2.2.2.2.1, v26.2.2.2.2.2.2.2.1, v26.2.2.2.2.2.2.2.2.1,
                                                  false, v26.2.2.2.2.2.2.2.2.2.2.1, ())).bind
                                          fun
                                            (v27 :
                                              Unit ×
                                                Bool ×
                                                  Bool ×
                                                    Int ×
                                                      Bool ×
                                                        List UInt8 ×
                                                          Bool ×
                                                            Bool ×
                                                              (Int × List UInt8 × List UInt8 × Int × List (List UInt8) × List (List UInt8) × Unit) × Unit) =>
                                          (if v27.2.2.2.2.2.2.2.1 = true then
                                                some
                                                  ((), v27.2.2.2.1, v27.2.2.2.2.1, v27.2.2.2.2.2.1, v27.2.2.2.2.2.2.1, v27.2.2.1 == v27.2.1,
                                                    v27.2.2.2.2.2.2.2.2.1, ())
                                              else
                                                some ((), v27.2.2.2.1, v27.2.2.2.2.1, v27.2.2.2.2.2.1, v27.2.2.2.2.2.2.1, false, v27.2.2.2.2.2.2.2.2.1, ())).bind
                                            fun
                                              (v28 :
                                                Unit ×
                                                  Int ×
                                                    Bool ×
                                                      List UInt8 ×
                                                        Bool ×
                                                          Bool × (Int × List UInt8 × List UInt8 × Int × List (List UInt8) × List (List UInt8) × Unit) × Unit) =>
                                            (if v28.2.2.2.2.2.1 = true then
                                                  some
                                                    ((), v28.2.2.1, v28.2.2.2.1, v28.2.2.2.2.1, decide (v28.2.1 = v28.2.2.2.2.2.2.1.2.2.2.1), v28.2.2.2.2.2.2.1,
                                                      ())
                                                else some ((), v28.2.2.1, v28.2.2.2.1, v28.2.2.2.2.1, false, v28.2.2.2.2.2.2.1, ())).bind
                                              fun
                                                (v29 :
                                                  Unit ×
                                                    Bool ×
                                                      List UInt8 ×
                                                        Bool ×
                                                          Bool × (Int × List UInt8 × List UInt8 × Int × List (List UInt8) × List (List UInt8) × Unit) × Unit) =>
                                              (if v29.2.2.2.2.1 = true then
                                                    some ((), v29.2.2.1, v29.2.2.2.1, v29.2.1 == decide (v29.2.2.2.2.2.1.1 = 3), v29.2.2.2.2.2.1, ())
                                                  else some ((), v29.2.2.1, v29.2.2.2.1, false, v29.2.2.2.2.2.1, ())).bind
                                                fun
                                                  (v30 :
                                                    Unit ×
                                                      List UInt8 ×
                                                        Bool ×
                                                          Bool × (Int × List UInt8 × List UInt8 × Int × List (List UInt8) × List (List UInt8) × Unit) × Unit) =>
                                                (if v30.2.2.2.1 = true then some ((), v30.2.2.1, decide (v30.2.1 = v30.2.2.2.2.1.2.2.1), v30.2.2.2.2.1, ())
                                                    else some ((), v30.2.2.1, false, v30.2.2.2.2.1, ())).bind
                                                  fun
                                                    (v31 :
                                                      Unit ×
                                                        Bool ×
                                                          Bool × (Int × List UInt8 × List UInt8 × Int × List (List UInt8) × List (List UInt8) × Unit) × Unit) =>
                                                  (if v31.2.2.1 = true then some (v31.2.1 == decide (v31.2.2.2.1.1 = 4), ()) else some (false, ())).bind
                                                    fun (v32 : Bool × Unit) => some v32.1)
                      fun (v33 : Bool × Unit) => some v33.1
theorem t_conciergelaw09_JsonParts (x : (List UInt8) × (List UInt8) × (Int)) (F : Nat) : fnRun TT Tryz.prog (e_conciergelaw09_JsonParts F) s_conciergelaw09_JsonParts (bodyOf 7) F x = M_conciergelaw09_JsonParts F x := by kernel_rfl
theorem c_conciergelaw09_JsonParts (F : Nat) : Ctr TT Tryz.prog 7 (conOf TT s_conciergelaw09_JsonParts (M_conciergelaw09_JsonParts F)) :=
  ctr_of (code := bodyOf 7) Tryz.func7 (by kernel_rfl) (by kernel_rfl) (by kernel_rfl) (by kernel_rfl) (envS_ok (envS_ok (envS_ok (envS_ok (envS_ok (envS_ok (envS_ok (envS_ok (envS_ok envN_ok (c_conciergelaw09_awake F)) (c_conciergeref09_Of F)) (c_json_Names F)) (c_json_Kind F)) (c_json_Len F)) (c_json_Field F)) (c_json_Item F)) (c_json_Number F)) (c_json_Text F)) hm (by kernel_rfl) (fun x r h => ⟨F, (t_conciergelaw09_JsonParts x F).trans h⟩)
theorem mo_conciergelaw09_JsonParts_l0 {F F' : Nat} (h : F ≤ F') : ∀ v, Le (M_conciergelaw09_JsonParts_l0 F v) (M_conciergelaw09_JsonParts_l0 F' v) := by
  intro v
  unfold M_conciergelaw09_JsonParts_l0
  with_reducible repeat (first | (intro v) | exact Le.refl _ | exact h | exact mo_conciergelaw09_awake h _ | exact mo_conciergeref09_Of h _ | exact mo_json_Names h _ | exact mo_json_Kind h _ | exact mo_json_Len h _ | exact mo_json_Field h _ | exact mo_json_Item h _ | exact mo_json_Number h _ | exact mo_json_Text h _ | apply Le.bind | apply Le.ite | apply Le.loop | apply Le.sumC)
theorem mo_conciergelaw09_JsonParts {F F' : Nat} (h : F ≤ F') : ∀ v, Le (M_conciergelaw09_JsonParts F v) (M_conciergelaw09_JsonParts F' v) := by
  intro v
  unfold M_conciergelaw09_JsonParts
  with_reducible repeat (first | (intro v) | exact Le.refl _ | exact h | exact mo_conciergelaw09_awake h _ | exact mo_conciergeref09_Of h _ | exact mo_json_Names h _ | exact mo_json_Kind h _ | exact mo_json_Len h _ | exact mo_json_Field h _ | exact mo_json_Item h _ | exact mo_json_Number h _ | exact mo_json_Text h _ | exact mo_conciergelaw09_JsonParts_l0 h | exact mo_conciergelaw09_JsonParts_l0 h _ | apply Le.bind | apply Le.ite | apply Le.loop | apply Le.sumC)

end Go.Vm
