/- Models of functions of the program, and that each keeps its contract: for all arguments of its shape. No condition. -/
import Derived.Test.YtgejjocbhonkjaaDoorKt
import Derived.Test.YtgejjocbhonkjaaDoorFjson
import Derived.Test.YtgejjocbhonkjaaDoorFr9
import Derived.Test.YtgejjocbhonkjaaDoorFref4
namespace Go.Vm
open Go.Proofs
set_option linter.unusedVariables false
noncomputable def s_conciergelaw09_awake : Spec Kd := { params := [], ret := (.one (.a .bool)), pins := [], pl := { nt := 30, cuts := [(3, [(6, ⟨[.tmp 3 (.a .str), .tmp 4 (.a .bool), .tmp 18 (.a .bool)], [], []⟩), (3, ⟨[.tmp 3 (.a .str), .tmp 21 (.a .bool)], [], []⟩), (4, ⟨[.tmp 25 (.a .bool)], [], []⟩), (4, ⟨[.tmp 29 (.a .bool)], [], []⟩)])] }, rfrz := [], ts := [0] }
noncomputable def e_conciergelaw09_awake (F : Nat) : Env El := (envS 61 (conOf TT s_json_Kind (M_json_Kind F)) (envS 30 (conOf TT s_json_Text (M_json_Text F)) (envS 31 (conOf TT s_json_Form (M_json_Form F)) envN)))
/-- concierge/conciergelaw09.awake -/
noncomputable def M_conciergelaw09_awake (F : Nat) (x : Unit) : Option (Bool) :=
  (M_json_Form F [32, 123, 34, 98, 34, 58, 91, 49, 44, 45, 48, 93, 44, 32, 34, 97, 34, 58, 34, 92, 117, 48, 48, 101, 57, 92, 110, 34, 125]).bind
    fun (v0 : List UInt8 × Int) =>
    (M_json_Text F [34, 97, 92, 47, 34]).bind fun (v1 : List UInt8 × Bool) =>
      (if decide (v0.2 = 0) = true then
            some (v1.1, v1.2, decide (v0.1 = [123, 34, 97, 34, 58, 34, 195, 169, 92, 110, 34, 44, 34, 98, 34, 58, 91, 49, 44, 48, 93, 125]), ())
          else some (v1.1, v1.2, false, ())).bind
        fun (v2 : List UInt8 × Bool × Bool × Unit) =>
        (if v2.2.2.1 = true then some (v2.1, v2.2.1, ()) else some (v2.1, false, ())).bind fun (v3 : List UInt8 × Bool × Unit) =>
          (if v3.2.1 = true then some (decide (v3.1 = [97, 47]), ()) else some (false, ())).bind fun (v4 : Bool × Unit) =>
            (if v4.1 = true then (M_json_Kind F [91, 93]).bind fun (v5 : Int) => some (decide (v5 = 5), ()) else some (false, ())).bind fun (v6 : Bool × Unit) =>
              some v6.1
theorem t_conciergelaw09_awake (x : Unit) (F : Nat) : fnRun TT Tryd.prog (e_conciergelaw09_awake F) s_conciergelaw09_awake (bodyOf 26) F x = M_conciergelaw09_awake F x := by kernel_rfl
theorem c_conciergelaw09_awake (F : Nat) : Ctr TT Tryd.prog 26 (conOf TT s_conciergelaw09_awake (M_conciergelaw09_awake F)) :=
  ctr_of (code := bodyOf 26) Tryd.func26 (by kernel_rfl) (by kernel_rfl) (by kernel_rfl) (by kernel_rfl) (envS_ok (envS_ok (envS_ok envN_ok (c_json_Form F)) (c_json_Text F)) (c_json_Kind F)) hm (by kernel_rfl) (fun x r h => ⟨F, (t_conciergelaw09_awake x F).trans h⟩)
theorem mo_conciergelaw09_awake {F F' : Nat} (h : F ≤ F') : ∀ v, Le (M_conciergelaw09_awake F v) (M_conciergelaw09_awake F' v) := by
  intro v
  unfold M_conciergelaw09_awake
  with_reducible repeat (first | (intro v) | exact Le.refl _ | exact h | exact mo_json_Form h _ | exact mo_json_Text h _ | exact mo_json_Kind h _ | apply Le.bind | apply Le.ite | apply Le.loop | apply Le.sumC)
noncomputable def s_conciergelaw09_JsonQuotes : Spec Kd := { params := [(.a .str)], ret := (.one (.a .bool)), pins := [], pl := { nt := 106, joins := [(1300038, (.norm, ⟨[.tmp 0 (.a .str), .tmp 3 (.a (.slc .i64)), .tmp 4 (.a (.slc .i64)), .tmp 5 (.a .bool), .tmp 6 (.a (.int .i64)), .tmp 7 (.a (.int .i64)), .tmp 28 (.a (.int .i64)), .tmp 29 (.a (.int .i64))], [1345, 1346], []⟩), [])], loops := [(0, ⟨[.tmp 0 (.a .str), .tmp 3 (.a (.slc .i64)), .tmp 4 (.a (.slc .i64)), .tmp 5 (.a .bool), .tmp 28 (.a (.int .i64)), .tmp 29 (.a (.int .i64))], [1345, 1346], []⟩, (.exit 0, ⟨[.tmp 0 (.a .str), .tmp 5 (.a .bool)], [1345, 1346], []⟩), [])], cuts := [(26, [(6, ⟨[.tmp 8 (.a .str), .tmp 12 (.a .str), .tmp 13 (.a (.int .i64)), .tmp 96 (.a .bool)], [1345, 1346], []⟩), (4, ⟨[.tmp 8 (.a .str), .tmp 12 (.a .str), .tmp 100 (.a .bool)], [1345, 1346], []⟩), (5, ⟨[.tmp 105 (.a .bool)], [1345, 1346], []⟩)])] }, rfrz := [], ts := [2] }
noncomputable def e_conciergelaw09_JsonQuotes (F : Nat) : Env El := (envS 31 (conOf TT s_json_Form (M_json_Form F)) (envS 30 (conOf TT s_json_Text (M_json_Text F)) (envS 29 (conOf TT s_conciergeref09_Quote (M_conciergeref09_Quote F)) (envS 28 (conOf TT s_json_Quote (M_json_Quote F)) (envS 27 (conOf TT s_conciergeref04_Signs (M_conciergeref04_Signs F)) (envS 26 (conOf TT s_conciergelaw09_awake (M_conciergelaw09_awake F)) envN))))))
/-- concierge/conciergelaw09.JsonQuotes -/
noncomputable def M_conciergelaw09_JsonQuotes_l0 (F : Nat) (v2 : (List UInt8 × List Int × List Int × Bool × Int × Int × Unit)) : Option ((List UInt8 × List Int × List Int × Bool × Int × Int × Unit) ⊕ (List UInt8 × Bool × Unit)) :=
  if decide (v2.2.2.2.2.2.1 < v2.2.2.2.2.1) = true then
                  (if decide (IntKind.i64.wrap (v2.2.2.2.2.2.1 + 1) < (↑v2.2.2.1.length : Int)) = true then
                        (idx v2.2.2.1 (IntKind.i64.wrap (v2.2.2.2.2.2.1 + 1))).bind fun (v3 : Int) =>
                          some (v2.1, v2.2.1, v2.2.2.1, v2.2.2.2.1, v2.2.2.2.2.2.1, v3, v2.2.2.2.2.1, v2.2.2.2.2.2.1, ())
                      else some (v2.1, v2.2.1, v2.2.2.1, v2.2.2.2.1, v2.2.2.2.2.2.1, (↑v2.1.length : Int), v2.2.2.2.2.1, v2.2.2.2.2.2.1, ())).bind
                    fun (v4 : List UInt8 × List Int × List Int × Bool × Int × Int × Int × Int × Unit) =>
                    if v4.2.2.2.1 = true then
                      (idx v4.2.1 v4.2.2.2.2.1).bind fun (v5 : Int) =>
                        if (!decide (v5 = 65533)) = false then
                          (idx v4.2.2.1 v4.2.2.2.2.1).bind fun (v6 : Int) =>
                            some
                              (Sum.inl
                                (v4.1, v4.2.1, v4.2.2.1, decide (IntKind.i64.wrap (v4.2.2.2.2.2.1 - v6) = 3), v4.2.2.2.2.2.2.1,
                                  IntKind.i64.wrap (v4.2.2.2.2.2.2.2.1 + 1), ()))
                        else some (Sum.inl (v4.1, v4.2.1, v4.2.2.1, true, v4.2.2.2.2.2.2.1, IntKind.i64.wrap (v4.2.2.2.2.2.2.2.1 + 1), ()))
                    else some (Sum.inl (v4.1, v4.2.1, v4.2.2.1, false, v4.2.2.2.2.2.2.1, IntKind.i64.wrap (v4.2.2.2.2.2.2.2.1 + 1), ()))
                else some (Sum.inr (v2.1, v2.2.2.2.1, ()))
noncomputable def M_conciergelaw09_JsonQuotes (F : Nat) (x : (List UInt8)) : Option (Bool) :=
  (M_conciergelaw09_awake F ()).bind fun (v0 : Bool) =>
    if (!v0) = true then some false
    else
      if decide (450 < (↑x.length : Int)) = true then some true
      else
        (M_conciergeref04_Signs F x).bind fun (v1 : List Int × List Int) =>
          (loopM (M_conciergelaw09_JsonQuotes_l0 F)
                F (x, v1.1, v1.2, decide ((↑x.length : Int) ≤ 400), (↑v1.1.length : Int), 0, ())).bind
            fun (v7 : List UInt8 × Bool × Unit) =>
            (M_json_Quote F v7.1).bind fun (v8 : List UInt8 × Bool) =>
              if (!v8.2 == v7.2.1) = true then some false
              else
                if (!v8.2) = true then some (decide (v8.1 = []))
                else
                  (M_conciergeref09_Quote F v7.1).bind fun (v9 : List UInt8) =>
                    if (!decide (v8.1 = v9)) = true then some false
                    else
                      if decide (400 < (↑v8.1.length : Int)) = true then some true
                      else
                        (M_json_Text F v8.1).bind fun (v10 : List UInt8 × Bool) =>
                          (M_json_Form F v8.1).bind fun (v11 : List UInt8 × Int) =>
                            (if v10.2 = true then some (v8.1, v11.1, v11.2, decide (v10.1 = v7.1), ()) else some (v8.1, v11.1, v11.2, false, ())).bind
                              fun (v12 : List UInt8 × List UInt8 × Int × Bool × Unit) =>
                              (if v12.2.2.2.1 = true then some (v12.1, v12.2.1, decide (v12.2.2.1 = 0), ()) else some (v12.1, v12.2.1, false, ())).bind
                                fun (v13 : List UInt8 × List UInt8 × Bool × Unit) =>
                                (if v13.2.2.1 = true then some (decide (v13.2.1 = v13.1), ()) else some (false, ())).bind fun (v14 : Bool × Unit) => some v14.1
theorem t_conciergelaw09_JsonQuotes (x : (List UInt8)) (F : Nat) : fnRun TT Tryd.prog (e_conciergelaw09_JsonQuotes F) s_conciergelaw09_JsonQuotes (bodyOf 8) F x = M_conciergelaw09_JsonQuotes F x := by kernel_rfl
theorem c_conciergelaw09_JsonQuotes (F : Nat) : Ctr TT Tryd.prog 8 (conOf TT s_conciergelaw09_JsonQuotes (M_conciergelaw09_JsonQuotes F)) :=
  ctr_of (code := bodyOf 8) Tryd.func8 (by kernel_rfl) (by kernel_rfl) (by kernel_rfl) (by kernel_rfl) (envS_ok (envS_ok (envS_ok (envS_ok (envS_ok (envS_ok envN_ok (c_conciergelaw09_awake F)) (c_conciergeref04_Signs F)) (c_json_Quote F)) (c_conciergeref09_Quote F)) (c_json_Text F)) (c_json_Form F)) hm (by kernel_rfl) (fun x r h => ⟨F, (t_conciergelaw09_JsonQuotes x F).trans h⟩)
theorem mo_conciergelaw09_JsonQuotes_l0 {F F' : Nat} (h : F ≤ F') : ∀ v, Le (M_conciergelaw09_JsonQuotes_l0 F v) (M_conciergelaw09_JsonQuotes_l0 F' v) := by
  intro v
  unfold M_conciergelaw09_JsonQuotes_l0
  with_reducible repeat (first | (intro v) | exact Le.refl _ | exact h | exact mo_conciergelaw09_awake h _ | exact mo_conciergeref04_Signs h _ | exact mo_json_Quote h _ | exact mo_conciergeref09_Quote h _ | exact mo_json_Text h _ | exact mo_json_Form h _ | apply Le.bind | apply Le.ite | apply Le.loop | apply Le.sumC)
theorem mo_conciergelaw09_JsonQuotes {F F' : Nat} (h : F ≤ F') : ∀ v, Le (M_conciergelaw09_JsonQuotes F v) (M_conciergelaw09_JsonQuotes F' v) := by
  intro v
  unfold M_conciergelaw09_JsonQuotes
  with_reducible repeat (first | (intro v) | exact Le.refl _ | exact h | exact mo_conciergelaw09_awake h _ | exact mo_conciergeref04_Signs h _ | exact mo_json_Quote h _ | exact mo_conciergeref09_Quote h _ | exact mo_json_Text h _ | exact mo_json_Form h _ | exact mo_conciergelaw09_JsonQuotes_l0 h | exact mo_conciergelaw09_JsonQuotes_l0 h _ | apply Le.bind | apply Le.ite | apply Le.loop | apply Le.sumC)

end Go.Vm
