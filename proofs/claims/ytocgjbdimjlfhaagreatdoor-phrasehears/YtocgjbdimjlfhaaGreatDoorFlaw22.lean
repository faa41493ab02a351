/- Models of functions of the program, and that each keeps its contract: for all arguments of its shape. No condition. -/
import Derived.Test.YtocgjbdimjlfhaaGreatDoorKt
import Derived.Test.YtocgjbdimjlfhaaGreatDoorFphr
import Derived.Test.YtocgjbdimjlfhaaGreatDoorFref22
namespace Go.Vm
open Go.Proofs
set_option linter.unusedVariables false
noncomputable def s_conciergelaw18_Small : Spec Kd := { params := [(.a (.slc .rd)), (.a (.int .i64))], ret := (.one (.a .bool)), pins := [], pl := { nt := 55, loops := [(0, ⟨[.tmp 12 (.a (.slc .rd)), .tmp 13 (.a (.int .i64)), .tmp 14 (.a (.int .i64))], [], []⟩, (.exit 0, ⟨[], [], []⟩), [(.ret, ⟨[.tmp 4 (.a .bool)], [], []⟩)])], cuts := [(7, [(10, ⟨[.tmp 7 (.a (.ptr 448 0)), .tmp 12 (.a (.slc .rd)), .tmp 13 (.a (.int .i64)), .tmp 14 (.a (.int .i64)), .tmp 29 (.a .bool), .box 448 (.cells 66 [(.int .i64), .str, (.int .i64), (.int .i64), (.int .i64), (.int .i64), .str, (.int .i64), (.int .i64), (.int .i64), .str, .str, .str, .str])], [], []⟩), (6, ⟨[.tmp 7 (.a (.ptr 448 0)), .tmp 12 (.a (.slc .rd)), .tmp 13 (.a (.int .i64)), .tmp 14 (.a (.int .i64)), .tmp 35 (.a .bool), .box 448 (.cells 66 [(.int .i64), .str, (.int .i64), (.int .i64), (.int .i64), (.int .i64), .str, (.int .i64), (.int .i64), (.int .i64), .str, .str, .str, .str])], [], []⟩), (6, ⟨[.tmp 7 (.a (.ptr 448 0)), .tmp 12 (.a (.slc .rd)), .tmp 13 (.a (.int .i64)), .tmp 14 (.a (.int .i64)), .tmp 41 (.a .bool), .box 448 (.cells 66 [(.int .i64), .str, (.int .i64), (.int .i64), (.int .i64), (.int .i64), .str, (.int .i64), (.int .i64), (.int .i64), .str, .str, .str, .str])], [], []⟩), (6, ⟨[.tmp 7 (.a (.ptr 448 0)), .tmp 12 (.a (.slc .rd)), .tmp 13 (.a (.int .i64)), .tmp 14 (.a (.int .i64)), .tmp 47 (.a .bool), .box 448 (.cells 66 [(.int .i64), .str, (.int .i64), (.int .i64), (.int .i64), (.int .i64), .str, (.int .i64), (.int .i64), (.int .i64), .str, .str, .str, .str])], [], []⟩), (6, ⟨[.tmp 12 (.a (.slc .rd)), .tmp 13 (.a (.int .i64)), .tmp 14 (.a (.int .i64)), .tmp 53 (.a .bool)], [], []⟩)])] }, rfrz := [], ts := [4] }
noncomputable def e_conciergelaw18_Small (F : Nat) : Env El := envN
noncomputable def M_conciergelaw18_Small_l0 (F : Nat) (v0 : (List (Int × Int × List UInt8 × Int × Int × Int × Int × List UInt8 × Int × Int × Int × List UInt8 × List UInt8 × List UInt8 × List UInt8 × Unit) ×
          Int × Int × Unit)) : Option ((List (Int × Int × List UInt8 × Int × Int × Int × Int × List UInt8 × Int × Int × Int × List UInt8 × List UInt8 × List UInt8 × List UInt8 × Unit) ×
          Int × Int × Unit) ⊕ (Unit ⊕ Bool × Unit)) :=
  if decide (v0.2.2.1 < v0.2.1) = true then
            (idx v0.1 v0.2.2.1).bind fun v1 =>
              (if decide (100 < (↑v1.2.2.1.length : Int)) = false then
                    some ((), v0.1, v0.2.1, v0.2.2.1, decide (100 < (↑v1.2.2.2.2.2.2.2.1.length : Int)), v1.2, ())
                  else some ((), v0.1, v0.2.1, v0.2.2.1, true, v1.2, ())).bind
                fun v2 =>
                (if v2.2.2.2.2.1 = false then
                      some ((), v2.2.1, v2.2.2.1, v2.2.2.2.1, decide (100 < (↑v2.2.2.2.2.2.1.2.2.2.2.2.2.2.2.2.2.1.length : Int)), v2.2.2.2.2.2.1, ())
                    else some ((), v2.2.1, v2.2.2.1, v2.2.2.2.1, true, v2.2.2.2.2.2.1, ())).bind
                  fun v3 =>
                  (if v3.2.2.2.2.1 = false then
                        some ((), v3.2.1, v3.2.2.1, v3.2.2.2.1, decide (100 < (↑v3.2.2.2.2.2.1.2.2.2.2.2.2.2.2.2.2.2.1.length : Int)), v3.2.2.2.2.2.1, ())
                      else some ((), v3.2.1, v3.2.2.1, v3.2.2.2.1, true, v3.2.2.2.2.2.1, ())).bind
                    fun v4 =>
                    (if v4.2.2.2.2.1 = false then
                          some ((), v4.2.1, v4.2.2.1, v4.2.2.2.1, decide (100 < (↑v4.2.2.2.2.2.1.2.2.2.2.2.2.2.2.2.2.2.2.1.length : Int)), v4.2.2.2.2.2.1, ())
                        else some ((), v4.2.1, v4.2.2.1, v4.2.2.2.1, true, v4.2.2.2.2.2.1, ())).bind
                      fun v5 =>
                      (if v5.2.2.2.2.1 = false then
                            some (v5.2.1, v5.2.2.1, v5.2.2.2.1, decide (100 < (↑v5.2.2.2.2.2.1.2.2.2.2.2.2.2.2.2.2.2.2.2.1.length : Int)), ())
                          else some (v5.2.1, v5.2.2.1, v5.2.2.2.1, true, ())).bind
                        fun v6 =>
                        if v6.2.2.2.1 = true then some (Sum.inr (Sum.inr (false, ()))) else some (Sum.inl (v6.1, v6.2.1, IntKind.i64.wrap (v6.2.2.1 + 1), ()))
          else some (Sum.inr (Sum.inl ()))
noncomputable def M_conciergelaw18_Small (F : Nat) (x : (List (El .rd)) × (Int)) : Option (Bool) :=
  if decide (x.2 < (↑x.1.length : Int)) = true then some false
  else
    (loopM (M_conciergelaw18_Small_l0 F)
          F (x.1, (↑x.1.length : Int), 0, ())).bind
      fun v7 => sumC v7 (fun v8 => some true) fun v9 => some v9.1
theorem t_conciergelaw18_Small (x : (List (El .rd)) × (Int)) (F : Nat) : fnRun TT Tryz.prog (e_conciergelaw18_Small F) s_conciergelaw18_Small (bodyOf 50) F x = M_conciergelaw18_Small F x := by kernel_rfl
theorem c_conciergelaw18_Small (F : Nat) : Ctr TT Tryz.prog 50 (conOf TT s_conciergelaw18_Small (M_conciergelaw18_Small F)) :=
  ctr_of (code := bodyOf 50) Tryz.func50 (by kernel_rfl) (by kernel_rfl) (by kernel_rfl) (by kernel_rfl) envN_ok hm (by kernel_rfl) (fun x r h => ⟨F, (t_conciergelaw18_Small x F).trans h⟩)
noncomputable def s_conciergelaw22_awake : Spec Kd := { params := [], ret := (.one (.a .bool)), pins := [], pl := { nt := 16, cuts := [(1, [(8, ⟨[.tmp 8 (.a .bool)], [320], []⟩), (3, ⟨[.tmp 11 (.a .bool)], [320], []⟩), (4, ⟨[.tmp 15 (.a .bool)], [320], []⟩)])] }, rfrz := [], ts := [0] }
noncomputable def e_conciergelaw22_awake (F : Nat) : Env El := (envS 46 (conOf TT s_phrase_Check (M_phrase_Check F)) (envS 48 (conOf TT s_phrase_Name (M_phrase_Name F)) (envS 44 (conOf TT s_phrase_Gaps (M_phrase_Gaps F)) (envS 51 (conOf TT s_phrase_Fill (M_phrase_Fill F)) envN))))
noncomputable def M_conciergelaw22_awake (F : Nat) (x : Unit) : Option (Bool) :=
  ((M_phrase_Fill F
            ([112, 97, 105, 100, 32, 37, 123, 115, 117, 109, 125, 32, 102, 111, 114, 32, 37, 107], 0, [107, 49], 0, 0, 0, 0, [], 0, 0, 0, [], [], [],
              [123, 34, 115, 117, 109, 34, 58, 53, 125], ())).bind
        fun (v0 : List UInt8) =>
        if decide (v0 = [112, 97, 105, 100, 32, 53, 32, 102, 111, 114, 32, 107, 49]) = true then
          (M_phrase_Gaps F [37, 98, 37, 37]).bind fun (v1 : List (List UInt8)) => some (decide ((↑v1.length : Int) = 2), ())
        else some (false, ())).bind
    fun (v2 : Bool × Unit) =>
    (if v2.1 = true then (M_phrase_Name F [115, 117, 109]).bind fun (v3 : Bool) => some (v3, ()) else some (false, ())).bind fun (v4 : Bool × Unit) =>
      (if v4.1 = true then (M_phrase_Check F [37]).bind fun (v5 : Bool) => some (!v5, ()) else some (false, ())).bind fun (v6 : Bool × Unit) => some v6.1
theorem t_conciergelaw22_awake (x : Unit) (F : Nat) : fnRun TT Tryz.prog (e_conciergelaw22_awake F) s_conciergelaw22_awake (bodyOf 43) F x = M_conciergelaw22_awake F x := by kernel_rfl
theorem c_conciergelaw22_awake (F : Nat) : Ctr TT Tryz.prog 43 (conOf TT s_conciergelaw22_awake (M_conciergelaw22_awake F)) :=
  ctr_of (code := bodyOf 43) Tryz.func43 (by kernel_rfl) (by kernel_rfl) (by kernel_rfl) (by kernel_rfl) (envS_ok (envS_ok (envS_ok (envS_ok envN_ok (c_phrase_Fill F)) (c_phrase_Gaps F)) (c_phrase_Name F)) (c_phrase_Check F)) hm (by kernel_rfl) (fun x r h => ⟨F, (t_conciergelaw22_awake x F).trans h⟩)
noncomputable def s_conciergelaw22_PhraseChecks : Spec Kd := { params := [(.a .str)], ret := (.one (.a .bool)), pins := [], pl := { nt := 49, loops := [(0, ⟨[.tmp 3 (.a (.slc .str)), .tmp 4 (.a (.slc .str)), .tmp 35 (.a (.int .i64)), .tmp 36 (.a (.int .i64))], [768, 896], []⟩, (.exit 0, ⟨[], [768, 896], []⟩), [(.ret, ⟨[.tmp 2 (.a .bool)], [768, 896], []⟩)])], cuts := [(6, [(12, ⟨[.tmp 3 (.a (.slc .str)), .tmp 4 (.a (.slc .str)), .tmp 26 (.a .bool)], [768, 896], []⟩), (7, ⟨[.tmp 3 (.a (.slc .str)), .tmp 4 (.a (.slc .str)), .tmp 33 (.a .bool)], [768, 896], []⟩)])], ends := [(11, ⟨[.tmp 3 (.a (.slc .str)), .tmp 4 (.a (.slc .str)), .tmp 35 (.a (.int .i64)), .tmp 36 (.a (.int .i64)), .tmp 47 (.a .bool)], [768, 896], []⟩)] }, rfrz := [], ts := [2] }
noncomputable def e_conciergelaw22_PhraseChecks (F : Nat) : Env El := (envS 49 (conOf TT s_conciergeref22_Name (M_conciergeref22_Name F)) (envS 48 (conOf TT s_phrase_Name (M_phrase_Name F)) (envS 47 (conOf TT s_conciergeref22_Check (M_conciergeref22_Check F)) (envS 46 (conOf TT s_phrase_Check (M_phrase_Check F)) (envS 45 (conOf TT s_conciergeref22_Gaps (M_conciergeref22_Gaps F)) (envS 44 (conOf TT s_phrase_Gaps (M_phrase_Gaps F)) (envS 43 (conOf TT s_conciergelaw22_awake (M_conciergelaw22_awake F)) envN)))))))
noncomputable def M_conciergelaw22_PhraseChecks_l0 (F : Nat) (v9 : (List (List UInt8) × List (List UInt8) × Int × Int × Unit)) : Option ((List (List UInt8) × List (List UInt8) × Int × Int × Unit) ⊕ (Unit ⊕ Bool × Unit)) :=
  if decide (v9.2.2.2.1 < v9.2.2.1) = true then
                          ((idx v9.1 v9.2.2.2.1).bind fun (v10 : List UInt8) =>
                                (idx v9.2.1 v9.2.2.2.1).bind fun (v11 : List UInt8) => some (v9.1, v9.2.1, v9.2.2.1, v9.2.2.2.1, !decide (v10 = v11), ())).bind
                            fun (v12 : List (List UInt8) × List (List UInt8) × Int × Int × Bool × Unit) =>
                            if v12.2.2.2.2.1 = true then some (Sum.inr (Sum.inr (false, ())))
                            else some (Sum.inl (v12.1, v12.2.1, v12.2.2.1, IntKind.i64.wrap (v12.2.2.2.1 + 1), ()))
                        else some (Sum.inr (Sum.inl ()))
noncomputable def M_conciergelaw22_PhraseChecks (F : Nat) (x : (List UInt8)) : Option (Bool) :=
  (M_conciergelaw22_awake F ()).bind fun (v0 : Bool) =>
    if (!v0) = true then some false
    else
      if decide (100 < (↑x.length : Int)) = true then some true
      else
        (M_phrase_Gaps F x).bind fun (v1 : List (List UInt8)) =>
          (M_conciergeref22_Gaps F x).bind fun (v2 : List (List UInt8)) =>
            ((M_phrase_Check F x).bind fun (v3 : Bool) =>
                  (M_conciergeref22_Check F x).bind fun (v4 : Bool) =>
                    if (!v3 == v4) = false then
                      (M_phrase_Name F x).bind fun (v5 : Bool) => (M_conciergeref22_Name F x).bind fun (v6 : Bool) => some (v1, v2, !v5 == v6, ())
                    else some (v1, v2, true, ())).bind
              fun (v7 : List (List UInt8) × List (List UInt8) × Bool × Unit) =>
              (if v7.2.2.1 = false then some (v7.1, v7.2.1, !decide ((↑v7.1.length : Int) = (↑v7.2.1.length : Int)), ()) else some (v7.1, v7.2.1, true, ())).bind
                fun (v8 : List (List UInt8) × List (List UInt8) × Bool × Unit) =>
                if v8.2.2.1 = true then some false
                else
                  (loopM (M_conciergelaw22_PhraseChecks_l0 F)
                        F (v8.1, v8.2.1, (↑v8.1.length : Int), 0, ())).bind
                    fun (v13 : Unit ⊕ Bool × Unit) => sumC v13 (fun (v14 : Unit) => some true) fun (v15 : Bool × Unit) => some v15.1
theorem t_conciergelaw22_PhraseChecks (x : (List UInt8)) (F : Nat) : fnRun TT Tryz.prog (e_conciergelaw22_PhraseChecks F) s_conciergelaw22_PhraseChecks (bodyOf 11) F x = M_conciergelaw22_PhraseChecks F x := by kernel_rfl
theorem c_conciergelaw22_PhraseChecks (F : Nat) : Ctr TT Tryz.prog 11 (conOf TT s_conciergelaw22_PhraseChecks (M_conciergelaw22_PhraseChecks F)) :=
  ctr_of (code := bodyOf 11) Tryz.func11 (by kernel_rfl) (by kernel_rfl) (by kernel_rfl) (by kernel_rfl) (envS_ok (envS_ok (envS_ok (envS_ok (envS_ok (envS_ok (envS_ok envN_ok (c_conciergelaw22_awake F)) (c_phrase_Gaps F)) (c_conciergeref22_Gaps F)) (c_phrase_Check F)) (c_conciergeref22_Check F)) (c_phrase_Name F)) (c_conciergeref22_Name F)) hm (by kernel_rfl) (fun x r h => ⟨F, (t_conciergelaw22_PhraseChecks x F).trans h⟩)
noncomputable def s_conciergelaw22_PhrasePlain : Spec Kd := { params := [(.a .str), (.agg [(.int .i64), .str, (.int .i64), (.int .i64), (.int .i64), (.int .i64), .str, (.int .i64), (.int .i64), (.int .i64), .str, .str, .str, .str])], ret := (.one (.a .bool)), pins := [], pl := { nt := 56, bjoins := [(1, (.norm, ⟨[.tmp 0 (.a .str), .tmp 3 (.a (.ptr 192 0)), .tmp 5 (.a .str), .tmp 29 (.a (.int .i64)), .tmp 30 (.a (.int .i64)), .box 192 (.cells 66 [(.int .i64), .str, (.int .i64), (.int .i64), (.int .i64), (.int .i64), .str, (.int .i64), (.int .i64), (.int .i64), .str, .str, .str, .str])], [], []⟩), [])], loops := [(0, ⟨[.tmp 0 (.a .str), .tmp 3 (.a (.ptr 192 0)), .tmp 5 (.a .str), .tmp 29 (.a (.int .i64)), .tmp 30 (.a (.int .i64)), .box 192 (.cells 66 [(.int .i64), .str, (.int .i64), (.int .i64), (.int .i64), (.int .i64), .str, (.int .i64), (.int .i64), (.int .i64), .str, .str, .str, .str])], [], []⟩, (.exit 0, ⟨[.tmp 0 (.a .str), .tmp 3 (.a (.ptr 192 0)), .tmp 5 (.a .str), .box 192 (.cells 66 [(.int .i64), .str, (.int .i64), (.int .i64), (.int .i64), (.int .i64), .str, (.int .i64), (.int .i64), (.int .i64), .str, .str, .str, .str])], [], []⟩), [])], cuts := [(13, [(9, ⟨[.tmp 55 (.a .bool)], [], []⟩)]), (3, [(7, ⟨[.tmp 0 (.a .str), .tmp 3 (.a (.ptr 192 0)), .tmp 15 (.a .bool), .box 192 (.cells 66 [(.int .i64), .str, (.int .i64), (.int .i64), (.int .i64), (.int .i64), .str, (.int .i64), (.int .i64), (.int .i64), .str, .str, .str, .str])], [], []⟩), (5, ⟨[.tmp 0 (.a .str), .tmp 3 (.a (.ptr 192 0)), .tmp 20 (.a .bool), .box 192 (.cells 66 [(.int .i64), .str, (.int .i64), (.int .i64), (.int .i64), (.int .i64), .str, (.int .i64), (.int .i64), (.int .i64), .str, .str, .str, .str])], [], []⟩), (7, ⟨[.tmp 0 (.a .str), .tmp 3 (.a (.ptr 192 0)), .tmp 27 (.a .bool), .box 192 (.cells 66 [(.int .i64), .str, (.int .i64), (.int .i64), (.int .i64), (.int .i64), .str, (.int .i64), (.int .i64), (.int .i64), .str, .str, .str, .str])], [], []⟩)])] }, rfrz := [], ts := [4] }
noncomputable def e_conciergelaw22_PhrasePlain (F : Nat) : Env El := (envS 46 (conOf TT s_phrase_Check (M_phrase_Check F)) (envS 51 (conOf TT s_phrase_Fill (M_phrase_Fill F)) (envS 50 (conOf TT s_conciergelaw18_Small (M_conciergelaw18_Small F)) (envS 53 (conOf TT s_conciergeref04_Right (M_conciergeref04_Right F)) (envS 43 (conOf TT s_conciergelaw22_awake (M_conciergelaw22_awake F)) envN)))))
noncomputable def M_conciergelaw22_PhrasePlain_l0 (F : Nat) (v6 : (List UInt8 ×
                    Unit ×
                      List UInt8 ×
                        Int ×
                          Int ×
                            (Int ×
                                List UInt8 × Int × Int × Int × Int × List UInt8 × Int × Int × Int × List UInt8 × List UInt8 × List UInt8 × List UInt8 × Unit) ×
                              Unit)) : Option ((List UInt8 ×
                    Unit ×
                      List UInt8 ×
                        Int ×
                          Int ×
                            (Int ×
                                List UInt8 × Int × Int × Int × Int × List UInt8 × Int × Int × Int × List UInt8 × List UInt8 × List UInt8 × List UInt8 × Unit) ×
                              Unit) ⊕ (List UInt8 ×
                    Unit ×
                      List UInt8 ×
                        (Int × List UInt8 × Int × Int × Int × Int × List UInt8 × Int × Int × Int × List UInt8 × List UInt8 × List UInt8 × List UInt8 × Unit) ×
                          Unit)) :=
  if decide (v6.2.2.2.2.1 < v6.2.2.2.1) = true then
                      ((sub v6.1 v6.2.2.2.2.1 (IntKind.i64.wrap (v6.2.2.2.2.1 + 1))).bind fun (v7 : List UInt8) =>
                            if decide (v6.2.2.1.length + v7.length ≤ 9223372036854775807) = true then
                              (idx v6.1 v6.2.2.2.2.1).bind fun (v8 : UInt8) =>
                                if decide ((↑v8.toNat : Int) = 37) = true then
                                  if decide ((v6.2.2.1 ++ v7).length + [37].length ≤ 9223372036854775807) = true then
                                    some (v6.1, (), v6.2.2.1 ++ v7 ++ [37], v6.2.2.2.1, v6.2.2.2.2.1, v6.2.2.2.2.2.1, ())
                                  else none
                                else some (v6.1, (), v6.2.2.1 ++ v7, v6.2.2.2.1, v6.2.2.2.2.1, v6.2.2.2.2.2.1, ())
                            else none).bind
                        fun
                          (v9 :
                            List UInt8 ×
                              Unit ×
                                List UInt8 ×
                                  Int ×
                                    Int ×
                                      (Int ×
                                          List UInt8 ×
                                            Int × Int × Int × Int × List UInt8 × Int × Int × Int × List UInt8 × List UInt8 × List UInt8 × List UInt8 × Unit) ×
                                        Unit) =>
                        some (Sum.inl (v9.1, (), v9.2.2.1, v9.2.2.2.1, IntKind.i64.wrap (v9.2.2.2.2.1 + 1), v9.2.2.2.2.2.1, ()))
                    else some (Sum.inr (v6.1, (), v6.2.2.1, v6.2.2.2.2.2.1, ()))
noncomputable def M_conciergelaw22_PhrasePlain (F : Nat) (x : (List UInt8) × ((Int) × (List UInt8) × (Int) × (Int) × (Int) × (Int) × (List UInt8) × (Int) × (Int) × (Int) × (List UInt8) × (List UInt8) × (List UInt8) × (List UInt8) × Unit)) : Option (Bool) :=
  (M_conciergelaw22_awake F ()).bind fun (v0 : Bool) =>
    if (!v0) = true then some false
    else
      (if decide (20 < (↑x.1.length : Int)) = false then some (x.1, (), decide (x.1 = []), x.2, ()) else some (x.1, (), true, x.2, ())).bind
        fun
          (v1 :
            List UInt8 ×
              Unit ×
                Bool ×
                  (Int × List UInt8 × Int × Int × Int × Int × List UInt8 × Int × Int × Int × List UInt8 × List UInt8 × List UInt8 × List UInt8 × Unit) ×
                    Unit) =>
        (if v1.2.2.1 = false then (M_conciergeref04_Right F (v1.1, 20)).bind fun (v2 : Bool) => some (v1.1, (), !v2, v1.2.2.2.1, ())
            else some (v1.1, (), true, v1.2.2.2.1, ())).bind
          fun
            (v3 :
              List UInt8 ×
                Unit ×
                  Bool ×
                    (Int × List UInt8 × Int × Int × Int × Int × List UInt8 × Int × Int × Int × List UInt8 × List UInt8 × List UInt8 × List UInt8 × Unit) ×
                      Unit) =>
          (if v3.2.2.1 = false then (M_conciergelaw18_Small F ([(0, v3.2.2.2.1)], 1)).bind fun (v4 : Bool) => some (v3.1, (), !v4, v3.2.2.2.1, ())
              else some (v3.1, (), true, v3.2.2.2.1, ())).bind
            fun
              (v5 :
                List UInt8 ×
                  Unit ×
                    Bool ×
                      (Int × List UInt8 × Int × Int × Int × Int × List UInt8 × Int × Int × Int × List UInt8 × List UInt8 × List UInt8 × List UInt8 × Unit) ×
                        Unit) =>
            if v5.2.2.1 = true then some true
            else
              (loopM (M_conciergelaw22_PhrasePlain_l0 F)
                    F (v5.1, (), [], (↑v5.1.length : Int), 0, v5.2.2.2.1, ())).bind
                fun
                  (v10 :
                    List UInt8 ×
                      Unit ×
                        List UInt8 ×
                          (Int × List UInt8 × Int × Int × Int × Int × List UInt8 × Int × Int × Int × List UInt8 × List UInt8 × List UInt8 × List UInt8 × Unit) ×
                            Unit) =>
                ((M_phrase_Fill F (v10.2.2.1, v10.2.2.2.1)).bind fun (v11 : List UInt8) =>
                      if decide (v11 = v10.1) = true then (M_phrase_Check F v10.2.2.1).bind fun (v12 : Bool) => some (v12, ()) else some (false, ())).bind
                  fun (v13 : Bool × Unit) => some v13.1
theorem t_conciergelaw22_PhrasePlain (x : (List UInt8) × ((Int) × (List UInt8) × (Int) × (Int) × (Int) × (Int) × (List UInt8) × (Int) × (Int) × (Int) × (List UInt8) × (List UInt8) × (List UInt8) × (List UInt8) × Unit)) (F : Nat) : fnRun TT Tryz.prog (e_conciergelaw22_PhrasePlain F) s_conciergelaw22_PhrasePlain (bodyOf 13) F x = M_conciergelaw22_PhrasePlain F x := by kernel_rfl
theorem c_conciergelaw22_PhrasePlain (F : Nat) : Ctr TT Tryz.prog 13 (conOf TT s_conciergelaw22_PhrasePlain (M_conciergelaw22_PhrasePlain F)) :=
  ctr_of (code := bodyOf 13) Tryz.func13 (by kernel_rfl) (by kernel_rfl) (by kernel_rfl) (by kernel_rfl) (envS_ok (envS_ok (envS_ok (envS_ok (envS_ok envN_ok (c_conciergelaw22_awake F)) (c_conciergeref04_Right F)) (c_conciergelaw18_Small F)) (c_phrase_Fill F)) (c_phrase_Check F)) hm (by kernel_rfl) (fun x r h => ⟨F, (t_conciergelaw22_PhrasePlain x F).trans h⟩)
noncomputable def s_conciergelaw22_PhraseHears : Spec Kd := { params := [(.a .str), (.agg [(.int .i64), .str, (.int .i64), (.int .i64), (.int .i64), (.int .i64), .str, (.int .i64), (.int .i64), (.int .i64), .str, .str, .str, .str]), (.agg [(.int .i64), .str, (.int .i64), (.int .i64), (.int .i64), (.int .i64), .str, (.int .i64), (.int .i64), (.int .i64), .str, .str, .str, .str])], ret := (.one (.a .bool)), pins := [], pl := { nt := 59, bjoins := [(1, (.norm, ⟨[.tmp 0 (.a .str), .tmp 4 (.a (.ptr 256 0)), .tmp 5 (.a (.ptr 320 0)), .tmp 24 (.a (.slc .str)), .tmp 25 (.a (.int .i64)), .tmp 26 (.a (.int .i64)), .box 256 (.cells 66 [(.int .i64), .str, (.int .i64), (.int .i64), (.int .i64), (.int .i64), .str, (.int .i64), (.int .i64), (.int .i64), .str, .str, .str, .str]), .box 320 (.cells 66 [(.int .i64), .str, (.int .i64), (.int .i64), (.int .i64), (.int .i64), .str, (.int .i64), (.int .i64), (.int .i64), .str, .str, .str, .str])], [1536], []⟩), [])], loops := [(0, ⟨[.tmp 0 (.a .str), .tmp 4 (.a (.ptr 256 0)), .tmp 5 (.a (.ptr 320 0)), .tmp 24 (.a (.slc .str)), .tmp 25 (.a (.int .i64)), .tmp 26 (.a (.int .i64)), .box 256 (.cells 66 [(.int .i64), .str, (.int .i64), (.int .i64), (.int .i64), (.int .i64), .str, (.int .i64), (.int .i64), (.int .i64), .str, .str, .str, .str]), .box 320 (.cells 66 [(.int .i64), .str, (.int .i64), (.int .i64), (.int .i64), (.int .i64), .str, (.int .i64), (.int .i64), (.int .i64), .str, .str, .str, .str])], [1536], []⟩, (.exit 0, ⟨[.tmp 0 (.a .str), .tmp 4 (.a (.ptr 256 0)), .tmp 5 (.a (.ptr 320 0)), .box 256 (.cells 66 [(.int .i64), .str, (.int .i64), (.int .i64), (.int .i64), (.int .i64), .str, (.int .i64), (.int .i64), (.int .i64), .str, .str, .str, .str]), .box 320 (.cells 66 [(.int .i64), .str, (.int .i64), (.int .i64), (.int .i64), (.int .i64), .str, (.int .i64), (.int .i64), (.int .i64), .str, .str, .str, .str])], [1536], []⟩), [])], cuts := [(3, [(12, ⟨[.tmp 0 (.a .str), .tmp 4 (.a (.ptr 256 0)), .tmp 5 (.a (.ptr 320 0)), .tmp 22 (.a .bool), .box 256 (.cells 66 [(.int .i64), .str, (.int .i64), (.int .i64), (.int .i64), (.int .i64), .str, (.int .i64), (.int .i64), (.int .i64), .str, .str, .str, .str]), .box 320 (.cells 66 [(.int .i64), .str, (.int .i64), (.int .i64), (.int .i64), (.int .i64), .str, (.int .i64), (.int .i64), (.int .i64), .str, .str, .str, .str])], [1536], []⟩)])], ends := [(18, ⟨[.tmp 6 (.a .bool)], [1536], []⟩)] }, rfrz := [], ts := [6] }
noncomputable def e_conciergelaw22_PhraseHears (F : Nat) : Env El := (envS 51 (conOf TT s_phrase_Fill (M_phrase_Fill F)) (envS 45 (conOf TT s_conciergeref22_Gaps (M_conciergeref22_Gaps F)) (envS 50 (conOf TT s_conciergelaw18_Small (M_conciergelaw18_Small F)) (envS 43 (conOf TT s_conciergelaw22_awake (M_conciergelaw22_awake F)) envN))))
noncomputable def M_conciergelaw22_PhraseHears_l0 (F : Nat) (v4 : (List UInt8 ×
                  Unit ×
                    Unit ×
                      List (List UInt8) ×
                        Int ×
                          Int ×
                            (Int ×
                                List UInt8 × Int × Int × Int × Int × List UInt8 × Int × Int × Int × List UInt8 × List UInt8 × List UInt8 × List UInt8 × Unit) ×
                              (Int ×
                                  List UInt8 ×
                                    Int × Int × Int × Int × List UInt8 × Int × Int × Int × List UInt8 × List UInt8 × List UInt8 × List UInt8 × Unit) ×
                                Unit)) : Option ((List UInt8 ×
                  Unit ×
                    Unit ×
                      List (List UInt8) ×
                        Int ×
                          Int ×
                            (Int ×
                                List UInt8 × Int × Int × Int × Int × List UInt8 × Int × Int × Int × List UInt8 × List UInt8 × List UInt8 × List UInt8 × Unit) ×
                              (Int ×
                                  List UInt8 ×
                                    Int × Int × Int × Int × List UInt8 × Int × Int × Int × List UInt8 × List UInt8 × List UInt8 × List UInt8 × Unit) ×
                                Unit) ⊕ (List UInt8 ×
                  Unit ×
                    Unit ×
                      (Int × List UInt8 × Int × Int × Int × Int × List UInt8 × Int × Int × Int × List UInt8 × List UInt8 × List UInt8 × List UInt8 × Unit) ×
                        (Int × List UInt8 × Int × Int × Int × Int × List UInt8 × Int × Int × Int × List UInt8 × List UInt8 × List UInt8 × List UInt8 × Unit) ×
                          Unit)) :=
  if decide (v4.2.2.2.2.2.1 < v4.2.2.2.2.1) = true then
                    ((idx v4.2.2.2.1 v4.2.2.2.2.2.1).bind fun (v5 : List UInt8) =>
                          if decide (v5 = [37, 107]) = true then
                            some
                              (v4.1, (), (), v4.2.2.2.1, v4.2.2.2.2.1, v4.2.2.2.2.2.1, v4.2.2.2.2.2.2.1,
                                (v4.2.2.2.2.2.2.2.1.1, v4.2.2.2.2.2.2.1.2.1, v4.2.2.2.2.2.2.2.1.2.2), ())
                          else
                            if decide (v5 = [37, 109]) = true then
                              some
                                (v4.1, (), (), v4.2.2.2.1, v4.2.2.2.2.1, v4.2.2.2.2.2.1, v4.2.2.2.2.2.2.1,
                                  (v4.2.2.2.2.2.2.2.1.1, v4.2.2.2.2.2.2.2.1.2.1, v4.2.2.2.2.2.2.2.1.2.2.1, v4.2.2.2.2.2.2.2.1.2.2.2.1,
                                    v4.2.2.2.2.2.2.2.1.2.2.2.2.1, v4.2.2.2.2.2.2.2.1.2.2.2.2.2.1, v4.2.2.2.2.2.2.2.1.2.2.2.2.2.2.1,
                                    v4.2.2.2.2.2.2.2.1.2.2.2.2.2.2.2.1, v4.2.2.2.2.2.2.2.1.2.2.2.2.2.2.2.2.1, v4.2.2.2.2.2.2.2.1.2.2.2.2.2.2.2.2.2.1,
                                    v4.2.2.2.2.2.2.2.1.2.2.2.2.2.2.2.2.2.2.1, v4.2.2.2.2.2.2.1.2.2.2.2.2.2.2.2.2.2.2.1,
                                    v4.2.2.2.2.2.2.2.1.2.2.2.2.2.2.2.2.2.2.2.2.1, v4.2.2.2.2.2.2.2.1.2.2.2.2.2.2.2.2.2.2.2.2.2.1, ()),
                                  ())
                            else
                              if decide (v5 = [37, 112]) = true then
                                some
                                  (v4.1, (), (), v4.2.2.2.1, v4.2.2.2.2.1, v4.2.2.2.2.2.1, v4.2.2.2.2.2.2.1,
                                    (v4.2.2.2.2.2.2.2.1.1, v4.2.2.2.2.2.2.2.1.2.1, v4.2.2.2.2.2.2.2.1.2.2.1, v4.2.2.2.2.2.2.2.1.2.2.2.1,
                                      v4.2.2.2.2.2.2.2.1.2.2.2.2.1, v4.2.2.2.2.2.2.2.1.2.2.2.2.2.1, v4.2.2.2.2.2.2.2.1.2.2.2.2.2.2.1,
                                      v4.2.2.2.2.2.2.2.1.2.2.2.2.2.2.2.1, v4.2.2.2.2.2.2.2.1.2.2.2.2.2.2.2.2.1, v4.2.2.2.2.2.2.2.1.2.2.2.2.2.2.2.2.2.1,
                                      v4.2.2.2.2.2.2.2.1.2.2.2.2.2.2.2.2.2.2.1, v4.2.2.2.2.2.2.2.1.2.2.2.2.2.2.2.2.2.2.2.1,
                                      v4.2.2.2.2.2.2.1.2.2.2.2.2.2.2.2.2.2.2.2.1, v4.2.2.2.2.2.2.2.1.2.2.2.2.2.2.2.2.2.2.2.2.2.1, ()),
                                    ())
                              else
                                if decide (v5 = [37, 37]) = true then some (v4.1, (), (), v4.2.2.2)
                                else
                                  some
                                    (v4.1, (), (), v4.2.2.2.1, v4.2.2.2.2.1, v4.2.2.2.2.2.1, v4.2.2.2.2.2.2.1,
                                      (v4.2.2.2.2.2.2.2.1.1, v4.2.2.2.2.2.2.2.1.2.1, v4.2.2.2.2.2.2.2.1.2.2.1, v4.2.2.2.2.2.2.2.1.2.2.2.1,
                                        v4.2.2.2.2.2.2.2.1.2.2.2.2.1, v4.2.2.2.2.2.2.2.1.2.2.2.2.2.1, v4.2.2.2.2.2.2.2.1.2.2.2.2.2.2.1,
                                        v4.2.2.2.2.2.2.2.1.2.2.2.2.2.2.2.1, v4.2.2.2.2.2.2.2.1.2.2.2.2.2.2.2.2.1, v4.2.2.2.2.2.2.2.1.2.2.2.2.2.2.2.2.2.1,
                                        v4.2.2.2.2.2.2.2.1.2.2.2.2.2.2.2.2.2.2.1, v4.2.2.2.2.2.2.2.1.2.2.2.2.2.2.2.2.2.2.2.1,
                                        v4.2.2.2.2.2.2.2.1.2.2.2.2.2.2.2.2.2.2.2.2.1, v4.2.2.2.2.2.2.1.2.2.2.2.2.2.2.2.2.2.2.2.2.1, ()),
                                      ())).bind
                      fun
                        (v6 :
                          List UInt8 ×
                            Unit ×
                              Unit ×
                                List (List UInt8) ×
                                  Int ×
                                    Int ×
                                      (Int ×
                                          List UInt8 ×
                                            Int × Int × Int × Int × List UInt8 × Int × Int × Int × List UInt8 × List UInt8 × List UInt8 × List UInt8 × Unit) ×
                                        (Int ×
                                            List UInt8 ×
                                              Int ×
                                                Int × Int × Int × List UInt8 × Int × Int × Int × List UInt8 × List UInt8 × List UInt8 × List UInt8 × Unit) ×
                                          Unit) =>
                      some (Sum.inl (v6.1, (), (), v6.2.2.2.1, v6.2.2.2.2.1, IntKind.i64.wrap (v6.2.2.2.2.2.1 + 1), v6.2.2.2.2.2.2.1, v6.2.2.2.2.2.2.2.1, ()))
                  else some (Sum.inr (v4.1, (), (), v4.2.2.2.2.2.2.1, v4.2.2.2.2.2.2.2.1, ()))
noncomputable def M_conciergelaw22_PhraseHears (F : Nat) (x : (List UInt8) × ((Int) × (List UInt8) × (Int) × (Int) × (Int) × (Int) × (List UInt8) × (Int) × (Int) × (Int) × (List UInt8) × (List UInt8) × (List UInt8) × (List UInt8) × Unit) × ((Int) × (List UInt8) × (Int) × (Int) × (Int) × (Int) × (List UInt8) × (Int) × (Int) × (Int) × (List UInt8) × (List UInt8) × (List UInt8) × (List UInt8) × Unit)) : Option (Bool) :=
  (M_conciergelaw22_awake F ()).bind fun (v0 : Bool) =>
    if (!v0) = true then some false
    else
      (if decide (100 < (↑x.1.length : Int)) = false then
            (M_conciergelaw18_Small F ([(0, x.2.1), (0, x.2.2)], 2)).bind fun (v1 : Bool) => some (x.1, (), (), !v1, x.2.1, x.2.2, ())
          else some (x.1, (), (), true, x.2.1, x.2.2, ())).bind
        fun
          (v2 :
            List UInt8 ×
              Unit ×
                Unit ×
                  Bool ×
                    (Int × List UInt8 × Int × Int × Int × Int × List UInt8 × Int × Int × Int × List UInt8 × List UInt8 × List UInt8 × List UInt8 × Unit) ×
                      (Int × List UInt8 × Int × Int × Int × Int × List UInt8 × Int × Int × Int × List UInt8 × List UInt8 × List UInt8 × List UInt8 × Unit) ×
                        Unit) =>
        if v2.2.2.2.1 = true then some true
        else
          (M_conciergeref22_Gaps F v2.1).bind fun (v3 : List (List UInt8)) =>
            (loopM (M_conciergelaw22_PhraseHears_l0 F)
                  F (v2.1, (), (), v3, (↑v3.length : Int), 0, v2.2.2.2.2.1, v2.2.2.2.2.2.1, ())).bind
              fun
                (v7 :
                  List UInt8 ×
                    Unit ×
                      Unit ×
                        (Int × List UInt8 × Int × Int × Int × Int × List UInt8 × Int × Int × Int × List UInt8 × List UInt8 × List UInt8 × List UInt8 × Unit) ×
                          (Int × List UInt8 × Int × Int × Int × Int × List UInt8 × Int × Int × Int × List UInt8 × List UInt8 × List UInt8 × List UInt8 × Unit) ×
                            Unit) =>
              ((M_phrase_Fill F (v7.1, v7.2.2.2.1)).bind fun (v8 : List UInt8) =>
                    (M_phrase_Fill F (v7.1, v7.2.2.2.2.1)).bind fun (v9 : List UInt8) => some (decide (v8 = v9), ())).bind
                fun (v10 : Bool × Unit) => some v10.1
theorem t_conciergelaw22_PhraseHears (x : (List UInt8) × ((Int) × (List UInt8) × (Int) × (Int) × (Int) × (Int) × (List UInt8) × (Int) × (Int) × (Int) × (List UInt8) × (List UInt8) × (List UInt8) × (List UInt8) × Unit) × ((Int) × (List UInt8) × (Int) × (Int) × (Int) × (Int) × (List UInt8) × (Int) × (Int) × (Int) × (List UInt8) × (List UInt8) × (List UInt8) × (List UInt8) × Unit)) (F : Nat) : fnRun TT Tryz.prog (e_conciergelaw22_PhraseHears F) s_conciergelaw22_PhraseHears (bodyOf 14) F x = M_conciergelaw22_PhraseHears F x := by kernel_rfl
theorem c_conciergelaw22_PhraseHears (F : Nat) : Ctr TT Tryz.prog 14 (conOf TT s_conciergelaw22_PhraseHears (M_conciergelaw22_PhraseHears F)) :=
  ctr_of (code := bodyOf 14) Tryz.func14 (by kernel_rfl) (by kernel_rfl) (by kernel_rfl) (by kernel_rfl) (envS_ok (envS_ok (envS_ok (envS_ok envN_ok (c_conciergelaw22_awake F)) (c_conciergelaw18_Small F)) (c_conciergeref22_Gaps F)) (c_phrase_Fill F)) hm (by kernel_rfl) (fun x r h => ⟨F, (t_conciergelaw22_PhraseHears x F).trans h⟩)
end Go.Vm
