/- Models of functions of the program, and that each keeps its contract: for all arguments of its shape. No condition. -/
import Derived.Test.YtgeafoacmnlioaaDoorKt
import Derived.Test.YtgeafoacmnlioaaDoorFref2
import Derived.Test.YtgeafoacmnlioaaDoorFref5
import Derived.Test.YtgeafoacmnlioaaDoorFnum
namespace Go.Vm
open Go.Proofs
set_option linter.unusedVariables false
noncomputable def s_conciergeref42_Hex : Spec Kd := { params := [(.a .str)], ret := (.one (.a .str)), pins := [], pl := { nt := 38, loops := [(0, ⟨[.tmp 0 (.a .str), .tmp 3 (.a .str), .tmp 4 (.a .str), .tmp 5 (.a (.int .i64))], [], []⟩, (.exit 0, ⟨[.tmp 4 (.a .str)], [], []⟩), [])] }, rfrz := [], ts := [2] }
noncomputable def e_conciergeref42_Hex (F : Nat) : Env El := envN
noncomputable def M_conciergeref42_Hex_l0 (F : Nat) (v0 : (List UInt8 × List UInt8 × List UInt8 × Int × Unit)) : Option ((List UInt8 × List UInt8 × List UInt8 × Int × Unit) ⊕ (List UInt8 × Unit)) :=
  if decide (v0.2.2.2.1 < (↑v0.1.length : Int)) = true then
          (idx v0.1 v0.2.2.2.1).bind fun (v1 : UInt8) =>
            (idx v0.1 v0.2.2.2.1).bind fun (v2 : UInt8) =>
              (sub v0.2.1 (IntKind.u8.wrap ((↑v1.toNat : Int).tdiv 16)) (IntKind.u8.wrap (IntKind.u8.wrap ((↑v2.toNat : Int).tdiv 16) + 1))).bind
                fun (v3 : List UInt8) =>
                if decide (v0.2.2.1.length + v3.length ≤ 9223372036854775807) = true then
                  (idx v0.1 v0.2.2.2.1).bind fun (v4 : UInt8) =>
                    (idx v0.1 v0.2.2.2.1).bind fun (v5 : UInt8) =>
                      (sub v0.2.1 ((↑v4.toNat : Int).tmod 16) (IntKind.u8.wrap ((↑v5.toNat : Int).tmod 16 + 1))).bind fun (v6 : List UInt8) =>
                        if decide ((v0.2.2.1 ++ v3).length + v6.length ≤ 9223372036854775807) = true then
                          some (Sum.inl (v0.1, v0.2.1, v0.2.2.1 ++ v3 ++ v6, IntKind.i64.wrap (v0.2.2.2.1 + 1), ()))
                        else none
                else none
        else some (Sum.inr (v0.2.2.1, ()))
noncomputable def M_conciergeref42_Hex (F : Nat) (x : (List UInt8)) : Option (List UInt8) :=
  (loopM (M_conciergeref42_Hex_l0 F)
        F (x, [48, 49, 50, 51, 52, 53, 54, 55, 56, 57, 97, 98, 99, 100, 101, 102], [], 0, ())).bind
    fun (v7 : List UInt8 × Unit) => some v7.1
theorem t_conciergeref42_Hex (x : (List UInt8)) (F : Nat) : fnRun TT Tryd.prog (e_conciergeref42_Hex F) s_conciergeref42_Hex (bodyOf 41) F x = M_conciergeref42_Hex F x := by kernel_rfl
theorem c_conciergeref42_Hex (F : Nat) : Ctr TT Tryd.prog 41 (conOf TT s_conciergeref42_Hex (M_conciergeref42_Hex F)) :=
  ctr_of (code := bodyOf 41) Tryd.func41 (by kernel_rfl) (by kernel_rfl) (by kernel_rfl) (by kernel_rfl) envN_ok hm (by kernel_rfl) (fun x r h => ⟨F, (t_conciergeref42_Hex x F).trans h⟩)
theorem mo_conciergeref42_Hex_l0 {F F' : Nat} (h : F ≤ F') : ∀ v, Le (M_conciergeref42_Hex_l0 F v) (M_conciergeref42_Hex_l0 F' v) := by
  intro v
  unfold M_conciergeref42_Hex_l0
  with_reducible repeat (first | (intro v) | exact Le.refl _ | exact h | apply Le.bind | apply Le.ite | apply Le.loop | apply Le.sumC)
theorem mo_conciergeref42_Hex {F F' : Nat} (h : F ≤ F') : ∀ v, Le (M_conciergeref42_Hex F v) (M_conciergeref42_Hex F' v) := by
  intro v
  unfold M_conciergeref42_Hex
  with_reducible repeat (first | (intro v) | exact Le.refl _ | exact h | exact mo_conciergeref42_Hex_l0 h | exact mo_conciergeref42_Hex_l0 h _ | apply Le.bind | apply Le.ite | apply Le.loop | apply Le.sumC)
noncomputable def s_conciergeref42_digit : Spec Kd := { params := [(.a (.int .u8))], ret := (.one (.a (.int .i64))), pins := [], pl := { nt := 22, cuts := [(3, [(6, ⟨[.tmp 0 (.a (.int .u8)), .tmp 17 (.a .bool)], [], []⟩)]), (1, [(6, ⟨[.tmp 0 (.a (.int .u8)), .tmp 8 (.a .bool)], [], []⟩)])] }, rfrz := [], ts := [2] }
noncomputable def e_conciergeref42_digit (F : Nat) : Env El := envN
noncomputable def M_conciergeref42_digit (F : Nat) (x : (Int)) : Option (Int) :=
  (if decide (48 ≤ x) = true then some (x, decide (x ≤ 57), ()) else some (x, false, ())).bind fun (v0 : Int × Bool × Unit) =>
    if v0.2.1 = true then some (IntKind.i64.wrap (IntKind.i64.wrap v0.1 - 48))
    else
      (if decide (97 ≤ v0.1) = true then some (v0.1, decide (v0.1 ≤ 102), ()) else some (v0.1, false, ())).bind fun (v1 : Int × Bool × Unit) =>
        if v1.2.1 = true then some (IntKind.i64.wrap (IntKind.i64.wrap (IntKind.i64.wrap v1.1 - 97) + 10)) else some (-1)
theorem t_conciergeref42_digit (x : (Int)) (F : Nat) : fnRun TT Tryd.prog (e_conciergeref42_digit F) s_conciergeref42_digit (bodyOf 33) F x = M_conciergeref42_digit F x := by kernel_rfl
theorem c_conciergeref42_digit (F : Nat) : Ctr TT Tryd.prog 33 (conOf TT s_conciergeref42_digit (M_conciergeref42_digit F)) :=
  ctr_of (code := bodyOf 33) Tryd.func33 (by kernel_rfl) (by kernel_rfl) (by kernel_rfl) (by kernel_rfl) envN_ok hm (by kernel_rfl) (fun x r h => ⟨F, (t_conciergeref42_digit x F).trans h⟩)
noncomputable def s_conciergeref42_May : Spec Kd := { params := [(.a (.int .i64)), (.a .str)], ret := (.one (.a .bool)), pins := [], pl := { nt := 15, cuts := [(1, [(6, ⟨[.tmp 1 (.a .str), .tmp 10 (.a .bool)], [], []⟩), (4, ⟨[.tmp 14 (.a .bool)], [], []⟩)])] }, rfrz := [], ts := [4] }
noncomputable def e_conciergeref42_May (F : Nat) : Env El := (envS 40 (conOf TT s_conciergeref05_Key (M_conciergeref05_Key F)) envN)
noncomputable def M_conciergeref42_May (F : Nat) (x : (Int) × (List UInt8)) : Option (Bool) :=
  (if decide (0 ≤ x.1) = true then some (x.2, decide (x.1 ≤ 3), ()) else some (x.2, false, ())).bind fun (v0 : List UInt8 × Bool × Unit) =>
    (if v0.2.1 = true then (M_conciergeref05_Key F v0.1).bind fun (v1 : Bool) => some (v1, ()) else some (false, ())).bind fun (v2 : Bool × Unit) => some v2.1
theorem t_conciergeref42_May (x : (Int) × (List UInt8)) (F : Nat) : fnRun TT Tryd.prog (e_conciergeref42_May F) s_conciergeref42_May (bodyOf 12) F x = M_conciergeref42_May F x := by kernel_rfl
theorem c_conciergeref42_May (F : Nat) : Ctr TT Tryd.prog 12 (conOf TT s_conciergeref42_May (M_conciergeref42_May F)) :=
  ctr_of (code := bodyOf 12) Tryd.func12 (by kernel_rfl) (by kernel_rfl) (by kernel_rfl) (by kernel_rfl) (envS_ok envN_ok (c_conciergeref05_Key F)) hm (by kernel_rfl) (fun x r h => ⟨F, (t_conciergeref42_May x F).trans h⟩)
noncomputable def s_conciergeref42_Mark : Spec Kd := { params := [(.a (.int .i64)), (.a .str)], ret := (.one (.a .str)), pins := [], pl := { nt := 12 }, rfrz := [], ts := [4] }
noncomputable def e_conciergeref42_Mark (F : Nat) : Env El := (envS 41 (conOf TT s_conciergeref42_Hex (M_conciergeref42_Hex F)) (envS 34 (conOf TT s_conciergeref02_Seal (M_conciergeref02_Seal F)) (envS 43 (conOf TT s_conciergeref01_Text (M_conciergeref01_Text F)) (envS 42 (conOf TT s_conciergeref01_Num (M_conciergeref01_Num F)) envN))))
noncomputable def M_conciergeref42_Mark (F : Nat) (x : (Int) × (List UInt8)) : Option (List UInt8) :=
  (M_conciergeref01_Num F x.1).bind fun (v0 : List UInt8) =>
    (M_conciergeref01_Text F x.2).bind fun (v1 : List UInt8) =>
      if decide (v0.length + v1.length ≤ 9223372036854775807) = true then
        (M_conciergeref02_Seal F (v0 ++ v1)).bind fun (v2 : List UInt8) => (M_conciergeref42_Hex F v2).bind fun (v3 : List UInt8) => some v3
      else none
theorem t_conciergeref42_Mark (x : (Int) × (List UInt8)) (F : Nat) : fnRun TT Tryd.prog (e_conciergeref42_Mark F) s_conciergeref42_Mark (bodyOf 13) F x = M_conciergeref42_Mark F x := by kernel_rfl
theorem c_conciergeref42_Mark (F : Nat) : Ctr TT Tryd.prog 13 (conOf TT s_conciergeref42_Mark (M_conciergeref42_Mark F)) :=
  ctr_of (code := bodyOf 13) Tryd.func13 (by kernel_rfl) (by kernel_rfl) (by kernel_rfl) (by kernel_rfl) (envS_ok (envS_ok (envS_ok (envS_ok envN_ok (c_conciergeref01_Num F)) (c_conciergeref01_Text F)) (c_conciergeref02_Seal F)) (c_conciergeref42_Hex F)) hm (by kernel_rfl) (fun x r h => ⟨F, (t_conciergeref42_Mark x F).trans h⟩)
theorem mo_conciergeref42_Mark {F F' : Nat} (h : F ≤ F') : ∀ v, Le (M_conciergeref42_Mark F v) (M_conciergeref42_Mark F' v) := by
  intro v
  unfold M_conciergeref42_Mark
  with_reducible repeat (first | (intro v) | exact Le.refl _ | exact h | exact mo_conciergeref01_Num h _ | exact mo_conciergeref01_Text h _ | exact mo_conciergeref02_Seal h _ | exact mo_conciergeref42_Hex h _ | apply Le.bind | apply Le.ite | apply Le.loop | apply Le.sumC)
noncomputable def s_conciergeref42_Place : Spec Kd := { params := [(.a .str)], ret := (.tup [(.a (.int .i64)), (.a .str), (.a (.int .i64))]), pins := [], pl := { nt := 89, loops := [(0, ⟨[.tmp 0 (.a .str), .tmp 5 (.a .str), .tmp 6 (.a (.int .i64))], [], []⟩, (.exit 0, ⟨[.tmp 0 (.a .str), .tmp 5 (.a .str)], [], []⟩), [(.ret, ⟨[.tmp 2 (.a (.int .i64)), .tmp 3 (.a .str), .tmp 4 (.a (.int .i64))], [], []⟩)])], cuts := [(17, [(15, ⟨[.tmp 5 (.a .str), .tmp 9 (.a .str), .tmp 84 (.a .bool)], [], []⟩)]), (14, [(8, ⟨[.tmp 0 (.a .str), .tmp 5 (.a .str), .tmp 64 (.a .bool)], [], []⟩)]), (12, [(13, ⟨[.tmp 0 (.a .str), .tmp 5 (.a .str), .tmp 56 (.a .bool)], [], []⟩)]), (9, [(6, ⟨[.tmp 0 (.a .str), .tmp 5 (.a .str), .tmp 6 (.a (.int .i64)), .tmp 7 (.a (.int .i64)), .tmp 8 (.a (.int .i64)), .tmp 34 (.a .bool)], [], []⟩)])] }, rfrz := [], ts := [2, 3, 4] }
noncomputable def e_conciergeref42_Place (F : Nat) : Env El := (envS 13 (conOf TT s_conciergeref42_Mark (M_conciergeref42_Mark F)) (envS 12 (conOf TT s_conciergeref42_May (M_conciergeref42_May F)) (envS 34 (conOf TT s_conciergeref02_Seal (M_conciergeref02_Seal F)) (envS 33 (conOf TT s_conciergeref42_digit (M_conciergeref42_digit F)) envN))))
noncomputable def M_conciergeref42_Place_l0 (F : Nat) (v0 : (List UInt8 × List UInt8 × Int × Unit)) : Option ((List UInt8 × List UInt8 × Int × Unit) ⊕ (List UInt8 × List UInt8 × Unit ⊕ Int × List UInt8 × Int × Unit)) :=
  if decide (v0.2.2.1 < (↑v0.1.length : Int)) = true then
            (idx v0.1 v0.2.2.1).bind fun (v1 : UInt8) =>
              (M_conciergeref42_digit F (↑v1.toNat : Int)).bind fun (v2 : Int) =>
                (idx v0.1 (IntKind.i64.wrap (v0.2.2.1 + 1))).bind fun (v3 : UInt8) =>
                  (M_conciergeref42_digit F (↑v3.toNat : Int)).bind fun (v4 : Int) =>
                    (if decide (v2 < 0) = false then some (v0.1, v0.2.1, v0.2.2.1, v2, v4, decide (v4 < 0), ())
                        else some (v0.1, v0.2.1, v0.2.2.1, v2, v4, true, ())).bind
                      fun (v5 : List UInt8 × List UInt8 × Int × Int × Int × Bool × Unit) =>
                      if v5.2.2.2.2.2.1 = true then some (Sum.inr (Sum.inr (0, [], 3, ())))
                      else
                        if
                            decide
                                (v5.2.1.length +
                                    [UInt8.ofNat (IntKind.u8.wrap (IntKind.i64.wrap (IntKind.i64.wrap (v5.2.2.2.1 * 16) + v5.2.2.2.2.1))).toNat].length ≤
                                  9223372036854775807) =
                              true then
                          some
                            (Sum.inl
                              (v5.1, v5.2.1 ++ [UInt8.ofNat (IntKind.u8.wrap (IntKind.i64.wrap (IntKind.i64.wrap (v5.2.2.2.1 * 16) + v5.2.2.2.2.1))).toNat],
                                IntKind.i64.wrap (v5.2.2.1 + 2), ()))
                        else none
          else some (Sum.inr (Sum.inl (v0.1, v0.2.1, ())))
noncomputable def M_conciergeref42_Place (F : Nat) (x : (List UInt8)) : Option ((Int) × (List UInt8) × (Int)) :=
  if (!decide ((↑x.length : Int).tmod 2 = 0)) = true then some (0, [], 3)
  else
    (loopM (M_conciergeref42_Place_l0 F)
          F (x, [], 0, ())).bind
      fun (v6 : List UInt8 × List UInt8 × Unit ⊕ Int × List UInt8 × Int × Unit) =>
      sumC v6
        (fun (v7 : List UInt8 × List UInt8 × Unit) =>
          (if decide ((↑v7.2.1.length : Int) < 4) = false then
                (sub v7.2.1 0 (IntKind.i64.wrap ((↑v7.2.1.length : Int) - 4))).bind fun (v8 : List UInt8) =>
                  (M_conciergeref02_Seal F v8).bind fun (v9 : List UInt8) => some (v7.1, v7.2.1, !decide (v9 = v7.2.1), ())
              else some (v7.1, v7.2.1, true, ())).bind
            fun (v10 : List UInt8 × List UInt8 × Bool × Unit) =>
            if v10.2.2.1 = true then some (0, [], 4)
            else
              (if decide ((↑v10.2.1.length : Int) < 6) = false then
                    (idx v10.2.1 0).bind fun (v11 : UInt8) => some (v10.1, v10.2.1, decide (3 < (↑v11.toNat : Int)), ())
                  else some (v10.1, v10.2.1, true, ())).bind
                fun (v12 : List UInt8 × List UInt8 × Bool × Unit) =>
                if v12.2.2.1 = true then some (0, [], 3)
                else
                  (sub v12.2.1 2 (IntKind.i64.wrap ((↑v12.2.1.length : Int) - 4))).bind fun (v13 : List UInt8) =>
                    ((idx v12.2.1 0).bind fun (v14 : UInt8) =>
                          (M_conciergeref42_May F (IntKind.i64.wrap (↑v14.toNat : Int), v13)).bind fun (v15 : Bool) =>
                            if (!v15) = false then
                              (idx v12.2.1 0).bind fun (v16 : UInt8) =>
                                (M_conciergeref42_Mark F (IntKind.i64.wrap (↑v16.toNat : Int), v13)).bind fun (v17 : List UInt8) =>
                                  some (v12.2.1, v13, !decide (v17 = v12.1), ())
                            else some (v12.2.1, v13, true, ())).bind
                      fun (v18 : List UInt8 × List UInt8 × Bool × Unit) =>
                      if v18.2.2.1 = true then some (0, [], 3)
                      else (idx v18.1 0).bind fun (v19 : UInt8) => some (IntKind.i64.wrap (↑v19.toNat : Int), v18.2.1, 0))
        fun (v20 : Int × List UInt8 × Int × Unit) => some (v20.1, v20.2.1, v20.2.2.1)
theorem t_conciergeref42_Place (x : (List UInt8)) (F : Nat) : fnRun TT Tryd.prog (e_conciergeref42_Place F) s_conciergeref42_Place (bodyOf 10) F x = M_conciergeref42_Place F x := by kernel_rfl
theorem c_conciergeref42_Place (F : Nat) : Ctr TT Tryd.prog 10 (conOf TT s_conciergeref42_Place (M_conciergeref42_Place F)) :=
  ctr_of (code := bodyOf 10) Tryd.func10 (by kernel_rfl) (by kernel_rfl) (by kernel_rfl) (by kernel_rfl) (envS_ok (envS_ok (envS_ok (envS_ok envN_ok (c_conciergeref42_digit F)) (c_conciergeref02_Seal F)) (c_conciergeref42_May F)) (c_conciergeref42_Mark F)) hm (by kernel_rfl) (fun x r h => ⟨F, (t_conciergeref42_Place x F).trans h⟩)
end Go.Vm
