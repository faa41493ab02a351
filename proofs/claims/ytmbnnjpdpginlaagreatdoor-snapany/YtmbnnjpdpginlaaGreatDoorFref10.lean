/- Models of functions of the program, and that each keeps its contract: for all arguments of its shape. No condition. -/
import Derived.Test.YtmbnnjpdpginlaaGreatDoorKt
import Derived.Test.YtmbnnjpdpginlaaGreatDoorFref2
namespace Go.Vm
open Go.Proofs
set_option linter.unusedVariables false
noncomputable def s_conciergeref10_four : Spec Kd := { params := [(.a .str)], ret := (.one (.a .str)), pins := [], pl := { nt := 19, cuts := [(2, [(14, ⟨[.tmp 2 (.a .str)], [], []⟩)])] }, rfrz := [], ts := [2] }
noncomputable def e_conciergeref10_four (F : Nat) : Env El := (envS 97 (conOf TT s_conciergeref02_Of (M_conciergeref02_Of F)) envN)
/-- concierge/conciergeref10.four -/
noncomputable def M_conciergeref10_four (F : Nat) (x : (List UInt8)) : Option (List UInt8) :=
  (M_conciergeref02_Of F x).bind fun v0 =>
    some
      [UInt8.ofNat (IntKind.u8.wrap (shr IntKind.u32 v0 24)).toNat, UInt8.ofNat (IntKind.u8.wrap (shr IntKind.u32 v0 16)).toNat,
        UInt8.ofNat (IntKind.u8.wrap (shr IntKind.u32 v0 8)).toNat, UInt8.ofNat (IntKind.u8.wrap v0).toNat]
theorem t_conciergeref10_four (x : (List UInt8)) (F : Nat) : fnRun TT Tryz.prog (e_conciergeref10_four F) s_conciergeref10_four (bodyOf 72) F x = M_conciergeref10_four F x := by kernel_rfl
theorem c_conciergeref10_four (F : Nat) : Ctr TT Tryz.prog 72 (conOf TT s_conciergeref10_four (M_conciergeref10_four F)) :=
  ctr_of (code := bodyOf 72) Tryz.func72 (by kernel_rfl) (by kernel_rfl) (by kernel_rfl) (by kernel_rfl) (envS_ok envN_ok (c_conciergeref02_Of F)) hm (by kernel_rfl) (fun x r h => ⟨F, (t_conciergeref10_four x F).trans h⟩)
theorem mo_conciergeref10_four {F F' : Nat} (h : F ≤ F') : ∀ v, Le (M_conciergeref10_four F v) (M_conciergeref10_four F' v) := by
  intro v
  unfold M_conciergeref10_four
  with_reducible repeat (first | (intro v) | exact Le.refl _ | exact h | exact mo_conciergeref02_Of h _ | apply Le.bind | apply Le.ite | apply Le.loop | apply Le.sumC)
noncomputable def s_conciergeref10_Make : Spec Kd := { params := [(.a .str)], ret := (.one (.a .str)), pins := [], pl := { nt := 23, cuts := [(2, [(10, ⟨[.tmp 2 (.a .str)], [], []⟩)]), (1, [(11, ⟨[.tmp 0 (.a .str), .tmp 3 (.a .str)], [], []⟩)])] }, rfrz := [], ts := [2] }
noncomputable def e_conciergeref10_Make (F : Nat) : Env El := (envS 72 (conOf TT s_conciergeref10_four (M_conciergeref10_four F)) envN)
/-- concierge/conciergeref10.Make -/
noncomputable def M_conciergeref10_Make (F : Nat) (x : (List UInt8)) : Option (List UInt8) :=
  ((M_conciergeref10_four F
            [UInt8.ofNat (IntKind.u8.wrap (IntKind.i64.wrap ((↑x.length : Int).tdiv 256))).toNat,
              UInt8.ofNat (IntKind.u8.wrap ((↑x.length : Int).tmod 256)).toNat]).bind
        fun v0 =>
        if
            decide
                ([UInt8.ofNat (IntKind.u8.wrap (IntKind.i64.wrap ((↑x.length : Int).tdiv 256))).toNat,
                        UInt8.ofNat (IntKind.u8.wrap ((↑x.length : Int).tmod 256)).toNat].length +
                    v0.length ≤
                  9223372036854775807) =
              true then
          if
              decide
                  (([UInt8.ofNat (IntKind.u8.wrap (IntKind.i64.wrap ((↑x.length : Int).tdiv 256))).toNat,
                            UInt8.ofNat (IntKind.u8.wrap ((↑x.length : Int).tmod 256)).toNat] ++
                          v0).length +
                      x.length ≤
                    9223372036854775807) =
                true then
            (M_conciergeref10_four F x).bind fun v1 =>
              if
                  decide
                      (([UInt8.ofNat (IntKind.u8.wrap (IntKind.i64.wrap ((↑x.length : Int).tdiv 256))).toNat,
                                  UInt8.ofNat (IntKind.u8.wrap ((↑x.length : Int).tmod 256)).toNat] ++
                                v0 ++
                              x).length +
                          v1.length ≤
                        9223372036854775807) =
                    true then
                some
                  ([UInt8.ofNat (IntKind.u8.wrap (IntKind.i64.wrap ((↑x.length : Int).tdiv 256))).toNat,
                            UInt8.ofNat (IntKind.u8.wrap ((↑x.length : Int).tmod 256)).toNat] ++
                          v0 ++
                        x ++
                      v1,
                    ())
              else none
          else none
        else none).bind
    fun v2 => some v2.1
theorem t_conciergeref10_Make (x : (List UInt8)) (F : Nat) : fnRun TT Tryz.prog (e_conciergeref10_Make F) s_conciergeref10_Make (bodyOf 39) F x = M_conciergeref10_Make F x := by kernel_rfl
theorem c_conciergeref10_Make (F : Nat) : Ctr TT Tryz.prog 39 (conOf TT s_conciergeref10_Make (M_conciergeref10_Make F)) :=
  ctr_of (code := bodyOf 39) Tryz.func39 (by kernel_rfl) (by kernel_rfl) (by kernel_rfl) (by kernel_rfl) (envS_ok envN_ok (c_conciergeref10_four F)) hm (by kernel_rfl) (fun x r h => ⟨F, (t_conciergeref10_Make x F).trans h⟩)
theorem mo_conciergeref10_Make {F F' : Nat} (h : F ≤ F') : ∀ v, Le (M_conciergeref10_Make F v) (M_conciergeref10_Make F' v) := by
  intro v
  unfold M_conciergeref10_Make
  with_reducible repeat (first | (intro v) | exact Le.refl _ | exact h | exact mo_conciergeref10_four h _ | apply Le.bind | apply Le.ite | apply Le.loop | apply Le.sumC)
noncomputable def s_conciergeref10_First : Spec Kd := { params := [(.a .str)], ret := (.tup [(.a .str), (.a (.int .i64)), (.a (.int .i64))]), pins := [], pl := { nt := 48, ends := [(10, ⟨[.tmp 0 (.a .str), .tmp 5 (.a (.int .i64)), .tmp 41 (.a .bool)], [], []⟩), (5, ⟨[.tmp 0 (.a .str), .tmp 5 (.a (.int .i64))], [], []⟩)] }, rfrz := [], ts := [2, 3, 4] }
noncomputable def e_conciergeref10_First (F : Nat) : Env El := (envS 72 (conOf TT s_conciergeref10_four (M_conciergeref10_four F)) envN)
/-- concierge/conciergeref10.First -/
noncomputable def M_conciergeref10_First (F : Nat) (x : (List UInt8)) : Option ((List UInt8) × (Int) × (Int)) :=
  if decide ((↑x.length : Int) < 6) = true then some ([], 0, 3)
  else
    (sub x 0 2).bind fun v0 =>
      (M_conciergeref10_four F v0).bind fun v1 =>
        (sub x 2 6).bind fun v2 =>
          if (!decide (v1 = v2)) = true then some ([], 0, 4)
          else
            ((idx x 0).bind fun v3 =>
                  (idx x 1).bind fun v4 =>
                    some (x, IntKind.i64.wrap (IntKind.i64.wrap (IntKind.i64.wrap (↑v3.toNat : Int) * 256) + IntKind.i64.wrap (↑v4.toNat : Int)), ())).bind
              fun v5 =>
              if decide (2000 < v5.2.1) = true then some ([], 0, 5)
              else
                if decide ((↑v5.1.length : Int) < IntKind.i64.wrap (v5.2.1 + 10)) = true then some ([], 0, 3)
                else
                  ((sub v5.1 6 (IntKind.i64.wrap (v5.2.1 + 6))).bind fun v6 =>
                        (M_conciergeref10_four F v6).bind fun v7 =>
                          (sub v5.1 (IntKind.i64.wrap (v5.2.1 + 6)) (IntKind.i64.wrap (v5.2.1 + 10))).bind fun v8 =>
                            some (v5.1, v5.2.1, !decide (v7 = v8), ())).bind
                    fun v9 =>
                    if v9.2.2.1 = true then some ([], 0, 4)
                    else (sub v9.1 6 (IntKind.i64.wrap (v9.2.1 + 6))).bind fun v10 => some (v10, IntKind.i64.wrap (v9.2.1 + 10), 0)
theorem t_conciergeref10_First (x : (List UInt8)) (F : Nat) : fnRun TT Tryz.prog (e_conciergeref10_First F) s_conciergeref10_First (bodyOf 73) F x = M_conciergeref10_First F x := by kernel_rfl
theorem c_conciergeref10_First (F : Nat) : Ctr TT Tryz.prog 73 (conOf TT s_conciergeref10_First (M_conciergeref10_First F)) :=
  ctr_of (code := bodyOf 73) Tryz.func73 (by kernel_rfl) (by kernel_rfl) (by kernel_rfl) (by kernel_rfl) (envS_ok envN_ok (c_conciergeref10_four F)) hm (by kernel_rfl) (fun x r h => ⟨F, (t_conciergeref10_First x F).trans h⟩)
theorem mo_conciergeref10_First {F F' : Nat} (h : F ≤ F') : ∀ v, Le (M_conciergeref10_First F v) (M_conciergeref10_First F' v) := by
  intro v
  unfold M_conciergeref10_First
  with_reducible repeat (first | (intro v) | exact Le.refl _ | exact h | exact mo_conciergeref10_four h _ | apply Le.bind | apply Le.ite | apply Le.loop | apply Le.sumC)
noncomputable def s_conciergeref10_Split : Spec Kd := { params := [(.a .str)], ret := (.tup [(.a (.row 9 .str)), (.a (.int .i64)), (.a (.int .i64))]), pins := [], pl := { nt := 36, orc := { rv := [2, 5, 24, 27, 30, 34], gv := [] }, loops := [(0, ⟨[.tmp 0 (.a .str), .tmp 5 (.a (.rowp 320)), .tmp 6 (.a (.int .i64)), .box 320 (.row 9 .str)], [], [.tmpRow 5 320 9 .str]⟩, (.exit 0, ⟨[.tmp 5 (.a (.rowp 320)), .tmp 6 (.a (.int .i64)), .box 320 (.row 9 .str)], [], [.tmpRow 5 320 9 .str]⟩), [(.ret, ⟨[.tmp 2 (.a (.rowp 128)), .tmp 3 (.a (.int .i64)), .tmp 4 (.a (.int .i64)), .box 128 (.row 9 .str)], [], [.tmpRow 2 128 9 .str]⟩)])], cuts := [(4, [(11, ⟨[.tmp 0 (.a .str), .tmp 5 (.a (.rowp 320)), .tmp 6 (.a (.int .i64)), .tmp 7 (.a .str), .tmp 8 (.a (.int .i64)), .tmp 9 (.a (.int .i64)), .box 320 (.row 9 .str)], [], [.tmpRow 5 320 9 .str]⟩)])] }, rfrz := [], ts := [2, 3, 4] }
noncomputable def e_conciergeref10_Split (F : Nat) : Env El := (envS 73 (conOf TT s_conciergeref10_First (M_conciergeref10_First F)) envN)
/-- concierge/conciergeref10.Split -/
noncomputable def M_conciergeref10_Split_l0 (F : Nat) (v0 : (List UInt8 × Unit × Int × List (List UInt8) × Unit)) : Option ((List UInt8 × Unit × Int × List (List UInt8) × Unit) ⊕ (Unit × Int × List (List UInt8) × Unit ⊕ Unit × Int × Int × List (List UInt8) × Unit)) :=
  if decide (v0.2.2.1 < (↑v0.1.length : Int)) = true then
          ((sub v0.1 v0.2.2.1 (↑v0.1.length : Int)).bind fun v1 =>
                (M_conciergeref10_First F v1).bind fun v2 => some (v0.1, (), v0.2.2.1, v2.1, v2.2.1, v2.2.2, v0.2.2.2.1, ())).bind
            fun v3 =>
            if (!decide (v3.2.2.2.2.2.1 = 0)) = true then some (Sum.inr (Sum.inr ((), v3.2.2.1, v3.2.2.2.2.2.1, v3.2.2.2.2.2.2.1, ())))
            else
              if decide ((v3.2.2.2.2.2.2.1.length + [v3.2.2.2.1].length) * 16 ≤ 140737488355328) = true then
                some (Sum.inl (v3.1, (), IntKind.i64.wrap (v3.2.2.1 + v3.2.2.2.2.1), v3.2.2.2.2.2.2.1 ++ [v3.2.2.2.1], ()))
              else none
        else some (Sum.inr (Sum.inl ((), v0.2.2.1, v0.2.2.2.1, ())))
noncomputable def M_conciergeref10_Split (F : Nat) (x : (List UInt8)) : Option ((List (El .str)) × (Int) × (Int)) :=
  (loopM (M_conciergeref10_Split_l0 F)
        F (x, (), 0, [], ())).bind
    fun v4 => sumC v4 (fun v5 => some (v5.2.2.1, v5.2.1, 0)) fun v6 => some (v6.2.2.2.1, v6.2.1, v6.2.2.1)
theorem t_conciergeref10_Split (x : (List UInt8)) (F : Nat) : fnRun TT Tryz.prog (e_conciergeref10_Split F) s_conciergeref10_Split (bodyOf 41) F x = M_conciergeref10_Split F x := by kernel_rfl
theorem c_conciergeref10_Split (F : Nat) : Ctr TT Tryz.prog 41 (conOf TT s_conciergeref10_Split (M_conciergeref10_Split F)) :=
  ctr_of (code := bodyOf 41) Tryz.func41 (by kernel_rfl) (by kernel_rfl) (by kernel_rfl) (by kernel_rfl) (envS_ok envN_ok (c_conciergeref10_First F)) hm (by kernel_rfl) (fun x r h => ⟨F, (t_conciergeref10_Split x F).trans h⟩)
theorem mo_conciergeref10_Split_l0 {F F' : Nat} (h : F ≤ F') : ∀ v, Le (M_conciergeref10_Split_l0 F v) (M_conciergeref10_Split_l0 F' v) := by
  intro v
  unfold M_conciergeref10_Split_l0
  with_reducible repeat (first | (intro v) | exact Le.refl _ | exact h | exact mo_conciergeref10_First h _ | apply Le.bind | apply Le.ite | apply Le.loop | apply Le.sumC)
theorem mo_conciergeref10_Split {F F' : Nat} (h : F ≤ F') : ∀ v, Le (M_conciergeref10_Split F v) (M_conciergeref10_Split F' v) := by
  intro v
  unfold M_conciergeref10_Split
  with_reducible repeat (first | (intro v) | exact Le.refl _ | exact h | exact mo_conciergeref10_First h _ | exact mo_conciergeref10_Split_l0 h | exact mo_conciergeref10_Split_l0 h _ | apply Le.bind | apply Le.ite | apply Le.loop | apply Le.sumC)

end Go.Vm
