/- Models of functions of the program, and that each keeps its contract: for all arguments of its shape. No condition. -/
import Derived.Test.YtgeafoacmnlioaaDoorKt
import Derived.Test.YtgeafoacmnlioaaDoorFsort
namespace Go.Vm
open Go.Proofs
set_option linter.unusedVariables false
noncomputable def s_conciergeref04_tail : Spec Kd := { params := [(.a .str), (.a (.int .i64))], ret := (.one (.a .bool)), pins := [], pl := { nt := 21, cuts := [(1, [(10, ⟨[.tmp 0 (.a .str), .tmp 1 (.a (.int .i64)), .tmp 14 (.a .bool)], [], []⟩), (6, ⟨[.tmp 20 (.a .bool)], [], []⟩)])] }, rfrz := [], ts := [4] }
noncomputable def e_conciergeref04_tail (F : Nat) : Env El := envN
noncomputable def M_conciergeref04_tail (F : Nat) (x : (List UInt8) × (Int)) : Option (Bool) :=
  (if decide (x.2 < (↑x.1.length : Int)) = true then (idx x.1 x.2).bind fun v0 => some (x.1, x.2, decide (128 ≤ (↑v0.toNat : Int)), ())
      else some (x.1, x.2, false, ())).bind
    fun v1 =>
    (if v1.2.2.1 = true then (idx v1.1 v1.2.1).bind fun v2 => some (decide ((↑v2.toNat : Int) < 192), ()) else some (false, ())).bind fun v3 => some v3.1
theorem t_conciergeref04_tail (x : (List UInt8) × (Int)) (F : Nat) : fnRun TT Tryd.prog (e_conciergeref04_tail F) s_conciergeref04_tail (bodyOf 121) F x = M_conciergeref04_tail F x := by kernel_rfl
theorem c_conciergeref04_tail (F : Nat) : Ctr TT Tryd.prog 121 (conOf TT s_conciergeref04_tail (M_conciergeref04_tail F)) :=
  ctr_of (code := bodyOf 121) Tryd.func121 (by kernel_rfl) (by kernel_rfl) (by kernel_rfl) (by kernel_rfl) envN_ok hm (by kernel_rfl) (fun x r h => ⟨F, (t_conciergeref04_tail x F).trans h⟩)
noncomputable def s_conciergeref04_First : Spec Kd := { params := [(.a .str)], ret := (.tup [(.a (.int .i64)), (.a (.int .i64))]), pins := [], pl := { nt := 115, joins := [(1200087, (.norm, ⟨[], [], []⟩), [(.ret, ⟨[.tmp 2 (.a (.int .i64)), .tmp 3 (.a (.int .i64))], [], []⟩)]), (800044, (.norm, ⟨[.tmp 0 (.a .str), .tmp 4 (.a (.int .i64))], [], []⟩), [(.ret, ⟨[.tmp 2 (.a (.int .i64)), .tmp 3 (.a (.int .i64))], [], []⟩)])], cuts := [(12, [(6, ⟨[.tmp 6 (.a (.int .i64)), .tmp 113 (.a .bool)], [], []⟩)]), (10, [(6, ⟨[.tmp 0 (.a .str), .tmp 4 (.a (.int .i64)), .tmp 75 (.a .bool)], [], []⟩), (4, ⟨[.tmp 0 (.a .str), .tmp 4 (.a (.int .i64)), .tmp 79 (.a .bool)], [], []⟩), (4, ⟨[.tmp 0 (.a .str), .tmp 4 (.a (.int .i64)), .tmp 83 (.a .bool)], [], []⟩), (4, ⟨[.tmp 0 (.a .str), .tmp 4 (.a (.int .i64)), .tmp 87 (.a .bool)], [], []⟩)]), (8, [(10, ⟨[.tmp 0 (.a .str), .tmp 4 (.a (.int .i64)), .tmp 5 (.a (.int .i64)), .tmp 68 (.a .bool)], [], []⟩)]), (6, [(6, ⟨[.tmp 0 (.a .str), .tmp 4 (.a (.int .i64)), .tmp 36 (.a .bool)], [], []⟩), (4, ⟨[.tmp 0 (.a .str), .tmp 4 (.a (.int .i64)), .tmp 40 (.a .bool)], [], []⟩), (4, ⟨[.tmp 0 (.a .str), .tmp 4 (.a (.int .i64)), .tmp 44 (.a .bool)], [], []⟩)]), (5, [(10, ⟨[.tmp 2 (.a (.int .i64)), .tmp 3 (.a (.int .i64))], [], []⟩)]), (4, [(6, ⟨[.tmp 0 (.a .str), .tmp 4 (.a (.int .i64)), .tmp 18 (.a .bool)], [], []⟩), (4, ⟨[.tmp 0 (.a .str), .tmp 4 (.a (.int .i64)), .tmp 22 (.a .bool)], [], []⟩)])], ends := [(11, ⟨[.tmp 6 (.a (.int .i64))], [], []⟩), (7, ⟨[.tmp 0 (.a .str), .tmp 4 (.a (.int .i64)), .tmp 5 (.a (.int .i64))], [], []⟩)] }, rfrz := [], ts := [2, 3] }
noncomputable def e_conciergeref04_First (F : Nat) : Env El := (envS 121 (conOf TT s_conciergeref04_tail (M_conciergeref04_tail F)) envN)
noncomputable def M_conciergeref04_First (F : Nat) (x : (List UInt8)) : Option ((Int) × (Int)) :=
  (idx x 0).bind fun v0 =>
    if decide (IntKind.i64.wrap (↑v0.toNat : Int) < 128) = true then some (IntKind.i64.wrap (↑v0.toNat : Int), 1)
    else
      (if decide (194 ≤ IntKind.i64.wrap (↑v0.toNat : Int)) = true then
            some (x, IntKind.i64.wrap (↑v0.toNat : Int), decide (IntKind.i64.wrap (↑v0.toNat : Int) < 224), ())
          else some (x, IntKind.i64.wrap (↑v0.toNat : Int), false, ())).bind
        fun v1 =>
        (if v1.2.2.1 = true then (M_conciergeref04_tail F (v1.1, 1)).bind fun v2 => some (v1.1, v1.2.1, v2, ()) else some (v1.1, v1.2.1, false, ())).bind
          fun v3 =>
          if v3.2.2.1 = true then
            ((idx v3.1 1).bind fun v4 =>
                  some
                    (IntKind.i64.wrap (IntKind.i64.wrap (IntKind.i64.wrap (IntKind.i64.wrap (v3.2.1 - 192) * 64) + IntKind.i64.wrap (↑v4.toNat : Int)) - 128), 2,
                      ())).bind
              fun v5 => some (v5.1, v5.2.1)
          else
            (if decide (224 ≤ v3.2.1) = true then some (v3.1, v3.2.1, decide (v3.2.1 < 240), ()) else some (v3.1, v3.2.1, false, ())).bind fun v6 =>
              (if v6.2.2.1 = true then (M_conciergeref04_tail F (v6.1, 1)).bind fun v7 => some (v6.1, v6.2.1, v7, ()) else some (v6.1, v6.2.1, false, ())).bind
                fun v8 =>
                (if v8.2.2.1 = true then (M_conciergeref04_tail F (v8.1, 2)).bind fun v9 => some (v8.1, v8.2.1, v9, ()) else some (v8.1, v8.2.1, false, ())).bind
                  fun v10 =>
                  (if v10.2.2.1 = true then
                        ((idx v10.1 1).bind fun v11 =>
                              (idx v10.1 2).bind fun v12 =>
                                some
                                  (v10.1, v10.2.1,
                                    IntKind.i64.wrap
                                      (IntKind.i64.wrap
                                          (IntKind.i64.wrap
                                              (IntKind.i64.wrap (IntKind.i64.wrap (v10.2.1 - 224) * 4096) +
                                                IntKind.i64.wrap (IntKind.i64.wrap (IntKind.i64.wrap (↑v11.toNat : Int) - 128) * 64)) +
                                            IntKind.i64.wrap (↑v12.toNat : Int)) -
                                        128),
                                    ())).bind
                          fun v13 =>
                          (if decide (2048 ≤ v13.2.2.1) = true then
                                if decide (v13.2.2.1 < 55296) = false then some (v13.1, v13.2.1, v13.2.2.1, decide (57343 < v13.2.2.1), ())
                                else some (v13.1, v13.2.1, v13.2.2.1, true, ())
                              else some (v13.1, v13.2.1, v13.2.2.1, false, ())).bind
                            fun v14 => if v14.2.2.2.1 = true then some (Sum.inr (v14.2.2.1, 3, ())) else some (Sum.inl (v14.1, v14.2.1, ()))
                      else some (Sum.inl (v10.1, v10.2.1, ()))).bind
                    fun v15 =>
                    sumC v15
                      (fun v16 =>
                        (if decide (240 ≤ v16.2.1) = true then some (v16.1, v16.2.1, decide (v16.2.1 < 245), ()) else some (v16.1, v16.2.1, false, ())).bind
                          fun v17 =>
                          (if v17.2.2.1 = true then (M_conciergeref04_tail F (v17.1, 1)).bind fun v18 => some (v17.1, v17.2.1, v18, ())
                              else some (v17.1, v17.2.1, false, ())).bind
                            fun v19 =>
                            (if v19.2.2.1 = true then (M_conciergeref04_tail F (v19.1, 2)).bind fun v20 => some (v19.1, v19.2.1, v20, ())
                                else some (v19.1, v19.2.1, false, ())).bind
                              fun v21 =>
                              (if v21.2.2.1 = true then (M_conciergeref04_tail F (v21.1, 3)).bind fun v22 => some (v21.1, v21.2.1, v22, ())
                                  else some (v21.1, v21.2.1, false, ())).bind
                                fun v23 =>
                                (if v23.2.2.1 = true then
                                      ((idx v23.1 1).bind fun v24 =>
                                            (idx v23.1 2).bind fun v25 =>
                                              (idx v23.1 3).bind fun v26 =>
                                                some
                                                  (IntKind.i64.wrap
                                                      (IntKind.i64.wrap
                                                          (IntKind.i64.wrap
                                                              (IntKind.i64.wrap
                                                                  (IntKind.i64.wrap (IntKind.i64.wrap (v23.2.1 - 240) * 262144) +
                                                                    IntKind.i64.wrap (IntKind.i64.wrap (IntKind.i64.wrap (↑v24.toNat : Int) - 128) * 4096)) +
                                                                IntKind.i64.wrap (IntKind.i64.wrap (IntKind.i64.wrap (↑v25.toNat : Int) - 128) * 64)) +
                                                            IntKind.i64.wrap (↑v26.toNat : Int)) -
                                                        128),
                                                    ())).bind
                                        fun v27 =>
                                        (if decide (65536 ≤ v27.1) = true then some (v27.1, decide (v27.1 ≤ 1114111), ()) else some (v27.1, false, ())).bind
                                          fun v28 => if v28.2.1 = true then some (Sum.inr (v28.1, 4, ())) else some (Sum.inl ())
                                    else some (Sum.inl ())).bind
                                  fun v29 => sumC v29 (fun v30 => some (65533, 1)) fun v31 => some (v31.1, v31.2.1))
                      fun v32 => some (v32.1, v32.2.1)
theorem t_conciergeref04_First (x : (List UInt8)) (F : Nat) : fnRun TT Tryd.prog (e_conciergeref04_First F) s_conciergeref04_First (bodyOf 93) F x = M_conciergeref04_First F x := by kernel_rfl
theorem c_conciergeref04_First (F : Nat) : Ctr TT Tryd.prog 93 (conOf TT s_conciergeref04_First (M_conciergeref04_First F)) :=
  ctr_of (code := bodyOf 93) Tryd.func93 (by kernel_rfl) (by kernel_rfl) (by kernel_rfl) (by kernel_rfl) (envS_ok envN_ok (c_conciergeref04_tail F)) hm (by kernel_rfl) (fun x r h => ⟨F, (t_conciergeref04_First x F).trans h⟩)
noncomputable def s_conciergeref04_Signs : Spec Kd := { params := [(.a .str)], ret := (.tup [(.a (.row 3 .i64)), (.a (.row 3 .i64))]), pins := [], pl := { nt := 33, orc := { rv := [2, 3, 4, 5, 20, 23, 24, 27, 31, 32], gv := [] }, loops := [(0, ⟨[.tmp 0 (.a .str), .tmp 4 (.a (.rowp 256)), .tmp 5 (.a (.rowp 320)), .tmp 6 (.a (.int .i64)), .box 256 (.row 3 .i64), .box 320 (.row 3 .i64)], [], [.tmpRow 4 256 3 .i64, .tmpRow 5 320 3 .i64]⟩, (.exit 0, ⟨[.tmp 4 (.a (.rowp 256)), .tmp 5 (.a (.rowp 320)), .box 256 (.row 3 .i64), .box 320 (.row 3 .i64)], [], [.tmpRow 4 256 3 .i64, .tmpRow 5 320 3 .i64]⟩), [])] }, rfrz := [], ts := [2, 3] }
noncomputable def e_conciergeref04_Signs (F : Nat) : Env El := (envS 93 (conOf TT s_conciergeref04_First (M_conciergeref04_First F)) envN)
noncomputable def M_conciergeref04_Signs_l0 (F : Nat) (v0 : (List UInt8 × Unit × Unit × Int × List Int × List Int × Unit)) : Option ((List UInt8 × Unit × Unit × Int × List Int × List Int × Unit) ⊕ (Unit × Unit × List Int × List Int × Unit)) :=
  if decide (v0.2.2.2.1 < (↑v0.1.length : Int)) = true then
          (sub v0.1 v0.2.2.2.1 (↑v0.1.length : Int)).bind fun v1 =>
            (M_conciergeref04_First F v1).bind fun v2 =>
              if decide ((v0.2.2.2.2.1.length + [v2.1].length) * 8 ≤ 140737488355328) = true then
                if decide ((v0.2.2.2.2.2.1.length + [v0.2.2.2.1].length) * 8 ≤ 140737488355328) = true then
                  some (Sum.inl (v0.1, (), (), IntKind.i64.wrap (v0.2.2.2.1 + v2.2), v0.2.2.2.2.1 ++ [v2.1], v0.2.2.2.2.2.1 ++ [v0.2.2.2.1], ()))
                else none
              else none
        else some (Sum.inr ((), (), v0.2.2.2.2.1, v0.2.2.2.2.2.1, ()))
noncomputable def M_conciergeref04_Signs (F : Nat) (x : (List UInt8)) : Option ((List (El .i64)) × (List (El .i64))) :=
  (loopM (M_conciergeref04_Signs_l0 F)
        F (x, (), (), 0, [], [], ())).bind
    fun v3 => some (v3.2.2.1, v3.2.2.2.1)
theorem t_conciergeref04_Signs (x : (List UInt8)) (F : Nat) : fnRun TT Tryd.prog (e_conciergeref04_Signs F) s_conciergeref04_Signs (bodyOf 72) F x = M_conciergeref04_Signs F x := by kernel_rfl
theorem c_conciergeref04_Signs (F : Nat) : Ctr TT Tryd.prog 72 (conOf TT s_conciergeref04_Signs (M_conciergeref04_Signs F)) :=
  ctr_of (code := bodyOf 72) Tryd.func72 (by kernel_rfl) (by kernel_rfl) (by kernel_rfl) (by kernel_rfl) (envS_ok envN_ok (c_conciergeref04_First F)) hm (by kernel_rfl) (fun x r h => ⟨F, (t_conciergeref04_Signs x F).trans h⟩)
noncomputable def s_conciergeref04_Right : Spec Kd := { params := [(.a .str), (.a (.int .i64))], ret := (.one (.a .bool)), pins := [], pl := { nt := 34, loops := [(0, ⟨[.tmp 5 (.a (.slc .i64)), .tmp 7 (.a (.int .i64))], [1217, 1218], []⟩, (.exit 0, ⟨[], [1217, 1218], []⟩), [(.ret, ⟨[.tmp 4 (.a .bool)], [1217, 1218], []⟩)])], cuts := [(1, [(9, ⟨[.tmp 0 (.a .str), .tmp 16 (.a .bool)], [1217, 1218], []⟩)])] }, rfrz := [], ts := [4] }
noncomputable def e_conciergeref04_Right (F : Nat) : Env El := (envS 73 (conOf TT s_conciergeref04_Sort (M_conciergeref04_Sort F)) (envS 72 (conOf TT s_conciergeref04_Signs (M_conciergeref04_Signs F)) envN))
noncomputable def M_conciergeref04_Right_l0 (F : Nat) (v2 : (List Int × Int × Unit)) : Option ((List Int × Int × Unit) ⊕ (Unit ⊕ Bool × Unit)) :=
  if decide (v2.2.1 < (↑v2.1.length : Int)) = true then
                (idx v2.1 v2.2.1).bind fun v3 =>
                  (M_conciergeref04_Sort F v3).bind fun v4 =>
                    if decide (v4 = 0) = true then some (Sum.inr (Sum.inr (false, ()))) else some (Sum.inl (v2.1, IntKind.i64.wrap (v2.2.1 + 1), ()))
              else some (Sum.inr (Sum.inl ()))
noncomputable def M_conciergeref04_Right (F : Nat) (x : (List UInt8) × (Int)) : Option (Bool) :=
  (if decide ((↑x.1.length : Int) < 1) = false then some (x.1, decide (x.2 < (↑x.1.length : Int)), ()) else some (x.1, true, ())).bind fun v0 =>
    if v0.2.1 = true then some false
    else
      (M_conciergeref04_Signs F v0.1).bind fun v1 =>
        (loopM (M_conciergeref04_Right_l0 F)
              F (v1.1, 0, ())).bind
          fun v5 => sumC v5 (fun v6 => some true) fun v7 => some v7.1
theorem t_conciergeref04_Right (x : (List UInt8) × (Int)) (F : Nat) : fnRun TT Tryd.prog (e_conciergeref04_Right F) s_conciergeref04_Right (bodyOf 77) F x = M_conciergeref04_Right F x := by kernel_rfl
theorem c_conciergeref04_Right (F : Nat) : Ctr TT Tryd.prog 77 (conOf TT s_conciergeref04_Right (M_conciergeref04_Right F)) :=
  ctr_of (code := bodyOf 77) Tryd.func77 (by kernel_rfl) (by kernel_rfl) (by kernel_rfl) (by kernel_rfl) (envS_ok (envS_ok envN_ok (c_conciergeref04_Signs F)) (c_conciergeref04_Sort F)) hm (by kernel_rfl) (fun x r h => ⟨F, (t_conciergeref04_Right x F).trans h⟩)
end Go.Vm
