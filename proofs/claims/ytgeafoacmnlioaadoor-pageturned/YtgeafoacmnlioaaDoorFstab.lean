/- Models of functions of the program, and that each keeps its contract: for all arguments of its shape. No condition. -/
import Derived.Test.YtgeafoacmnlioaaDoorKt
namespace Go.Vm
open Go.Proofs
set_option linter.unusedVariables false
noncomputable def s_cmp_isNaN_string : Spec Kd := { params := [(.a .str)], ret := (.one (.a .bool)), pins := [], pl := { nt := 6 }, rfrz := [], ts := [2] }
noncomputable def e_cmp_isNaN_string (F : Nat) : Env El := envN
noncomputable def M_cmp_isNaN_string (F : Nat) (x : (List UInt8)) : Option (Bool) :=
  some !decide (x = x)
theorem t_cmp_isNaN_string (x : (List UInt8)) (F : Nat) : fnRun TT Tryd.prog (e_cmp_isNaN_string F) s_cmp_isNaN_string (bodyOf 89) F x = M_cmp_isNaN_string F x := by kernel_rfl
theorem c_cmp_isNaN_string (F : Nat) : Ctr TT Tryd.prog 89 (conOf TT s_cmp_isNaN_string (M_cmp_isNaN_string F)) :=
  ctr_of (code := bodyOf 89) Tryd.func89 (by kernel_rfl) (by kernel_rfl) (by kernel_rfl) (by kernel_rfl) envN_ok hm (by kernel_rfl) (fun x r h => ⟨F, (t_cmp_isNaN_string x F).trans h⟩)
theorem mo_cmp_isNaN_string {F F' : Nat} (h : F ≤ F') : ∀ v, Le (M_cmp_isNaN_string F v) (M_cmp_isNaN_string F' v) := by
  intro v
  unfold M_cmp_isNaN_string
  with_reducible repeat (first | (intro v) | exact Le.refl _ | exact h | apply Le.bind | apply Le.ite | apply Le.loop | apply Le.sumC)
noncomputable def s_cmp_Compare_string : Spec Kd := { params := [(.a .str), (.a .str)], ret := (.one (.a (.int .i64))), pins := [], pl := { nt := 20 }, rfrz := [], ts := [4] }
noncomputable def e_cmp_Compare_string (F : Nat) : Env El := (envS 89 (conOf TT s_cmp_isNaN_string (M_cmp_isNaN_string F)) envN)
noncomputable def M_cmp_Compare_string (F : Nat) (x : (List UInt8) × (List UInt8)) : Option (Int) :=
  (M_cmp_isNaN_string F x.1).bind fun v0 =>
    (M_cmp_isNaN_string F x.2).bind fun v1 =>
      if v0 = true then if v1 = true then some 0 else some (-1)
      else
        if v1 = true then some 1
        else if Op.bytesLess x.1 x.2 = true then some (-1) else if (!(Op.bytesLess x.1 x.2 || decide (x.1 = x.2))) = true then some 1 else some 0
theorem t_cmp_Compare_string (x : (List UInt8) × (List UInt8)) (F : Nat) : fnRun TT Tryd.prog (e_cmp_Compare_string F) s_cmp_Compare_string (bodyOf 58) F x = M_cmp_Compare_string F x := by kernel_rfl
theorem c_cmp_Compare_string (F : Nat) : Ctr TT Tryd.prog 58 (conOf TT s_cmp_Compare_string (M_cmp_Compare_string F)) :=
  ctr_of (code := bodyOf 58) Tryd.func58 (by kernel_rfl) (by kernel_rfl) (by kernel_rfl) (by kernel_rfl) (envS_ok envN_ok (c_cmp_isNaN_string F)) hm (by kernel_rfl) (fun x r h => ⟨F, (t_cmp_Compare_string x F).trans h⟩)
theorem mo_cmp_Compare_string {F F' : Nat} (h : F ≤ F') : ∀ v, Le (M_cmp_Compare_string F v) (M_cmp_Compare_string F' v) := by
  intro v
  unfold M_cmp_Compare_string
  with_reducible repeat (first | (intro v) | exact Le.refl _ | exact h | exact mo_cmp_isNaN_string h _ | apply Le.bind | apply Le.ite | apply Le.loop | apply Le.sumC)
noncomputable def s_page_Page_1 : Spec Kd := { params := [(.agg [(.int .i64), .str, (.int .i64), (.int .i64), (.int .i64), (.int .i64), .str, (.int .i64), (.int .i64), (.int .i64), .str, .str, .str, .str]), (.agg [(.int .i64), .str, (.int .i64), (.int .i64), (.int .i64), (.int .i64), .str, (.int .i64), (.int .i64), (.int .i64), .str, .str, .str, .str])], ret := (.one (.a (.int .i64))), pins := [], pl := { nt := 10 }, rfrz := [], ts := [4] }
noncomputable def e_page_Page_1 (F : Nat) : Env El := (envS 58 (conOf TT s_cmp_Compare_string (M_cmp_Compare_string F)) envN)
noncomputable def M_page_Page_1 (F : Nat) (x : ((Int) × (List UInt8) × (Int) × (Int) × (Int) × (Int) × (List UInt8) × (Int) × (Int) × (Int) × (List UInt8) × (List UInt8) × (List UInt8) × (List UInt8) × Unit) × ((Int) × (List UInt8) × (Int) × (Int) × (Int) × (Int) × (List UInt8) × (Int) × (Int) × (Int) × (List UInt8) × (List UInt8) × (List UInt8) × (List UInt8) × Unit)) : Option (Int) :=
  (M_cmp_Compare_string F (x.1.2.1, x.2.2.1)).bind fun v0 => some v0
theorem t_page_Page_1 (x : ((Int) × (List UInt8) × (Int) × (Int) × (Int) × (Int) × (List UInt8) × (Int) × (Int) × (Int) × (List UInt8) × (List UInt8) × (List UInt8) × (List UInt8) × Unit) × ((Int) × (List UInt8) × (Int) × (Int) × (Int) × (Int) × (List UInt8) × (Int) × (Int) × (Int) × (List UInt8) × (List UInt8) × (List UInt8) × (List UInt8) × Unit)) (F : Nat) : fnRun TT Tryd.prog (e_page_Page_1 F) s_page_Page_1 (bodyOf 57) F x = M_page_Page_1 F x := by kernel_rfl
theorem c_page_Page_1 (F : Nat) : Ctr TT Tryd.prog 57 (conOf TT s_page_Page_1 (M_page_Page_1 F)) :=
  ctr_of (code := bodyOf 57) Tryd.func57 (by kernel_rfl) (by kernel_rfl) (by kernel_rfl) (by kernel_rfl) (envS_ok envN_ok (c_cmp_Compare_string F)) hm (by kernel_rfl) (fun x r h => ⟨F, (t_page_Page_1 x F).trans h⟩)
theorem mo_page_Page_1 {F F' : Nat} (h : F ≤ F') : ∀ v, Le (M_page_Page_1 F v) (M_page_Page_1 F' v) := by
  intro v
  unfold M_page_Page_1
  with_reducible repeat (first | (intro v) | exact Le.refl _ | exact h | exact mo_cmp_Compare_string h _ | apply Le.bind | apply Le.ite | apply Le.loop | apply Le.sumC)
noncomputable def s_page_Page_2 : Spec Kd := { params := [(.agg [(.int .i64), .str, (.int .i64), (.int .i64), (.int .i64), (.int .i64), .str, (.int .i64), (.int .i64), (.int .i64), .str, .str, .str, .str]), (.agg [(.int .i64), .str, (.int .i64), (.int .i64), (.int .i64), (.int .i64), .str, (.int .i64), (.int .i64), (.int .i64), .str, .str, .str, .str])], ret := (.one (.a .bool)), pins := [], pl := { nt := 10 }, rfrz := [], ts := [4] }
noncomputable def e_page_Page_2 (F : Nat) : Env El := envN
noncomputable def M_page_Page_2 (F : Nat) (x : ((Int) × (List UInt8) × (Int) × (Int) × (Int) × (Int) × (List UInt8) × (Int) × (Int) × (Int) × (List UInt8) × (List UInt8) × (List UInt8) × (List UInt8) × Unit) × ((Int) × (List UInt8) × (Int) × (Int) × (Int) × (Int) × (List UInt8) × (Int) × (Int) × (Int) × (List UInt8) × (List UInt8) × (List UInt8) × (List UInt8) × Unit)) : Option (Bool) :=
  some (decide (x.1.2.1 = x.2.2.1))
theorem t_page_Page_2 (x : ((Int) × (List UInt8) × (Int) × (Int) × (Int) × (Int) × (List UInt8) × (Int) × (Int) × (Int) × (List UInt8) × (List UInt8) × (List UInt8) × (List UInt8) × Unit) × ((Int) × (List UInt8) × (Int) × (Int) × (Int) × (Int) × (List UInt8) × (Int) × (Int) × (Int) × (List UInt8) × (List UInt8) × (List UInt8) × (List UInt8) × Unit)) (F : Nat) : fnRun TT Tryd.prog (e_page_Page_2 F) s_page_Page_2 (bodyOf 60) F x = M_page_Page_2 F x := by kernel_rfl
theorem c_page_Page_2 (F : Nat) : Ctr TT Tryd.prog 60 (conOf TT s_page_Page_2 (M_page_Page_2 F)) :=
  ctr_of (code := bodyOf 60) Tryd.func60 (by kernel_rfl) (by kernel_rfl) (by kernel_rfl) (by kernel_rfl) envN_ok hm (by kernel_rfl) (fun x r h => ⟨F, (t_page_Page_2 x F).trans h⟩)
theorem mo_page_Page_2 {F F' : Nat} (h : F ≤ F') : ∀ v, Le (M_page_Page_2 F v) (M_page_Page_2 F' v) := by
  intro v
  unfold M_page_Page_2
  with_reducible repeat (first | (intro v) | exact Le.refl _ | exact h | apply Le.bind | apply Le.ite | apply Le.loop | apply Le.sumC)
noncomputable def s_slices_insertionSortCmpFunc_api_Entry : Spec Kd := { params := [(.newb 60 [(.row 60 .en)]), (.a (.int .i64)), (.a (.int .i64)), (.a (.fn 57))], ret := (.tup []), pins := [[(.row 60 .en)]], pl := { nt := 53, loops := [(2, ⟨[.tmp 0 (.a (.rowp 1)), .tmp 1 (.a (.int .i64)), .tmp 2 (.a (.int .i64)), .tmp 3 (.a (.fn 57)), .tmp 8 (.a (.int .i64)), .tmp 9 (.a (.int .i64)), .box 1 (.row 60 .en)], [], [.tmpRow 0 1 60 .en]⟩, (.exit 2, ⟨[.tmp 0 (.a (.rowp 1)), .tmp 1 (.a (.int .i64)), .tmp 2 (.a (.int .i64)), .tmp 3 (.a (.fn 57)), .tmp 8 (.a (.int .i64)), .box 1 (.row 60 .en)], [], [.tmpRow 0 1 60 .en]⟩), []), (0, ⟨[.tmp 0 (.a (.rowp 1)), .tmp 1 (.a (.int .i64)), .tmp 2 (.a (.int .i64)), .tmp 3 (.a (.fn 57)), .tmp 8 (.a (.int .i64)), .box 1 (.row 60 .en)], [], [.tmpRow 0 1 60 .en]⟩, (.exit 0, ⟨[.tmp 0 (.a (.rowp 1)), .box 1 (.row 60 .en)], [], [.tmpRow 0 1 60 .en]⟩), [])], ends := [(4, ⟨[.tmp 0 (.a (.rowp 1)), .tmp 1 (.a (.int .i64)), .tmp 2 (.a (.int .i64)), .tmp 3 (.a (.fn 57)), .tmp 8 (.a (.int .i64)), .tmp 9 (.a (.int .i64)), .tmp 34 (.a .bool), .box 1 (.row 60 .en)], [], [.tmpRow 0 1 60 .en]⟩)] }, rfrz := [], ts := [] }
noncomputable def e_slices_insertionSortCmpFunc_api_Entry (F : Nat) : Env El := (envS 57 (conOf TT s_page_Page_1 (M_page_Page_1 F)) envN)
noncomputable def M_slices_insertionSortCmpFunc_api_Entry_l0 (F : Nat) (v1 : (Unit ×
                  Int ×
                    Int ×
                      Unit ×
                        Int ×
                          Int ×
                            List
                                (Int ×
                                  List UInt8 ×
                                    Int × Int × Int × Int × List UInt8 × Int × Int × Int × List UInt8 × List UInt8 × List UInt8 × List UInt8 × Unit) ×
                              Unit)) : Option ((Unit ×
                  Int ×
                    Int ×
                      Unit ×
                        Int ×
                          Int ×
                            List
                                (Int ×
                                  List UInt8 ×
                                    Int × Int × Int × Int × List UInt8 × Int × Int × Int × List UInt8 × List UInt8 × List UInt8 × List UInt8 × Unit) ×
                              Unit) ⊕ (Unit ×
                  Int ×
                    Int ×
                      Unit ×
                        Int ×
                          List
                              (Int ×
                                List UInt8 × Int × Int × Int × Int × List UInt8 × Int × Int × Int × List UInt8 × List UInt8 × List UInt8 × List UInt8 × Unit) ×
                            Unit)) :=
  (if decide (v1.2.1 < v1.2.2.2.2.2.1) = true then
                        (idx v1.2.2.2.2.2.2.1 v1.2.2.2.2.2.1).bind
                          fun
                            (v2 :
                              Int ×
                                List UInt8 ×
                                  Int × Int × Int × Int × List UInt8 × Int × Int × Int × List UInt8 × List UInt8 × List UInt8 × List UInt8 × Unit) =>
                          (idx v1.2.2.2.2.2.2.1 (IntKind.i64.wrap (v1.2.2.2.2.2.1 - 1))).bind
                            fun
                              (v3 :
                                Int ×
                                  List UInt8 ×
                                    Int × Int × Int × Int × List UInt8 × Int × Int × Int × List UInt8 × List UInt8 × List UInt8 × List UInt8 × Unit) =>
                            (M_page_Page_1 F (v2, v3)).bind fun (v4 : Int) =>
                              some ((), v1.2.1, v1.2.2.1, (), v1.2.2.2.2.1, v1.2.2.2.2.2.1, decide (v4 < 0), v1.2.2.2.2.2.2.1, ())
                      else some ((), v1.2.1, v1.2.2.1, (), v1.2.2.2.2.1, v1.2.2.2.2.2.1, false, v1.2.2.2.2.2.2.1, ())).bind
                    fun
                      (v5 :
                        Unit ×
                          Int ×
                            Int ×
                              Unit ×
                                Int ×
                                  Int ×
                                    Bool ×
                                      List
                                          (Int ×
                                            List UInt8 ×
                                              Int ×
                                                Int × Int × Int × List UInt8 × Int × Int × Int × List UInt8 × List UInt8 × List UInt8 × List UInt8 × Unit) ×
                                        Unit) =>
                    if v5.2.2.2.2.2.2.1 = true then
                      (idx v5.2.2.2.2.2.2.2.1 (IntKind.i64.wrap (v5.2.2.2.2.2.1 - 1))).bind
                        fun
                          (v6 :
                            Int ×
                              List UInt8 × Int × Int × Int × Int × List UInt8 × Int × Int × Int × List UInt8 × List UInt8 × List UInt8 × List UInt8 × Unit) =>
                        (idx v5.2.2.2.2.2.2.2.1 v5.2.2.2.2.2.1).bind
                          fun
                            (v7 :
                              Int ×
                                List UInt8 ×
                                  Int × Int × Int × Int × List UInt8 × Int × Int × Int × List UInt8 × List UInt8 × List UInt8 × List UInt8 × Unit) =>
                          (idx v5.2.2.2.2.2.2.2.1 v5.2.2.2.2.2.1).bind
                            fun
                              (v8 :
                                Int ×
                                  List UInt8 ×
                                    Int × Int × Int × Int × List UInt8 × Int × Int × Int × List UInt8 × List UInt8 × List UInt8 × List UInt8 × Unit) =>
                            ((idx v5.2.2.2.2.2.2.2.1 (↑v5.2.2.2.2.2.1.toNat : Int)).bind
                                  fun
                                    (v9 :
                                      Int ×
                                        List UInt8 ×
                                          Int × Int × Int × Int × List UInt8 × Int × Int × Int × List UInt8 × List UInt8 × List UInt8 × List UInt8 × Unit) =>
                                  some v6).bind
                              fun
                                (v10 :
                                  Int ×
                                    List UInt8 ×
                                      Int × Int × Int × Int × List UInt8 × Int × Int × Int × List UInt8 × List UInt8 × List UInt8 × List UInt8 × Unit) =>
                              (idx (lset v5.2.2.2.2.2.2.2.1 v5.2.2.2.2.2.1.toNat v10) (IntKind.i64.wrap (v5.2.2.2.2.2.1 - 1))).bind
                                fun
                                  (v11 :
                                    Int ×
                                      List UInt8 ×
                                        Int × Int × Int × Int × List UInt8 × Int × Int × Int × List UInt8 × List UInt8 × List UInt8 × List UInt8 × Unit) =>
                                ((idx (lset v5.2.2.2.2.2.2.2.1 v5.2.2.2.2.2.1.toNat v10) (↑(IntKind.i64.wrap (v5.2.2.2.2.2.1 - 1)).toNat : Int)).bind
                                      fun
                                        (v12 :
                                          Int ×
                                            List UInt8 ×
                                              Int ×
                                                Int × Int × Int × List UInt8 × Int × Int × Int × List UInt8 × List UInt8 × List UInt8 × List UInt8 × Unit) =>
                                      some v7).bind
                                  fun
                                    (v13 :
                                      Int ×
                                        List UInt8 ×
                                          Int × Int × Int × Int × List UInt8 × Int × Int × Int × List UInt8 × List UInt8 × List UInt8 × List UInt8 × Unit) =>
                                  some
                                    (Sum.inl
                                      ((), v5.2.1, v5.2.2.1, (), v5.2.2.2.2.1, IntKind.i64.wrap (v5.2.2.2.2.2.1 - 1),
                                        lset (lset v5.2.2.2.2.2.2.2.1 v5.2.2.2.2.2.1.toNat v10) (IntKind.i64.wrap (v5.2.2.2.2.2.1 - 1)).toNat v13, ()))
                    else some (Sum.inr ((), v5.2.1, v5.2.2.1, (), v5.2.2.2.2.1, v5.2.2.2.2.2.2.2.1, ()))
noncomputable def M_slices_insertionSortCmpFunc_api_Entry_l1 (F : Nat) (v0 : (Unit ×
        Int ×
          Int ×
            Unit ×
              Int ×
                List (Int × List UInt8 × Int × Int × Int × Int × List UInt8 × Int × Int × Int × List UInt8 × List UInt8 × List UInt8 × List UInt8 × Unit) ×
                  Unit)) : Option ((Unit ×
        Int ×
          Int ×
            Unit ×
              Int ×
                List (Int × List UInt8 × Int × Int × Int × Int × List UInt8 × Int × Int × Int × List UInt8 × List UInt8 × List UInt8 × List UInt8 × Unit) ×
                  Unit) ⊕ (Unit ×
        List (Int × List UInt8 × Int × Int × Int × Int × List UInt8 × Int × Int × Int × List UInt8 × List UInt8 × List UInt8 × List UInt8 × Unit) × Unit)) :=
  if decide (v0.2.2.2.2.1 < v0.2.2.1) = true then
          (loopM (M_slices_insertionSortCmpFunc_api_Entry_l0 F)
                F ((), v0.2.1, v0.2.2.1, (), v0.2.2.2.2.1, v0.2.2.2.2.1, v0.2.2.2.2.2.1, ())).bind
            fun
              (v14 :
                Unit ×
                  Int ×
                    Int ×
                      Unit ×
                        Int ×
                          List
                              (Int ×
                                List UInt8 × Int × Int × Int × Int × List UInt8 × Int × Int × Int × List UInt8 × List UInt8 × List UInt8 × List UInt8 × Unit) ×
                            Unit) =>
            some (Sum.inl ((), v14.2.1, v14.2.2.1, (), IntKind.i64.wrap (v14.2.2.2.2.1 + 1), v14.2.2.2.2.2.1, ()))
        else some (Sum.inr ((), v0.2.2.2.2.2.1, ()))
noncomputable def M_slices_insertionSortCmpFunc_api_Entry (F : Nat) (x : ((List (El .en)) × Unit) × (Int) × (Int) × (Unit)) : Option ((Unit) × ((List (El .en)) × Unit)) :=
  (loopM (M_slices_insertionSortCmpFunc_api_Entry_l1 F)
        F ((), x.2.1, x.2.2.1, (), IntKind.i64.wrap (x.2.1 + 1), x.1.1, ())).bind
    fun
      (v15 :
        Unit ×
          List (Int × List UInt8 × Int × Int × Int × Int × List UInt8 × Int × Int × Int × List UInt8 × List UInt8 × List UInt8 × List UInt8 × Unit) × Unit) =>
    some ((), v15.2.1, ())
theorem t_slices_insertionSortCmpFunc_api_Entry (x : ((List (El .en)) × Unit) × (Int) × (Int) × (Unit)) (F : Nat) : fnRun TT Tryd.prog (e_slices_insertionSortCmpFunc_api_Entry F) s_slices_insertionSortCmpFunc_api_Entry (bodyOf 113) F x = M_slices_insertionSortCmpFunc_api_Entry F x := by kernel_rfl
theorem c_slices_insertionSortCmpFunc_api_Entry (F : Nat) : Ctr TT Tryd.prog 113 (conOf TT s_slices_insertionSortCmpFunc_api_Entry (M_slices_insertionSortCmpFunc_api_Entry F)) :=
  ctr_of (code := bodyOf 113) Tryd.func113 (by kernel_rfl) (by kernel_rfl) (by kernel_rfl) (by kernel_rfl) (envS_ok envN_ok (c_page_Page_1 F)) hm (by kernel_rfl) (fun x r h => ⟨F, (t_slices_insertionSortCmpFunc_api_Entry x F).trans h⟩)
theorem mo_slices_insertionSortCmpFunc_api_Entry_l0 {F F' : Nat} (h : F ≤ F') : ∀ v, Le (M_slices_insertionSortCmpFunc_api_Entry_l0 F v) (M_slices_insertionSortCmpFunc_api_Entry_l0 F' v) := by
  intro v
  unfold M_slices_insertionSortCmpFunc_api_Entry_l0
  with_reducible repeat (first | (intro v) | exact Le.refl _ | exact h | exact mo_page_Page_1 h _ | apply Le.bind | apply Le.ite | apply Le.loop | apply Le.sumC)
theorem mo_slices_insertionSortCmpFunc_api_Entry_l1 {F F' : Nat} (h : F ≤ F') : ∀ v, Le (M_slices_insertionSortCmpFunc_api_Entry_l1 F v) (M_slices_insertionSortCmpFunc_api_Entry_l1 F' v) := by
  intro v
  unfold M_slices_insertionSortCmpFunc_api_Entry_l1
  with_reducible repeat (first | (intro v) | exact Le.refl _ | exact h | exact mo_page_Page_1 h _ | exact mo_slices_insertionSortCmpFunc_api_Entry_l0 h | exact mo_slices_insertionSortCmpFunc_api_Entry_l0 h _ | apply Le.bind | apply Le.ite | apply Le.loop | apply Le.sumC)
theorem mo_slices_insertionSortCmpFunc_api_Entry {F F' : Nat} (h : F ≤ F') : ∀ v, Le (M_slices_insertionSortCmpFunc_api_Entry F v) (M_slices_insertionSortCmpFunc_api_Entry F' v) := by
  intro v
  unfold M_slices_insertionSortCmpFunc_api_Entry
  with_reducible repeat (first | (intro v) | exact Le.refl _ | exact h | exact mo_page_Page_1 h _ | exact mo_slices_insertionSortCmpFunc_api_Entry_l0 h | exact mo_slices_insertionSortCmpFunc_api_Entry_l0 h _ | exact mo_slices_insertionSortCmpFunc_api_Entry_l1 h | exact mo_slices_insertionSortCmpFunc_api_Entry_l1 h _ | apply Le.bind | apply Le.ite | apply Le.loop | apply Le.sumC)
noncomputable def s_slices_symMergeCmpFunc_api_Entry : Spec Kd := { params := [(.newb 60 [(.row 60 .en)]), (.a (.int .i64)), (.a (.int .i64)), (.a (.int .i64)), (.a (.fn 57))], ret := (.one (.a .junk)), pins := [[(.row 60 .en)]], pl := { nt := 0 }, ts := [] }
noncomputable def M_slices_symMergeCmpFunc_api_Entry (F : Nat) (x : ((List (El .en)) × Unit) × (Int) × (Int) × (Int) × (Unit)) : Option ((Unit) × ((List (El .en)) × Unit)) := none
theorem c_slices_symMergeCmpFunc_api_Entry (F : Nat) : Ctr TT Tryd.prog 114 (conOf TT s_slices_symMergeCmpFunc_api_Entry (M_slices_symMergeCmpFunc_api_Entry F)) := ctr_none _ _ _ _ (fun _ => rfl)
theorem mo_slices_symMergeCmpFunc_api_Entry {F F' : Nat} (h : F ≤ F') : ∀ v, Le (M_slices_symMergeCmpFunc_api_Entry F v) (M_slices_symMergeCmpFunc_api_Entry F' v) := fun _ => Le.refl _
noncomputable def s_slices_stableCmpFunc_api_Entry : Spec Kd := { params := [(.newb 60 [(.row 60 .en)]), (.a (.int .i64)), (.a (.fn 57))], ret := (.tup []), pins := [[(.row 60 .en)]], pl := { nt := 63, orc := { rv := [], gv := [], ln := [14, 23, 36, 55] }, joins := [(1600054, (.norm, ⟨[.tmp 0 (.a (.rowp 1)), .tmp 1 (.a (.int .i64)), .tmp 2 (.a (.fn 57)), .tmp 6 (.a (.int .i64)), .box 1 (.row 60 .en)], [], [.tmpRow 0 1 60 .en]⟩), [])], loops := [(4, ⟨[.tmp 0 (.a (.rowp 1)), .tmp 1 (.a (.int .i64)), .tmp 2 (.a (.fn 57)), .tmp 6 (.a (.int .i64)), .tmp 7 (.a (.int .i64)), .tmp 8 (.a (.int .i64)), .box 1 (.row 60 .en)], [], [.tmpRow 0 1 60 .en]⟩, (.exit 4, ⟨[.tmp 0 (.a (.rowp 1)), .tmp 1 (.a (.int .i64)), .tmp 2 (.a (.fn 57)), .tmp 6 (.a (.int .i64)), .tmp 7 (.a (.int .i64)), .box 1 (.row 60 .en)], [], [.tmpRow 0 1 60 .en]⟩), []), (2, ⟨[.tmp 0 (.a (.rowp 1)), .tmp 1 (.a (.int .i64)), .tmp 2 (.a (.fn 57)), .tmp 6 (.a (.int .i64)), .box 1 (.row 60 .en)], [], [.tmpRow 0 1 60 .en]⟩, (.exit 2, ⟨[.tmp 0 (.a (.rowp 1)), .box 1 (.row 60 .en)], [], [.tmpRow 0 1 60 .en]⟩), []), (0, ⟨[.tmp 0 (.a (.rowp 1)), .tmp 1 (.a (.int .i64)), .tmp 2 (.a (.fn 57)), .tmp 6 (.a (.int .i64)), .tmp 7 (.a (.int .i64)), .tmp 8 (.a (.int .i64)), .box 1 (.row 60 .en)], [], [.tmpRow 0 1 60 .en]⟩, (.exit 0, ⟨[.tmp 0 (.a (.rowp 1)), .tmp 1 (.a (.int .i64)), .tmp 2 (.a (.fn 57)), .tmp 6 (.a (.int .i64)), .tmp 7 (.a (.int .i64)), .box 1 (.row 60 .en)], [], [.tmpRow 0 1 60 .en]⟩), [])] }, rfrz := [], ts := [] }
noncomputable def e_slices_stableCmpFunc_api_Entry (F : Nat) : Env El := (envS 57 (conOf TT s_page_Page_1 (M_page_Page_1 F)) (envS 114 (conOf TT s_slices_symMergeCmpFunc_api_Entry (M_slices_symMergeCmpFunc_api_Entry F)) (envS 113 (conOf TT s_slices_insertionSortCmpFunc_api_Entry (M_slices_insertionSortCmpFunc_api_Entry F)) envN)))
noncomputable def M_slices_stableCmpFunc_api_Entry_l0 (F : Nat) (v0 : (Unit ×
        Int ×
          Unit ×
            Int ×
              Int ×
                Int ×
                  List (Int × List UInt8 × Int × Int × Int × Int × List UInt8 × Int × Int × Int × List UInt8 × List UInt8 × List UInt8 × List UInt8 × Unit) ×
                    Unit)) : Option ((Unit ×
        Int ×
          Unit ×
            Int ×
              Int ×
                Int ×
                  List (Int × List UInt8 × Int × Int × Int × Int × List UInt8 × Int × Int × Int × List UInt8 × List UInt8 × List UInt8 × List UInt8 × Unit) ×
                    Unit) ⊕ (Unit ×
        Int ×
          Unit ×
            Int ×
              Int ×
                List (Int × List UInt8 × Int × Int × Int × Int × List UInt8 × Int × Int × Int × List UInt8 × List UInt8 × List UInt8 × List UInt8 × Unit) ×
                  Unit)) :=
  if decide (v0.2.2.2.2.2.1 ≤ v0.2.1) = true then
          (M_slices_insertionSortCmpFunc_api_Entry F ((v0.2.2.2.2.2.2.1, ()), v0.2.2.2.2.1, v0.2.2.2.2.2.1, ())).bind
            fun
              (v1 :
                Unit ×
                  List (Int × List UInt8 × Int × Int × Int × Int × List UInt8 × Int × Int × Int × List UInt8 × List UInt8 × List UInt8 × List UInt8 × Unit) ×
                    Unit) =>
            some (Sum.inl ((), v0.2.1, (), v0.2.2.2.1, v0.2.2.2.2.2.1, IntKind.i64.wrap (v0.2.2.2.2.2.1 + v0.2.2.2.1), v1.2.1, ()))
        else some (Sum.inr ((), v0.2.1, (), v0.2.2.2.1, v0.2.2.2.2.1, v0.2.2.2.2.2.2.1, ()))
noncomputable def M_slices_stableCmpFunc_api_Entry_l1 (F : Nat) (v5 : (Unit ×
                      Int ×
                        Unit ×
                          Int ×
                            Int ×
                              Int ×
                                List
                                    (Int ×
                                      List UInt8 ×
                                        Int × Int × Int × Int × List UInt8 × Int × Int × Int × List UInt8 × List UInt8 × List UInt8 × List UInt8 × Unit) ×
                                  Unit)) : Option ((Unit ×
                      Int ×
                        Unit ×
                          Int ×
                            Int ×
                              Int ×
                                List
                                    (Int ×
                                      List UInt8 ×
                                        Int × Int × Int × Int × List UInt8 × Int × Int × Int × List UInt8 × List UInt8 × List UInt8 × List UInt8 × Unit) ×
                                  Unit) ⊕ (Unit ×
                      Int ×
                        Unit ×
                          Int ×
                            Int ×
                              List
                                  (Int ×
                                    List UInt8 ×
                                      Int × Int × Int × Int × List UInt8 × Int × Int × Int × List UInt8 × List UInt8 × List UInt8 × List UInt8 × Unit) ×
                                Unit)) :=
  if decide (v5.2.2.2.2.2.1 ≤ v5.2.1) = true then
                        (M_slices_symMergeCmpFunc_api_Entry F
                              ((v5.2.2.2.2.2.2.1, ()), v5.2.2.2.2.1, IntKind.i64.wrap (v5.2.2.2.2.1 + v5.2.2.2.1), v5.2.2.2.2.2.1, ())).bind
                          fun
                            (v6 :
                              Unit ×
                                List
                                    (Int ×
                                      List UInt8 ×
                                        Int × Int × Int × Int × List UInt8 × Int × Int × Int × List UInt8 × List UInt8 × List UInt8 × List UInt8 × Unit) ×
                                  Unit) =>
                          some
                            (Sum.inl
                              ((), v5.2.1, (), v5.2.2.2.1, v5.2.2.2.2.2.1, IntKind.i64.wrap (v5.2.2.2.2.2.1 + IntKind.i64.wrap (2 * v5.2.2.2.1)), v6.2.1, ()))
                      else some (Sum.inr ((), v5.2.1, (), v5.2.2.2.1, v5.2.2.2.2.1, v5.2.2.2.2.2.2.1, ()))
noncomputable def M_slices_stableCmpFunc_api_Entry_l2 (F : Nat) (v4 : (Unit ×
            Int ×
              Unit ×
                Int ×
                  List (Int × List UInt8 × Int × Int × Int × Int × List UInt8 × Int × Int × Int × List UInt8 × List UInt8 × List UInt8 × List UInt8 × Unit) ×
                    Unit)) : Option ((Unit ×
            Int ×
              Unit ×
                Int ×
                  List (Int × List UInt8 × Int × Int × Int × Int × List UInt8 × Int × Int × Int × List UInt8 × List UInt8 × List UInt8 × List UInt8 × Unit) ×
                    Unit) ⊕ (Unit ×
            List (Int × List UInt8 × Int × Int × Int × Int × List UInt8 × Int × Int × Int × List UInt8 × List UInt8 × List UInt8 × List UInt8 × Unit) × Unit)) :=
  if decide (v4.2.2.2.1 < v4.2.1) = true then
              (loopM (M_slices_stableCmpFunc_api_Entry_l1 F)
                    F ((), v4.2.1, (), v4.2.2.2.1, 0, IntKind.i64.wrap (2 * v4.2.2.2.1), v4.2.2.2.2.1, ())).bind
                fun
                  (v7 :
                    Unit ×
                      Int ×
                        Unit ×
                          Int ×
                            Int ×
                              List
                                  (Int ×
                                    List UInt8 ×
                                      Int × Int × Int × Int × List UInt8 × Int × Int × Int × List UInt8 × List UInt8 × List UInt8 × List UInt8 × Unit) ×
                                Unit) =>
                (if decide (IntKind.i64.wrap (v7.2.2.2.2.1 + v7.2.2.2.1) < v7.2.1) = true then
                      (M_slices_symMergeCmpFunc_api_Entry F ((v7.2.2.2.2.2.1, ()), v7.2.2.2.2.1, IntKind.i64.wrap (v7.2.2.2.2.1 + v7.2.2.2.1), v7.2.1, ())).bind
                        fun
                          (v8 :
                            Unit ×
                              List
                                  (Int ×
                                    List UInt8 ×
                                      Int × Int × Int × Int × List UInt8 × Int × Int × Int × List UInt8 × List UInt8 × List UInt8 × List UInt8 × Unit) ×
                                Unit) =>
                        some ((), v7.2.1, (), v7.2.2.2.1, v8.2.1, ())
                    else some ((), v7.2.1, (), v7.2.2.2.1, v7.2.2.2.2.2.1, ())).bind
                  fun
                    (v9 :
                      Unit ×
                        Int ×
                          Unit ×
                            Int ×
                              List
                                  (Int ×
                                    List UInt8 ×
                                      Int × Int × Int × Int × List UInt8 × Int × Int × Int × List UInt8 × List UInt8 × List UInt8 × List UInt8 × Unit) ×
                                Unit) =>
                  some (Sum.inl ((), v9.2.1, (), IntKind.i64.wrap (v9.2.2.2.1 * 2), v9.2.2.2.2.1, ()))
            else some (Sum.inr ((), v4.2.2.2.2.1, ()))
noncomputable def M_slices_stableCmpFunc_api_Entry (F : Nat) (x : ((List (El .en)) × Unit) × (Int) × (Unit)) : Option ((Unit) × ((List (El .en)) × Unit)) :=
  (loopM (M_slices_stableCmpFunc_api_Entry_l0 F)
        F ((), x.2.1, (), 20, 0, 20, x.1.1, ())).bind
    fun
      (v2 :
        Unit ×
          Int ×
            Unit ×
              Int ×
                Int ×
                  List (Int × List UInt8 × Int × Int × Int × Int × List UInt8 × Int × Int × Int × List UInt8 × List UInt8 × List UInt8 × List UInt8 × Unit) ×
                    Unit) =>
    (M_slices_insertionSortCmpFunc_api_Entry F ((v2.2.2.2.2.2.1, ()), v2.2.2.2.2.1, v2.2.1, ())).bind
      fun
        (v3 :
          Unit ×
            List (Int × List UInt8 × Int × Int × Int × Int × List UInt8 × Int × Int × Int × List UInt8 × List UInt8 × List UInt8 × List UInt8 × Unit) × Unit) =>
      (loopM (M_slices_stableCmpFunc_api_Entry_l2 F)
            F ((), v2.2.1, (), v2.2.2.2.1, v3.2.1, ())).bind
        fun
          (v10 :
            Unit ×
              List (Int × List UInt8 × Int × Int × Int × Int × List UInt8 × Int × Int × Int × List UInt8 × List UInt8 × List UInt8 × List UInt8 × Unit) ×
                Unit) =>
        some ((), v10.2.1, ())
theorem t_slices_stableCmpFunc_api_Entry (x : ((List (El .en)) × Unit) × (Int) × (Unit)) (F : Nat) : fnRun TT Tryd.prog (e_slices_stableCmpFunc_api_Entry F) s_slices_stableCmpFunc_api_Entry (bodyOf 88) F x = M_slices_stableCmpFunc_api_Entry F x := by kernel_rfl
theorem c_slices_stableCmpFunc_api_Entry (F : Nat) : Ctr TT Tryd.prog 88 (conOf TT s_slices_stableCmpFunc_api_Entry (M_slices_stableCmpFunc_api_Entry F)) :=
  ctr_of (code := bodyOf 88) Tryd.func88 (by kernel_rfl) (by kernel_rfl) (by kernel_rfl) (by kernel_rfl) (envS_ok (envS_ok (envS_ok envN_ok (c_slices_insertionSortCmpFunc_api_Entry F)) (c_slices_symMergeCmpFunc_api_Entry F)) (c_page_Page_1 F)) hm (by kernel_rfl) (fun x r h => ⟨F, (t_slices_stableCmpFunc_api_Entry x F).trans h⟩)
theorem mo_slices_stableCmpFunc_api_Entry_l0 {F F' : Nat} (h : F ≤ F') : ∀ v, Le (M_slices_stableCmpFunc_api_Entry_l0 F v) (M_slices_stableCmpFunc_api_Entry_l0 F' v) := by
  intro v
  unfold M_slices_stableCmpFunc_api_Entry_l0
  with_reducible repeat (first | (intro v) | exact Le.refl _ | exact h | exact mo_slices_insertionSortCmpFunc_api_Entry h _ | exact mo_slices_symMergeCmpFunc_api_Entry h _ | exact mo_page_Page_1 h _ | apply Le.bind | apply Le.ite | apply Le.loop | apply Le.sumC)
theorem mo_slices_stableCmpFunc_api_Entry_l1 {F F' : Nat} (h : F ≤ F') : ∀ v, Le (M_slices_stableCmpFunc_api_Entry_l1 F v) (M_slices_stableCmpFunc_api_Entry_l1 F' v) := by
  intro v
  unfold M_slices_stableCmpFunc_api_Entry_l1
  with_reducible repeat (first | (intro v) | exact Le.refl _ | exact h | exact mo_slices_insertionSortCmpFunc_api_Entry h _ | exact mo_slices_symMergeCmpFunc_api_Entry h _ | exact mo_page_Page_1 h _ | exact mo_slices_stableCmpFunc_api_Entry_l0 h | exact mo_slices_stableCmpFunc_api_Entry_l0 h _ | apply Le.bind | apply Le.ite | apply Le.loop | apply Le.sumC)
theorem mo_slices_stableCmpFunc_api_Entry_l2 {F F' : Nat} (h : F ≤ F') : ∀ v, Le (M_slices_stableCmpFunc_api_Entry_l2 F v) (M_slices_stableCmpFunc_api_Entry_l2 F' v) := by
  intro v
  unfold M_slices_stableCmpFunc_api_Entry_l2
  with_reducible repeat (first | (intro v) | exact Le.refl _ | exact h | exact mo_slices_insertionSortCmpFunc_api_Entry h _ | exact mo_slices_symMergeCmpFunc_api_Entry h _ | exact mo_page_Page_1 h _ | exact mo_slices_stableCmpFunc_api_Entry_l0 h | exact mo_slices_stableCmpFunc_api_Entry_l0 h _ | exact mo_slices_stableCmpFunc_api_Entry_l1 h | exact mo_slices_stableCmpFunc_api_Entry_l1 h _ | apply Le.bind | apply Le.ite | apply Le.loop | apply Le.sumC)
theorem mo_slices_stableCmpFunc_api_Entry {F F' : Nat} (h : F ≤ F') : ∀ v, Le (M_slices_stableCmpFunc_api_Entry F v) (M_slices_stableCmpFunc_api_Entry F' v) := by
  intro v
  unfold M_slices_stableCmpFunc_api_Entry
  with_reducible repeat (first | (intro v) | exact Le.refl _ | exact h | exact mo_slices_insertionSortCmpFunc_api_Entry h _ | exact mo_slices_symMergeCmpFunc_api_Entry h _ | exact mo_page_Page_1 h _ | exact mo_slices_stableCmpFunc_api_Entry_l0 h | exact mo_slices_stableCmpFunc_api_Entry_l0 h _ | exact mo_slices_stableCmpFunc_api_Entry_l1 h | exact mo_slices_stableCmpFunc_api_Entry_l1 h _ | exact mo_slices_stableCmpFunc_api_Entry_l2 h | exact mo_slices_stableCmpFunc_api_Entry_l2 h _ | apply Le.bind | apply Le.ite | apply Le.loop | apply Le.sumC)
noncomputable def s_slices_SortStableFunc_api_Entry_api_Entry : Spec Kd := { params := [(.newb 60 [(.row 60 .en)]), (.a (.fn 57))], ret := (.tup []), pins := [[(.row 60 .en)]], pl := { nt := 9, orc := { rv := [], gv := [], ln := [4] } }, rfrz := [], ts := [] }
noncomputable def e_slices_SortStableFunc_api_Entry_api_Entry (F : Nat) : Env El := (envS 57 (conOf TT s_page_Page_1 (M_page_Page_1 F)) (envS 88 (conOf TT s_slices_stableCmpFunc_api_Entry (M_slices_stableCmpFunc_api_Entry F)) envN))
noncomputable def M_slices_SortStableFunc_api_Entry_api_Entry (F : Nat) (x : ((List (El .en)) × Unit) × (Unit)) : Option ((Unit) × ((List (El .en)) × Unit)) :=
  (M_slices_stableCmpFunc_api_Entry F ((x.1.1, ()), (↑x.1.1.length : Int), ())).bind
    fun
      (v0 :
        Unit ×
          List (Int × List UInt8 × Int × Int × Int × Int × List UInt8 × Int × Int × Int × List UInt8 × List UInt8 × List UInt8 × List UInt8 × Unit) × Unit) =>
    some ((), v0.2.1, ())
theorem t_slices_SortStableFunc_api_Entry_api_Entry (x : ((List (El .en)) × Unit) × (Unit)) (F : Nat) : fnRun TT Tryd.prog (e_slices_SortStableFunc_api_Entry_api_Entry F) s_slices_SortStableFunc_api_Entry_api_Entry (bodyOf 56) F x = M_slices_SortStableFunc_api_Entry_api_Entry F x := by kernel_rfl
theorem c_slices_SortStableFunc_api_Entry_api_Entry (F : Nat) : Ctr TT Tryd.prog 56 (conOf TT s_slices_SortStableFunc_api_Entry_api_Entry (M_slices_SortStableFunc_api_Entry_api_Entry F)) :=
  ctr_of (code := bodyOf 56) Tryd.func56 (by kernel_rfl) (by kernel_rfl) (by kernel_rfl) (by kernel_rfl) (envS_ok (envS_ok envN_ok (c_slices_stableCmpFunc_api_Entry F)) (c_page_Page_1 F)) hm (by kernel_rfl) (fun x r h => ⟨F, (t_slices_SortStableFunc_api_Entry_api_Entry x F).trans h⟩)
theorem mo_slices_SortStableFunc_api_Entry_api_Entry {F F' : Nat} (h : F ≤ F') : ∀ v, Le (M_slices_SortStableFunc_api_Entry_api_Entry F v) (M_slices_SortStableFunc_api_Entry_api_Entry F' v) := by
  intro v
  unfold M_slices_SortStableFunc_api_Entry_api_Entry
  with_reducible repeat (first | (intro v) | exact Le.refl _ | exact h | exact mo_slices_stableCmpFunc_api_Entry h _ | exact mo_page_Page_1 h _ | apply Le.bind | apply Le.ite | apply Le.loop | apply Le.sumC)
noncomputable def s_slices_CompactFunc_api_Entry_api_Entry : Spec Kd := { params := [(.a (.row 60 .en)), (.a (.fn 60))], ret := (.one (.a (.row 60 .en))), pins := [], pl := { nt := 66, orc := { rv := [4, 11, 64, 65], gv := [] }, bjoins := [(3, (.norm, ⟨[.tmp 0 (.a (.rowp 1)), .tmp 1 (.a (.fn 60)), .tmp 5 (.a (.int .i64)), .tmp 6 (.a (.slc .en)), .tmp 7 (.a (.int .i64)), .box 1 (.row 60 .en)], [], [.tmpRow 0 1 60 .en]⟩), [])], loops := [(2, ⟨[.tmp 0 (.a (.rowp 1)), .tmp 1 (.a (.fn 60)), .tmp 5 (.a (.int .i64)), .tmp 6 (.a (.slc .en)), .tmp 7 (.a (.int .i64)), .box 1 (.row 60 .en)], [], [.tmpRow 0 1 60 .en]⟩, (.exit 2, ⟨[.tmp 0 (.a (.rowp 1)), .tmp 5 (.a (.int .i64)), .box 1 (.row 60 .en)], [], [.tmpRow 0 1 60 .en]⟩), []), (0, ⟨[.tmp 0 (.a (.rowp 1)), .tmp 1 (.a (.fn 60)), .tmp 5 (.a (.int .i64)), .box 1 (.row 60 .en)], [], [.tmpRow 0 1 60 .en]⟩, (.exit 0, ⟨[.tmp 0 (.a (.rowp 1)), .box 1 (.row 60 .en)], [], [.tmpRow 0 1 60 .en]⟩), [(.ret, ⟨[.tmp 4 (.a (.rowp 256)), .box 256 (.row 60 .en)], [], [.tmpRow 4 256 60 .en]⟩)])], ends := [(11, ⟨[.tmp 0 (.a (.rowp 1)), .tmp 1 (.a (.fn 60)), .tmp 5 (.a (.int .i64)), .tmp 6 (.a (.slc .en)), .tmp 7 (.a (.int .i64)), .tmp 49 (.a .bool), .box 1 (.row 60 .en)], [], [.tmpRow 0 1 60 .en]⟩), (6, ⟨[.tmp 0 (.a (.rowp 1)), .tmp 1 (.a (.fn 60)), .tmp 5 (.a (.int .i64)), .tmp 28 (.a .bool), .box 1 (.row 60 .en)], [], [.tmpRow 0 1 60 .en]⟩)] }, rfrz := [], ts := [4] }
noncomputable def e_slices_CompactFunc_api_Entry_api_Entry (F : Nat) : Env El := (envS 60 (conOf TT s_page_Page_2 (M_page_Page_2 F)) envN)
noncomputable def M_slices_CompactFunc_api_Entry_api_Entry_l0 (F : Nat) (v0 : (Unit ×
          Unit ×
            Int ×
              List (Int × List UInt8 × Int × Int × Int × Int × List UInt8 × Int × Int × Int × List UInt8 × List UInt8 × List UInt8 × List UInt8 × Unit) ×
                Unit)) : Option ((Unit ×
          Unit ×
            Int ×
              List (Int × List UInt8 × Int × Int × Int × Int × List UInt8 × Int × Int × Int × List UInt8 × List UInt8 × List UInt8 × List UInt8 × Unit) ×
                Unit) ⊕ (Unit ×
            List (Int × List UInt8 × Int × Int × Int × Int × List UInt8 × Int × Int × Int × List UInt8 × List UInt8 × List UInt8 × List UInt8 × Unit) × Unit ⊕
          Unit ×
            List (Int × List UInt8 × Int × Int × Int × Int × List UInt8 × Int × Int × Int × List UInt8 × List UInt8 × List UInt8 × List UInt8 × Unit) × Unit)) :=
  if decide (v0.2.2.1 < (↑v0.2.2.2.1.length : Int)) = true then
            ((idx v0.2.2.2.1 v0.2.2.1).bind
                  fun
                    (v1 :
                      Int × List UInt8 × Int × Int × Int × Int × List UInt8 × Int × Int × Int × List UInt8 × List UInt8 × List UInt8 × List UInt8 × Unit) =>
                  (idx v0.2.2.2.1 (IntKind.i64.wrap (v0.2.2.1 - 1))).bind
                    fun
                      (v2 :
                        Int × List UInt8 × Int × Int × Int × Int × List UInt8 × Int × Int × Int × List UInt8 × List UInt8 × List UInt8 × List UInt8 × Unit) =>
                    (M_page_Page_2 F (v1, v2)).bind fun (v3 : Bool) => some ((), (), v0.2.2.1, v3, v0.2.2.2.1, ())).bind
              fun
                (v4 :
                  Unit ×
                    Unit ×
                      Int ×
                        Bool ×
                          List
                              (Int ×
                                List UInt8 × Int × Int × Int × Int × List UInt8 × Int × Int × Int × List UInt8 × List UInt8 × List UInt8 × List UInt8 × Unit) ×
                            Unit) =>
              if v4.2.2.2.1 = true then none else some (Sum.inl ((), (), IntKind.i64.wrap (v4.2.2.1 + 1), v4.2.2.2.2.1, ()))
          else some (Sum.inr (Sum.inl ((), v0.2.2.2.1, ())))
noncomputable def M_slices_CompactFunc_api_Entry_api_Entry (F : Nat) (x : (List (El .en)) × (Unit)) : Option (List (El .en)) :=
  if decide ((↑x.1.length : Int) < 2) = true then some x.1
  else
    (loopM (M_slices_CompactFunc_api_Entry_api_Entry_l0 F)
          F ((), (), 1, x.1, ())).bind
      fun
        (v5 :
          Unit ×
              List (Int × List UInt8 × Int × Int × Int × Int × List UInt8 × Int × Int × Int × List UInt8 × List UInt8 × List UInt8 × List UInt8 × Unit) × Unit ⊕
            Unit ×
              List (Int × List UInt8 × Int × Int × Int × Int × List UInt8 × Int × Int × Int × List UInt8 × List UInt8 × List UInt8 × List UInt8 × Unit) ×
                Unit) =>
      sumC v5
        (fun
            (v6 :
              Unit ×
                List (Int × List UInt8 × Int × Int × Int × Int × List UInt8 × Int × Int × Int × List UInt8 × List UInt8 × List UInt8 × List UInt8 × Unit) ×
                  Unit) =>
          some v6.2.1)
        fun
          (v7 :
            Unit ×
              List (Int × List UInt8 × Int × Int × Int × Int × List UInt8 × Int × Int × Int × List UInt8 × List UInt8 × List UInt8 × List UInt8 × Unit) ×
                Unit) =>
        some v7.2.1
theorem t_slices_CompactFunc_api_Entry_api_Entry (x : (List (El .en)) × (Unit)) (F : Nat) : fnRun TT Tryd.prog (e_slices_CompactFunc_api_Entry_api_Entry F) s_slices_CompactFunc_api_Entry_api_Entry (bodyOf 59) F x = M_slices_CompactFunc_api_Entry_api_Entry F x := by kernel_rfl
theorem c_slices_CompactFunc_api_Entry_api_Entry (F : Nat) : Ctr TT Tryd.prog 59 (conOf TT s_slices_CompactFunc_api_Entry_api_Entry (M_slices_CompactFunc_api_Entry_api_Entry F)) :=
  ctr_of (code := bodyOf 59) Tryd.func59 (by kernel_rfl) (by kernel_rfl) (by kernel_rfl) (by kernel_rfl) (envS_ok envN_ok (c_page_Page_2 F)) hm (by kernel_rfl) (fun x r h => ⟨F, (t_slices_CompactFunc_api_Entry_api_Entry x F).trans h⟩)
theorem mo_slices_CompactFunc_api_Entry_api_Entry_l0 {F F' : Nat} (h : F ≤ F') : ∀ v, Le (M_slices_CompactFunc_api_Entry_api_Entry_l0 F v) (M_slices_CompactFunc_api_Entry_api_Entry_l0 F' v) := by
  intro v
  unfold M_slices_CompactFunc_api_Entry_api_Entry_l0
  with_reducible repeat (first | (intro v) | exact Le.refl _ | exact h | exact mo_page_Page_2 h _ | apply Le.bind | apply Le.ite | apply Le.loop | apply Le.sumC)
theorem mo_slices_CompactFunc_api_Entry_api_Entry {F F' : Nat} (h : F ≤ F') : ∀ v, Le (M_slices_CompactFunc_api_Entry_api_Entry F v) (M_slices_CompactFunc_api_Entry_api_Entry F' v) := by
  intro v
  unfold M_slices_CompactFunc_api_Entry_api_Entry
  with_reducible repeat (first | (intro v) | exact Le.refl _ | exact h | exact mo_page_Page_2 h _ | exact mo_slices_CompactFunc_api_Entry_api_Entry_l0 h | exact mo_slices_CompactFunc_api_Entry_api_Entry_l0 h _ | apply Le.bind | apply Le.ite | apply Le.loop | apply Le.sumC)
end Go.Vm
