/- Models of functions of the program, and that each keeps its contract: for all arguments of its shape. No condition. -/
import Derived.Test.YtmbnnjpdpginlaaGreatDoorKt
import Derived.Test.YtmbnnjpdpginlaaGreatDoorFproof
import Derived.Test.YtmbnnjpdpginlaaGreatDoorFentry
namespace Go.Vm
open Go.Proofs
set_option linter.unusedVariables false
noncomputable def s_proof_texts : Spec Kd := { params := [(.a (.slc .en))], ret := (.tup [(.a (.row 9 .str)), (.a (.int .i64))]), pins := [], pl := { nt := 29, orc := { rv := [2, 4, 23, 26, 28], gv := [] }, loops := [(0, ⟨[.tmp 4 (.a (.rowp 256)), .tmp 9 (.a (.slc .en)), .tmp 10 (.a (.int .i64)), .tmp 11 (.a (.int .i64)), .box 256 (.row 9 .str)], [], [.tmpRow 4 256 9 .str]⟩, (.exit 0, ⟨[.tmp 4 (.a (.rowp 256)), .box 256 (.row 9 .str)], [], [.tmpRow 4 256 9 .str]⟩), [(.ret, ⟨[.tmp 2 (.a (.rowp 128)), .tmp 3 (.a (.int .i64)), .box 128 (.row 9 .str)], [], [.tmpRow 2 128 9 .str]⟩)])] }, rfrz := [], ts := [2, 3] }
noncomputable def e_proof_texts (F : Nat) : Env El := (envS 30 (conOf TT s_entry_Pack (M_entry_Pack F)) envN)
/-- concierge/proof.texts -/
noncomputable def M_proof_texts_l0 (F : Nat) (v0 : (Unit ×
        List (Int × List UInt8 × Int × Int × Int × Int × List UInt8 × Int × Int × Int × List UInt8 × List UInt8 × List UInt8 × List UInt8 × Unit) ×
          Int × Int × List (List UInt8) × Unit)) : Option ((Unit ×
        List (Int × List UInt8 × Int × Int × Int × Int × List UInt8 × Int × Int × Int × List UInt8 × List UInt8 × List UInt8 × List UInt8 × Unit) ×
          Int × Int × List (List UInt8) × Unit) ⊕ (Unit × List (List UInt8) × Unit ⊕ Unit × Int × List (List UInt8) × Unit)) :=
  if decide (v0.2.2.2.1 < v0.2.2.1) = true then
          (idx v0.2.1 v0.2.2.2.1).bind
            fun (v1 : Int × List UInt8 × Int × Int × Int × Int × List UInt8 × Int × Int × Int × List UInt8 × List UInt8 × List UInt8 × List UInt8 × PUnit) =>
            (M_entry_Pack F v1).bind fun (v2 : List UInt8 × Int) =>
              if (!decide (v2.2 = 0)) = true then some (Sum.inr (Sum.inr ((), v2.2, [], ())))
              else
                if decide ((v0.2.2.2.2.1.length + [v2.1].length) * 16 ≤ 140737488355328) = true then
                  some (Sum.inl ((), v0.2.1, v0.2.2.1, IntKind.i64.wrap (v0.2.2.2.1 + 1), v0.2.2.2.2.1 ++ [v2.1], ()))
                else none
        else some (Sum.inr (Sum.inl ((), v0.2.2.2.2.1, ())))
noncomputable def M_proof_texts (F : Nat) (x : (List (El .en))) : Option ((List (El .str)) × (Int)) :=
  (loopM (M_proof_texts_l0 F)
        F ((), x, (↑x.length : Int), 0, [], ())).bind
    fun (v3 : Unit × List (List UInt8) × Unit ⊕ Unit × Int × List (List UInt8) × Unit) =>
    sumC v3 (fun (v4 : Unit × List (List UInt8) × Unit) => some (v4.2.1, 0)) fun (v5 : Unit × Int × List (List UInt8) × Unit) => some (v5.2.2.1, v5.2.1)
theorem t_proof_texts (x : (List (El .en))) (F : Nat) : fnRun TT Tryz.prog (e_proof_texts F) s_proof_texts (bodyOf 50) F x = M_proof_texts F x := by kernel_rfl
theorem c_proof_texts (F : Nat) : Ctr TT Tryz.prog 50 (conOf TT s_proof_texts (M_proof_texts F)) :=
  ctr_of (code := bodyOf 50) Tryz.func50 (by kernel_rfl) (by kernel_rfl) (by kernel_rfl) (by kernel_rfl) (envS_ok envN_ok (c_entry_Pack F)) hm (by kernel_rfl) (fun x r h => ⟨F, (t_proof_texts x F).trans h⟩)
theorem mo_proof_texts_l0 {F F' : Nat} (h : F ≤ F') : ∀ v, Le (M_proof_texts_l0 F v) (M_proof_texts_l0 F' v) := by
  intro v
  unfold M_proof_texts_l0
  with_reducible repeat (first | (intro v) | exact Le.refl _ | exact h | exact mo_entry_Pack h _ | apply Le.bind | apply Le.ite | apply Le.loop | apply Le.sumC)
theorem mo_proof_texts {F F' : Nat} (h : F ≤ F') : ∀ v, Le (M_proof_texts F v) (M_proof_texts F' v) := by
  intro v
  unfold M_proof_texts
  with_reducible repeat (first | (intro v) | exact Le.refl _ | exact h | exact mo_entry_Pack h _ | exact mo_proof_texts_l0 h | exact mo_proof_texts_l0 h _ | apply Le.bind | apply Le.ite | apply Le.loop | apply Le.sumC)
noncomputable def s_proof_Entries : Spec Kd := { params := [(.a (.slc .en))], ret := (.tup [(.a .str), (.a (.int .i64))]), pins := [], pl := { nt := 16 }, rfrz := [], ts := [2, 3] }
noncomputable def e_proof_Entries (F : Nat) : Env El := (envS 45 (conOf TT s_proof_Root (M_proof_Root F)) (envS 50 (conOf TT s_proof_texts (M_proof_texts F)) envN))
/-- concierge/proof.Entries -/
noncomputable def M_proof_Entries (F : Nat) (x : (List (El .en))) : Option ((List UInt8) × (Int)) :=
  (M_proof_texts F x).bind fun (v0 : List (List UInt8) × Int) =>
    if (!decide (v0.2 = 0)) = true then some ([], v0.2) else (M_proof_Root F v0.1).bind fun (v1 : List UInt8) => some (v1, 0)
theorem t_proof_Entries (x : (List (El .en))) (F : Nat) : fnRun TT Tryz.prog (e_proof_Entries F) s_proof_Entries (bodyOf 19) F x = M_proof_Entries F x := by kernel_rfl
theorem c_proof_Entries (F : Nat) : Ctr TT Tryz.prog 19 (conOf TT s_proof_Entries (M_proof_Entries F)) :=
  ctr_of (code := bodyOf 19) Tryz.func19 (by kernel_rfl) (by kernel_rfl) (by kernel_rfl) (by kernel_rfl) (envS_ok (envS_ok envN_ok (c_proof_texts F)) (c_proof_Root F)) hm (by kernel_rfl) (fun x r h => ⟨F, (t_proof_Entries x F).trans h⟩)
theorem mo_proof_Entries {F F' : Nat} (h : F ≤ F') : ∀ v, Le (M_proof_Entries F v) (M_proof_Entries F' v) := by
  intro v
  unfold M_proof_Entries
  with_reducible repeat (first | (intro v) | exact Le.refl _ | exact h | exact mo_proof_texts h _ | exact mo_proof_Root h _ | apply Le.bind | apply Le.ite | apply Le.loop | apply Le.sumC)
noncomputable def s_proof_Show_1 : Spec Kd := { params := [(.agg [(.int .i64), .str, (.int .i64), (.int .i64), (.int .i64), (.int .i64), .str, (.int .i64), (.int .i64), (.int .i64), .str, .str, .str, .str]), (.shp [(.int .i64)]), (.shp [.str])], ret := (.one (.a .bool)), pins := [], pl := { nt := 15, cuts := [(1, [(10, ⟨[.tmp 14 (.a .bool)], [], []⟩)])] }, rfrz := [], ts := [4] }
noncomputable def e_proof_Show_1 (F : Nat) : Env El := envN
/-- concierge/proof.Show$1 -/
noncomputable def M_proof_Show_1 (F : Nat) (x : ((Int) × (List UInt8) × (Int) × (Int) × (Int) × (Int) × (List UInt8) × (Int) × (Int) × (Int) × (List UInt8) × (List UInt8) × (List UInt8) × (List UInt8) × Unit) × ((Int) × Unit) × ((List UInt8) × Unit)) : Option (Bool) :=
  (if decide (x.1.1 = x.2.1.1) = true then some (decide (x.1.2.1 = x.2.2.1), ()) else some (false, ())).bind fun v0 => some v0.1
theorem t_proof_Show_1 (x : ((Int) × (List UInt8) × (Int) × (Int) × (Int) × (Int) × (List UInt8) × (Int) × (Int) × (Int) × (List UInt8) × (List UInt8) × (List UInt8) × (List UInt8) × Unit) × ((Int) × Unit) × ((List UInt8) × Unit)) (F : Nat) : fnRun TT Tryz.prog (e_proof_Show_1 F) s_proof_Show_1 (bodyOf 52) F x = M_proof_Show_1 F x := by kernel_rfl
theorem c_proof_Show_1 (F : Nat) : Ctr TT Tryz.prog 52 (conOf TT s_proof_Show_1 (M_proof_Show_1 F)) :=
  ctr_of (code := bodyOf 52) Tryz.func52 (by kernel_rfl) (by kernel_rfl) (by kernel_rfl) (by kernel_rfl) envN_ok hm (by kernel_rfl) (fun x r h => ⟨F, (t_proof_Show_1 x F).trans h⟩)
theorem mo_proof_Show_1 {F F' : Nat} (h : F ≤ F') : ∀ v, Le (M_proof_Show_1 F v) (M_proof_Show_1 F' v) := by
  intro v
  unfold M_proof_Show_1
  with_reducible repeat (first | (intro v) | exact Le.refl _ | exact h | apply Le.bind | apply Le.ite | apply Le.loop | apply Le.sumC)
noncomputable def s_slices_IndexFunc_api_Entry_api_Entry : Spec Kd := { params := [(.a (.slc .en)), (.fnc 52 [[(.int .i64)], [.str]])], ret := (.one (.a (.int .i64))), pins := [], pl := { nt := 19, loops := [(0, ⟨[.tmp 0 (.a (.slc .en)), .tmp 1 (.fnc 52 [[(.int .i64)], [.str]]), .tmp 7 (.a (.int .i64)), .tmp 8 (.a (.int .i64))], [], []⟩, (.exit 0, ⟨[], [], []⟩), [(.ret, ⟨[.tmp 4 (.a (.int .i64))], [], []⟩)])] }, rfrz := [], ts := [4] }
noncomputable def e_slices_IndexFunc_api_Entry_api_Entry (F : Nat) : Env El := (envS 52 (conOf TT s_proof_Show_1 (M_proof_Show_1 F)) envN)
/-- slices.IndexFunc[[]concierge/api.Entry,concierge/api.Entry] -/
noncomputable def M_slices_IndexFunc_api_Entry_api_Entry_l0 (F : Nat) (v0 : (List (Int × List UInt8 × Int × Int × Int × Int × List UInt8 × Int × Int × Int × List UInt8 × List UInt8 × List UInt8 × List UInt8 × Unit) ×
        ((Int × Unit) × (List UInt8 × Unit) × Unit) × Int × Int × Unit)) : Option ((List (Int × List UInt8 × Int × Int × Int × Int × List UInt8 × Int × Int × Int × List UInt8 × List UInt8 × List UInt8 × List UInt8 × Unit) ×
        ((Int × Unit) × (List UInt8 × Unit) × Unit) × Int × Int × Unit) ⊕ (Unit ⊕ Int × Unit)) :=
  if decide (v0.2.2.2.1 < v0.2.2.1) = true then
          (idx v0.1 v0.2.2.2.1).bind
            fun (v1 : Int × List UInt8 × Int × Int × Int × Int × List UInt8 × Int × Int × Int × List UInt8 × List UInt8 × List UInt8 × List UInt8 × PUnit) =>
            (M_proof_Show_1 F (v1, (v0.2.1.1.1, ()), v0.2.1.2.1.1, ())).bind fun (v2 : Bool) =>
              if v2 = true then some (Sum.inr (Sum.inr (v0.2.2.2.1, ())))
              else some (Sum.inl (v0.1, ((v0.2.1.1.1, ()), (v0.2.1.2.1.1, ()), ()), v0.2.2.1, IntKind.i64.wrap (v0.2.2.2.1 + 1), ()))
        else some (Sum.inr (Sum.inl ()))
noncomputable def M_slices_IndexFunc_api_Entry_api_Entry (F : Nat) (x : (List (El .en)) × (((Int) × Unit) × ((List UInt8) × Unit) × Unit)) : Option (Int) :=
  (loopM (M_slices_IndexFunc_api_Entry_api_Entry_l0 F)
        F (x.1, ((x.2.1.1, ()), (x.2.2.1.1, ()), ()), (↑x.1.length : Int), 0, ())).bind
    fun (v3 : Unit ⊕ Int × Unit) => sumC v3 (fun (v4 : Unit) => some (-1)) fun (v5 : Int × Unit) => some v5.1
theorem t_slices_IndexFunc_api_Entry_api_Entry (x : (List (El .en)) × (((Int) × Unit) × ((List UInt8) × Unit) × Unit)) (F : Nat) : fnRun TT Tryz.prog (e_slices_IndexFunc_api_Entry_api_Entry F) s_slices_IndexFunc_api_Entry_api_Entry (bodyOf 51) F x = M_slices_IndexFunc_api_Entry_api_Entry F x := by kernel_rfl
theorem c_slices_IndexFunc_api_Entry_api_Entry (F : Nat) : Ctr TT Tryz.prog 51 (conOf TT s_slices_IndexFunc_api_Entry_api_Entry (M_slices_IndexFunc_api_Entry_api_Entry F)) :=
  ctr_of (code := bodyOf 51) Tryz.func51 (by kernel_rfl) (by kernel_rfl) (by kernel_rfl) (by kernel_rfl) (envS_ok envN_ok (c_proof_Show_1 F)) hm (by kernel_rfl) (fun x r h => ⟨F, (t_slices_IndexFunc_api_Entry_api_Entry x F).trans h⟩)
theorem mo_slices_IndexFunc_api_Entry_api_Entry_l0 {F F' : Nat} (h : F ≤ F') : ∀ v, Le (M_slices_IndexFunc_api_Entry_api_Entry_l0 F v) (M_slices_IndexFunc_api_Entry_api_Entry_l0 F' v) := by
  intro v
  unfold M_slices_IndexFunc_api_Entry_api_Entry_l0
  with_reducible repeat (first | (intro v) | exact Le.refl _ | exact h | exact mo_proof_Show_1 h _ | apply Le.bind | apply Le.ite | apply Le.loop | apply Le.sumC)
theorem mo_slices_IndexFunc_api_Entry_api_Entry {F F' : Nat} (h : F ≤ F') : ∀ v, Le (M_slices_IndexFunc_api_Entry_api_Entry F v) (M_slices_IndexFunc_api_Entry_api_Entry F' v) := by
  intro v
  unfold M_slices_IndexFunc_api_Entry_api_Entry
  with_reducible repeat (first | (intro v) | exact Le.refl _ | exact h | exact mo_proof_Show_1 h _ | exact mo_slices_IndexFunc_api_Entry_api_Entry_l0 h | exact mo_slices_IndexFunc_api_Entry_api_Entry_l0 h _ | apply Le.bind | apply Le.ite | apply Le.loop | apply Le.sumC)
noncomputable def s_proof_Show : Spec Kd := { params := [(.a (.slc .en)), (.a (.int .i64)), (.a .str)], ret := (.tup [(.a (.int .i64)), (.a (.slc .str)), (.a .bool)]), pins := [], pl := { nt := 37, cuts := [(3, [(6, ⟨[.tmp 9 (.a (.slc .str)), .tmp 11 (.a (.int .i64)), .tmp 27 (.a .bool)], [1025, 1985], []⟩)])], frz := [(2, [256, 320])] }, rfrz := [1985], ts := [6, 7, 8] }
noncomputable def e_proof_Show (F : Nat) : Env El := (envS 44 (conOf TT s_proof_Path (M_proof_Path F)) (envS 51 (conOf TT s_slices_IndexFunc_api_Entry_api_Entry (M_slices_IndexFunc_api_Entry_api_Entry F)) (envS 50 (conOf TT s_proof_texts (M_proof_texts F)) envN)))
/-- concierge/proof.Show -/
noncomputable def M_proof_Show (F : Nat) (x : (List (El .en)) × (Int) × (List UInt8)) : Option ((Int) × (List (El .str)) × (Bool)) :=
  (M_proof_texts F x.1).bind fun (v0 : List (List UInt8) × Int) =>
    (M_slices_IndexFunc_api_Entry_api_Entry F (x.1, (x.2.1, ()), (x.2.2, ()), ())).bind fun (v1 : Int) =>
      (if (!decide (v0.2 = 0)) = false then some (v0.1, v1, decide (v1 < 0), ()) else some (v0.1, v1, true, ())).bind
        fun (v2 : List (List UInt8) × Int × Bool × Unit) =>
        if v2.2.2.1 = true then some (0, [], false) else (M_proof_Path F (v2.1, v2.2.1)).bind fun (v3 : List (List UInt8) × Bool) => some (v2.2.1, v3)
theorem t_proof_Show (x : (List (El .en)) × (Int) × (List UInt8)) (F : Nat) : fnRun TT Tryz.prog (e_proof_Show F) s_proof_Show (bodyOf 20) F x = M_proof_Show F x := by kernel_rfl
theorem c_proof_Show (F : Nat) : Ctr TT Tryz.prog 20 (conOf TT s_proof_Show (M_proof_Show F)) :=
  ctr_of (code := bodyOf 20) Tryz.func20 (by kernel_rfl) (by kernel_rfl) (by kernel_rfl) (by kernel_rfl) (envS_ok (envS_ok (envS_ok envN_ok (c_proof_texts F)) (c_slices_IndexFunc_api_Entry_api_Entry F)) (c_proof_Path F)) hm (by kernel_rfl) (fun x r h => ⟨F, (t_proof_Show x F).trans h⟩)
theorem mo_proof_Show {F F' : Nat} (h : F ≤ F') : ∀ v, Le (M_proof_Show F v) (M_proof_Show F' v) := by
  intro v
  unfold M_proof_Show
  with_reducible repeat (first | (intro v) | exact Le.refl _ | exact h | exact mo_proof_texts h _ | exact mo_slices_IndexFunc_api_Entry_api_Entry h _ | exact mo_proof_Path h _ | apply Le.bind | apply Le.ite | apply Le.loop | apply Le.sumC)

end Go.Vm
