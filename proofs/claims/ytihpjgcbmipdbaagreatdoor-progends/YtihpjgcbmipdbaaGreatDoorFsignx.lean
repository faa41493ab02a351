/- Models of functions of the program, and that each keeps its contract: for all arguments of its shape. No condition. -/
import Derived.Test.YtihpjgcbmipdbaaGreatDoorKt
import Derived.Test.YtihpjgcbmipdbaaGreatDoorFsort
namespace Go.Vm
open Go.Proofs
set_option linter.unusedVariables false
noncomputable def s_sign_Count : Spec Kd := { params := [(.a .str)], ret := (.one (.a (.int .i64))), pins := [], pl := { nt := 11, loops := [(0, ⟨[.tmp 3 (.a (.int .i64)), .tmp 5 (.a (.ptr 320 0)), .box 320 .siter], [], []⟩, (.exit 0, ⟨[.tmp 3 (.a (.int .i64))], [], []⟩), [])] }, rfrz := [], ts := [2] }
noncomputable def e_sign_Count (F : Nat) : Env El := envN
noncomputable def M_sign_Count_l0 (F : Nat) (v0 : (Int × Unit × (List UInt8 × Nat) × Unit)) : Option ((Int × Unit × (List UInt8 × Nat) × Unit) ⊕ (Int × Unit)) :=
 if decide (v0.2.2.1.2 < v0.2.2.1.1.length) = true then
     some (Sum.inl (IntKind.i64.wrap (v0.1 + 1), (), (v0.2.2.1.1, v0.2.2.1.2 + runeLen v0.2.2.1.1 v0.2.2.1.2), ()))
    else some (Sum.inr (v0.1, ()))
noncomputable def M_sign_Count (F : Nat) (x : (List UInt8)) : Option (Int) :=
 (loopM (M_sign_Count_l0 F)
    F (0, (), (x, 0), ())).bind
  fun v1 => some v1.1
theorem t_sign_Count (x : (List UInt8)) (F : Nat) : fnRun TT Tryz.prog (e_sign_Count F) s_sign_Count (bodyOf 67) F x = M_sign_Count F x := by kernel_rfl
theorem c_sign_Count (F : Nat) : Ctr TT Tryz.prog 67 (conOf TT s_sign_Count (M_sign_Count F)) :=
 ctr_of (code := bodyOf 67) Tryz.func67 (by kernel_rfl) (by kernel_rfl) (by kernel_rfl) (by kernel_rfl) envN_ok hm (by kernel_rfl) (fun x r h => ⟨F, (t_sign_Count x F).trans h⟩)
noncomputable def s_slices_Index_int_int : Spec Kd := { params := [(.a (.slc .i64)), (.a (.int .i64))], ret := (.one (.a (.int .i64))), pins := [], pl := { nt := 19, loops := [(0, ⟨[.tmp 0 (.a (.slc .i64)), .tmp 1 (.a (.int .i64)), .tmp 7 (.a (.int .i64)), .tmp 8 (.a (.int .i64))], [], []⟩, (.exit 0, ⟨[], [], []⟩), [(.ret, ⟨[.tmp 4 (.a (.int .i64))], [], []⟩)])] }, rfrz := [], ts := [4] }
noncomputable def e_slices_Index_int_int (F : Nat) : Env El := envN
noncomputable def M_slices_Index_int_int_l0 (F : Nat) (v0 : (List Int × Int × Int × Int × Unit)) : Option ((List Int × Int × Int × Int × Unit) ⊕ (Unit ⊕ Int × Unit)) :=
 if decide (v0.2.2.2.1 < v0.2.2.1) = true then
     (idx v0.1 v0.2.2.2.1).bind fun v1 =>
      if decide (v0.2.1 = v1) = true then some (Sum.inr (Sum.inr (v0.2.2.2.1, ())))
      else some (Sum.inl (v0.1, v0.2.1, v0.2.2.1, IntKind.i64.wrap (v0.2.2.2.1 + 1), ()))
    else some (Sum.inr (Sum.inl ()))
noncomputable def M_slices_Index_int_int (F : Nat) (x : (List (El .i64)) × (Int)) : Option (Int) :=
 (loopM (M_slices_Index_int_int_l0 F)
    F (x.1, x.2, (↑x.1.length : Int), 0, ())).bind
  fun v2 => sumC v2 (fun v3 => some (-1)) fun v4 => some v4.1
theorem t_slices_Index_int_int (x : (List (El .i64)) × (Int)) (F : Nat) : fnRun TT Tryz.prog (e_slices_Index_int_int F) s_slices_Index_int_int (bodyOf 187) F x = M_slices_Index_int_int F x := by kernel_rfl
theorem c_slices_Index_int_int (F : Nat) : Ctr TT Tryz.prog 187 (conOf TT s_slices_Index_int_int (M_slices_Index_int_int F)) :=
 ctr_of (code := bodyOf 187) Tryz.func187 (by kernel_rfl) (by kernel_rfl) (by kernel_rfl) (by kernel_rfl) envN_ok hm (by kernel_rfl) (fun x r h => ⟨F, (t_slices_Index_int_int x F).trans h⟩)
noncomputable def s_slices_Contains_int_int : Spec Kd := { params := [(.a (.slc .i64)), (.a (.int .i64))], ret := (.one (.a .bool)), pins := [], pl := { nt := 9 }, rfrz := [], ts := [4] }
noncomputable def e_slices_Contains_int_int (F : Nat) : Env El := (envS 187 (conOf TT s_slices_Index_int_int (M_slices_Index_int_int F)) envN)
noncomputable def M_slices_Contains_int_int (F : Nat) (x : (List (El .i64)) × (Int)) : Option (Bool) :=
 (M_slices_Index_int_int F x).bind fun v0 => some (decide (0 ≤ v0))
theorem t_slices_Contains_int_int (x : (List (El .i64)) × (Int)) (F : Nat) : fnRun TT Tryz.prog (e_slices_Contains_int_int F) s_slices_Contains_int_int (bodyOf 123) F x = M_slices_Contains_int_int F x := by kernel_rfl
theorem c_slices_Contains_int_int (F : Nat) : Ctr TT Tryz.prog 123 (conOf TT s_slices_Contains_int_int (M_slices_Contains_int_int F)) :=
 ctr_of (code := bodyOf 123) Tryz.func123 (by kernel_rfl) (by kernel_rfl) (by kernel_rfl) (by kernel_rfl) (envS_ok envN_ok (c_slices_Index_int_int F)) hm (by kernel_rfl) (fun x r h => ⟨F, (t_slices_Contains_int_int x F).trans h⟩)
noncomputable def s_sign_Only : Spec Kd := { params := [(.a .str), (.a (.slc .i64))], ret := (.one (.a .bool)), pins := [], pl := { nt := 17, loops := [(0, ⟨[.tmp 1 (.a (.slc .i64)), .tmp 8 (.a (.ptr 512 0)), .box 512 .siter], [], []⟩, (.exit 0, ⟨[], [], []⟩), [(.ret, ⟨[.tmp 4 (.a .bool)], [], []⟩)])] }, rfrz := [], ts := [4] }
noncomputable def e_sign_Only (F : Nat) : Env El := (envS 123 (conOf TT s_slices_Contains_int_int (M_slices_Contains_int_int F)) (envS 124 (conOf TT s_sign_Sort (M_sign_Sort F)) envN))
noncomputable def M_sign_Only_l0 (F : Nat) (v0 : (List Int × Unit × (List UInt8 × Nat) × Unit)) : Option ((List Int × Unit × (List UInt8 × Nat) × Unit) ⊕ (Unit ⊕ Bool × Unit)) :=
 if decide (v0.2.2.1.2 < v0.2.2.1.1.length) = true then
     (M_sign_Sort F (runeAt v0.2.2.1.1 v0.2.2.1.2)).bind fun v1 =>
      (M_slices_Contains_int_int F (v0.1, v1)).bind fun v2 =>
       if (!v2) = true then some (Sum.inr (Sum.inr (false, ())))
       else some (Sum.inl (v0.1, (), (v0.2.2.1.1, v0.2.2.1.2 + runeLen v0.2.2.1.1 v0.2.2.1.2), ()))
    else some (Sum.inr (Sum.inl ()))
noncomputable def M_sign_Only (F : Nat) (x : (List UInt8) × (List (El .i64))) : Option (Bool) :=
 (loopM (M_sign_Only_l0 F)
    F (x.2, (), (x.1, 0), ())).bind
  fun v3 => sumC v3 (fun v4 => some true) fun v5 => some v5.1
theorem t_sign_Only (x : (List UInt8) × (List (El .i64))) (F : Nat) : fnRun TT Tryz.prog (e_sign_Only F) s_sign_Only (bodyOf 68) F x = M_sign_Only F x := by kernel_rfl
theorem c_sign_Only (F : Nat) : Ctr TT Tryz.prog 68 (conOf TT s_sign_Only (M_sign_Only F)) :=
 ctr_of (code := bodyOf 68) Tryz.func68 (by kernel_rfl) (by kernel_rfl) (by kernel_rfl) (by kernel_rfl) (envS_ok (envS_ok envN_ok (c_sign_Sort F)) (c_slices_Contains_int_int F)) hm (by kernel_rfl) (fun x r h => ⟨F, (t_sign_Only x F).trans h⟩)
end Go.Vm
