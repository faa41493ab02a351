/- Models of functions of the program, and that each keeps its contract: for all arguments of its shape. No condition. -/
import Derived.Test.YtblbmkhlnaaopaaKt
import Derived.Test.YtblbmkhlnaaopaaFsort
import Derived.Test.YtblbmkhlnaaopaaFref4
import Derived.Test.YtblbmkhlnaaopaaFbld
import Derived.Test.YtblbmkhlnaaopaaFturn
namespace Go.Vm
open Go.Proofs
set_option linter.unusedVariables false
noncomputable def s_sign_Fold : Spec Kd := { params := [(.a .str)], ret := (.one (.a .str)), pins := [], pl := { nt := 18, joins := [(700012, (.norm, ⟨[.tmp 3 (.a (.ptr 192 0)), .tmp 5 (.a (.int .i32)), .tmp 7 (.a (.ptr 448 0)), .box 448 .siter, .box 192 (.cells 58 [(.argp 192), (.rowp 1012289)]), .box 1012289 (.row 5 .u8)], [], [.cellSelf 192 0, .cellRow 192 1 1012289 5 .u8]⟩), [])], loops := [(0, ⟨[.tmp 3 (.a (.ptr 192 0)), .tmp 7 (.a (.ptr 448 0)), .box 448 .siter, .box 192 (.cells 58 [(.argp 192), (.rowp 1012289)]), .box 1012289 (.row 5 .u8)], [], [.cellSelf 192 0, .cellRow 192 1 1012289 5 .u8]⟩, (.exit 0, ⟨[.tmp 3 (.a (.ptr 192 0)), .box 192 (.cells 58 [(.argp 192), (.rowp 1012289)]), .box 1012289 (.row 5 .u8)], [], [.cellSelf 192 0, .cellRow 192 1 1012289 5 .u8]⟩), [])] }, rfrz := [], ts := [2] }
noncomputable def e_sign_Fold (F : Nat) : Env El := (envS 46 (conOf TT s_strings_Builder_String (M_strings_Builder_String F)) (envS 45 (conOf TT s_strings_Builder_WriteRune (M_strings_Builder_WriteRune F)) (envS 44 (conOf TT s_sign_great (M_sign_great F)) envN)))
/-- concierge/sign.Fold -/
noncomputable def M_sign_Fold_l0 (F : Nat) (v0 : (Unit × Unit × (List UInt8 × Nat) × (Unit × Unit × Unit) × List UInt8 × Unit)) : Option ((Unit × Unit × (List UInt8 × Nat) × (Unit × Unit × Unit) × List UInt8 × Unit) ⊕ (Unit × (Unit × Unit × Unit) × List UInt8 × Unit)) :=
  if decide (v0.2.2.1.2 < v0.2.2.1.1.length) = true then
          (M_sign_great F (runeAt v0.2.2.1.1 v0.2.2.1.2)).bind fun v1 =>
            (if v1 = true then
                  some
                    ((), IntKind.i32.wrap (runeAt v0.2.2.1.1 v0.2.2.1.2 + 32), (), (v0.2.2.1.1, v0.2.2.1.2 + runeLen v0.2.2.1.1 v0.2.2.1.2), ((), (), ()),
                      v0.2.2.2.2.1, ())
                else some ((), runeAt v0.2.2.1.1 v0.2.2.1.2, (), (v0.2.2.1.1, v0.2.2.1.2 + runeLen v0.2.2.1.1 v0.2.2.1.2), ((), (), ()), v0.2.2.2.2.1, ())).bind
              fun v2 =>
              (M_strings_Builder_WriteRune F (((), v2.2.2.2.2.2.1, ()), v2.2.1)).bind fun v3 =>
                some (Sum.inl ((), (), (v2.2.2.2.1.1, v2.2.2.2.1.2), ((), (), ()), v3.2.2.1, ()))
        else some (Sum.inr ((), ((), (), ()), v0.2.2.2.2.1, ()))
noncomputable def M_sign_Fold (F : Nat) (x : (List UInt8)) : Option (List UInt8) :=
  (loopM (M_sign_Fold_l0 F)
        F ((), (), (x, 0), ((), (), ()), [], ())).bind
    fun v4 => (M_strings_Builder_String F ((), v4.2.2.1, ())).bind fun v5 => some v5.1
theorem t_sign_Fold (x : (List UInt8)) (F : Nat) : fnRun TT Try.prog (e_sign_Fold F) s_sign_Fold (bodyOf 22) F x = M_sign_Fold F x := by kernel_rfl
theorem c_sign_Fold (F : Nat) : Ctr TT Try.prog 22 (conOf TT s_sign_Fold (M_sign_Fold F)) :=
  ctr_of (code := bodyOf 22) Try.func22 (by kernel_rfl) (by kernel_rfl) (by kernel_rfl) (by kernel_rfl) (envS_ok (envS_ok (envS_ok envN_ok (c_sign_great F)) (c_strings_Builder_WriteRune F)) (c_strings_Builder_String F)) hm (by kernel_rfl) (fun x r h => ⟨F, (t_sign_Fold x F).trans h⟩)
theorem mo_sign_Fold_l0 {F F' : Nat} (h : F ≤ F') : ∀ v, Le (M_sign_Fold_l0 F v) (M_sign_Fold_l0 F' v) := by
  intro v
  unfold M_sign_Fold_l0
  repeat (first | (intro v) | exact Le.refl _ | exact h | exact mo_sign_great h _ | exact mo_strings_Builder_WriteRune h _ | exact mo_strings_Builder_String h _ | apply Le.bind | apply Le.ite | apply Le.loop | apply Le.sumC)
theorem mo_sign_Fold {F F' : Nat} (h : F ≤ F') : ∀ v, Le (M_sign_Fold F v) (M_sign_Fold F' v) := by
  intro v
  unfold M_sign_Fold
  repeat (first | (intro v) | exact Le.refl _ | exact h | exact mo_sign_great h _ | exact mo_strings_Builder_WriteRune h _ | exact mo_strings_Builder_String h _ | exact mo_sign_Fold_l0 h | exact mo_sign_Fold_l0 h _ | apply Le.bind | apply Le.ite | apply Le.loop | apply Le.sumC)
noncomputable def s_slices_Index_int_int : Spec Kd := { params := [(.a (.slc .i64)), (.a (.int .i64))], ret := (.one (.a (.int .i64))), pins := [], pl := { nt := 19, loops := [(0, ⟨[.tmp 0 (.a (.slc .i64)), .tmp 1 (.a (.int .i64)), .tmp 7 (.a (.int .i64)), .tmp 8 (.a (.int .i64))], [], []⟩, (.exit 0, ⟨[], [], []⟩), [(.ret, ⟨[.tmp 4 (.a (.int .i64))], [], []⟩)])] }, rfrz := [], ts := [4] }
noncomputable def e_slices_Index_int_int (F : Nat) : Env El := envN
/-- slices.Index[[]int,int] -/
noncomputable def M_slices_Index_int_int_l0 (F : Nat) (v0 : (List Int × Int × Int × Int × Unit)) : Option ((List Int × Int × Int × Int × Unit) ⊕ (Unit ⊕ Int × Unit)) :=
  if decide (v0.2.2.2.1 < v0.2.2.1) = true then
          (idx v0.1 v0.2.2.2.1).bind fun v1 =>
            if decide (v0.2.1 = v1) = true then some (Sum.inr (Sum.inr (v0.2.2.2.1, ())))
            else some (Sum.inl (v0.1, v0.2.1, v0.2.2.1, IntKind.i64.wrap (v0.2.2.2.1 + 1), ()))
        else some (Sum.inr (Sum.inl ()))
noncomputable def M_slices_Index_int_int (F : Nat) (x : (List (El .i64)) × (Int)) : Option (Int) :=
  (loopM (M_slices_Index_int_int_l0 F)
        F (x.1, x.2, (↑x.1.length : Int), 0, ())).bind
    fun v2 => sumC v2 (fun v3 => some (-1)) fun v4 => some v4.1
theorem t_slices_Index_int_int (x : (List (El .i64)) × (Int)) (F : Nat) : fnRun TT Try.prog (e_slices_Index_int_int F) s_slices_Index_int_int (bodyOf 65) F x = M_slices_Index_int_int F x := by kernel_rfl
theorem c_slices_Index_int_int (F : Nat) : Ctr TT Try.prog 65 (conOf TT s_slices_Index_int_int (M_slices_Index_int_int F)) :=
  ctr_of (code := bodyOf 65) Try.func65 (by kernel_rfl) (by kernel_rfl) (by kernel_rfl) (by kernel_rfl) envN_ok hm (by kernel_rfl) (fun x r h => ⟨F, (t_slices_Index_int_int x F).trans h⟩)
theorem mo_slices_Index_int_int_l0 {F F' : Nat} (h : F ≤ F') : ∀ v, Le (M_slices_Index_int_int_l0 F v) (M_slices_Index_int_int_l0 F' v) := by
  intro v
  unfold M_slices_Index_int_int_l0
  repeat (first | (intro v) | exact Le.refl _ | exact h | apply Le.bind | apply Le.ite | apply Le.loop | apply Le.sumC)
theorem mo_slices_Index_int_int {F F' : Nat} (h : F ≤ F') : ∀ v, Le (M_slices_Index_int_int F v) (M_slices_Index_int_int F' v) := by
  intro v
  unfold M_slices_Index_int_int
  repeat (first | (intro v) | exact Le.refl _ | exact h | exact mo_slices_Index_int_int_l0 h | exact mo_slices_Index_int_int_l0 h _ | apply Le.bind | apply Le.ite | apply Le.loop | apply Le.sumC)
noncomputable def s_slices_Contains_int_int : Spec Kd := { params := [(.a (.slc .i64)), (.a (.int .i64))], ret := (.one (.a .bool)), pins := [], pl := { nt := 9 }, rfrz := [], ts := [4] }
noncomputable def e_slices_Contains_int_int (F : Nat) : Env El := (envS 65 (conOf TT s_slices_Index_int_int (M_slices_Index_int_int F)) envN)
/-- slices.Contains[[]int,int] -/
noncomputable def M_slices_Contains_int_int (F : Nat) (x : (List (El .i64)) × (Int)) : Option (Bool) :=
  (M_slices_Index_int_int F (x.1, x.2)).bind fun v0 => some (decide (0 ≤ v0))
theorem t_slices_Contains_int_int (x : (List (El .i64)) × (Int)) (F : Nat) : fnRun TT Try.prog (e_slices_Contains_int_int F) s_slices_Contains_int_int (bodyOf 43) F x = M_slices_Contains_int_int F x := by kernel_rfl
theorem c_slices_Contains_int_int (F : Nat) : Ctr TT Try.prog 43 (conOf TT s_slices_Contains_int_int (M_slices_Contains_int_int F)) :=
  ctr_of (code := bodyOf 43) Try.func43 (by kernel_rfl) (by kernel_rfl) (by kernel_rfl) (by kernel_rfl) (envS_ok envN_ok (c_slices_Index_int_int F)) hm (by kernel_rfl) (fun x r h => ⟨F, (t_slices_Contains_int_int x F).trans h⟩)
theorem mo_slices_Contains_int_int {F F' : Nat} (h : F ≤ F') : ∀ v, Le (M_slices_Contains_int_int F v) (M_slices_Contains_int_int F' v) := by
  intro v
  unfold M_slices_Contains_int_int
  repeat (first | (intro v) | exact Le.refl _ | exact h | exact mo_slices_Index_int_int h _ | apply Le.bind | apply Le.ite | apply Le.loop | apply Le.sumC)
noncomputable def s_sign_Only : Spec Kd := { params := [(.a .str), (.a (.slc .i64))], ret := (.one (.a .bool)), pins := [], pl := { nt := 17, loops := [(0, ⟨[.tmp 1 (.a (.slc .i64)), .tmp 8 (.a (.ptr 512 0)), .box 512 .siter], [], []⟩, (.exit 0, ⟨[], [], []⟩), [(.ret, ⟨[.tmp 4 (.a .bool)], [], []⟩)])] }, rfrz := [], ts := [4] }
noncomputable def e_sign_Only (F : Nat) : Env El := (envS 43 (conOf TT s_slices_Contains_int_int (M_slices_Contains_int_int F)) (envS 10 (conOf TT s_sign_Sort (M_sign_Sort F)) envN))
/-- concierge/sign.Only -/
noncomputable def M_sign_Only_l0 (F : Nat) (v0 : (List Int × Unit × (List UInt8 × Nat) × Unit)) : Option ((List Int × Unit × (List UInt8 × Nat) × Unit) ⊕ (Unit ⊕ Bool × Unit)) :=
  if decide (v0.2.2.1.2 < v0.2.2.1.1.length) = true then
          (M_sign_Sort F (runeAt v0.2.2.1.1 v0.2.2.1.2)).bind fun v1 =>
            (M_slices_Contains_int_int F (v0.1, v1)).bind fun v2 =>
              if (!v2) = true then some (Sum.inr (Sum.inr (false, ())))
              else some (Sum.inl (v0.1, (), (v0.2.2.1.1, v0.2.2.1.2 + runeLen v0.2.2.1.1 v0.2.2.1.2), ()))
        else some (Sum.inr (Sum.inl ()))
noncomputable def M_sign_Only (F : Nat) (x : (List UInt8) × (List (El .i64))) : Option (Bool) :=
  (loopM (M_sign_Only_l0 F)
        F (x.2, (), (x.1, 0), ())).bind
    fun v3 => sumC v3 (fun v4 => some true) fun v5 => some v5.1
theorem t_sign_Only (x : (List UInt8) × (List (El .i64))) (F : Nat) : fnRun TT Try.prog (e_sign_Only F) s_sign_Only (bodyOf 16) F x = M_sign_Only F x := by kernel_rfl
theorem c_sign_Only (F : Nat) : Ctr TT Try.prog 16 (conOf TT s_sign_Only (M_sign_Only F)) :=
  ctr_of (code := bodyOf 16) Try.func16 (by kernel_rfl) (by kernel_rfl) (by kernel_rfl) (by kernel_rfl) (envS_ok (envS_ok envN_ok (c_sign_Sort F)) (c_slices_Contains_int_int F)) hm (by kernel_rfl) (fun x r h => ⟨F, (t_sign_Only x F).trans h⟩)
theorem mo_sign_Only_l0 {F F' : Nat} (h : F ≤ F') : ∀ v, Le (M_sign_Only_l0 F v) (M_sign_Only_l0 F' v) := by
  intro v
  unfold M_sign_Only_l0
  repeat (first | (intro v) | exact Le.refl _ | exact h | exact mo_sign_Sort h _ | exact mo_slices_Contains_int_int h _ | apply Le.bind | apply Le.ite | apply Le.loop | apply Le.sumC)
theorem mo_sign_Only {F F' : Nat} (h : F ≤ F') : ∀ v, Le (M_sign_Only F v) (M_sign_Only F' v) := by
  intro v
  unfold M_sign_Only
  repeat (first | (intro v) | exact Le.refl _ | exact h | exact mo_sign_Sort h _ | exact mo_slices_Contains_int_int h _ | exact mo_sign_Only_l0 h | exact mo_sign_Only_l0 h _ | apply Le.bind | apply Le.ite | apply Le.loop | apply Le.sumC)
noncomputable def s_conciergelaw04_awake : Spec Kd := { params := [], ret := (.one (.a .bool)), pins := [], pl := { nt := 24, cuts := [(2, [(6, ⟨[.tmp 1 (.a (.slc .str)), .tmp 8 (.a .bool)], [128], []⟩), (5, ⟨[.tmp 1 (.a (.slc .str)), .tmp 13 (.a .bool)], [128], []⟩), (6, ⟨[.tmp 19 (.a .bool)], [128], []⟩), (4, ⟨[.tmp 23 (.a .bool)], [128], []⟩)])] }, rfrz := [], ts := [0] }
noncomputable def e_conciergelaw04_awake (F : Nat) : Env El := (envS 10 (conOf TT s_sign_Sort (M_sign_Sort F)) (envS 20 (conOf TT s_sign_Count (M_sign_Count F)) (envS 22 (conOf TT s_sign_Fold (M_sign_Fold F)) (envS 12 (conOf TT s_sign_Words (M_sign_Words F)) envN))))
/-- concierge/conciergelaw04.awake -/
noncomputable def M_conciergelaw04_awake (F : Nat) (x : Unit) : Option (Bool) :=
  (M_sign_Words F [32, 97, 32, 32, 98, 32]).bind fun v0 =>
    ((M_sign_Fold F [195, 132, 114, 103, 101, 114]).bind fun v1 =>
          if decide (v1 = [195, 164, 114, 103, 101, 114]) = true then (M_sign_Count F [195, 132]).bind fun v2 => some (v0, decide (v2 = 1), ())
          else some (v0, false, ())).bind
      fun v3 =>
      (if v3.2.1 = true then some (v3.1, decide ((↑v3.1.length : Int) = 2), ()) else some (v3.1, false, ())).bind fun v4 =>
        (if v4.2.1 = true then (idx v4.1 1).bind fun v5 => some (decide (v5 = [98]), ()) else some (false, ())).bind fun v6 =>
          (if v6.1 = true then (M_sign_Sort F 55).bind fun v7 => some (decide (v7 = 2), ()) else some (false, ())).bind fun v8 => some v8.1
theorem t_conciergelaw04_awake (x : Unit) (F : Nat) : fnRun TT Try.prog (e_conciergelaw04_awake F) s_conciergelaw04_awake (bodyOf 9) F x = M_conciergelaw04_awake F x := by kernel_rfl
theorem c_conciergelaw04_awake (F : Nat) : Ctr TT Try.prog 9 (conOf TT s_conciergelaw04_awake (M_conciergelaw04_awake F)) :=
  ctr_of (code := bodyOf 9) Try.func9 (by kernel_rfl) (by kernel_rfl) (by kernel_rfl) (by kernel_rfl) (envS_ok (envS_ok (envS_ok (envS_ok envN_ok (c_sign_Words F)) (c_sign_Fold F)) (c_sign_Count F)) (c_sign_Sort F)) hm (by kernel_rfl) (fun x r h => ⟨F, (t_conciergelaw04_awake x F).trans h⟩)
theorem mo_conciergelaw04_awake {F F' : Nat} (h : F ≤ F') : ∀ v, Le (M_conciergelaw04_awake F v) (M_conciergelaw04_awake F' v) := by
  intro v
  unfold M_conciergelaw04_awake
  repeat (first | (intro v) | exact Le.refl _ | exact h | exact mo_sign_Words h _ | exact mo_sign_Fold h _ | exact mo_sign_Count h _ | exact mo_sign_Sort h _ | apply Le.bind | apply Le.ite | apply Le.loop | apply Le.sumC)
noncomputable def s_conciergelaw04_SignSorts : Spec Kd := { params := [(.a (.int .i32))], ret := (.one (.a .bool)), pins := [], pl := { nt := 15, joins := [(600009, (.norm, ⟨[.tmp 0 (.a (.int .i32)), .tmp 3 (.a (.int .i64))], [], []⟩), [])] }, rfrz := [], ts := [2] }
noncomputable def e_conciergelaw04_SignSorts (F : Nat) : Env El := (envS 11 (conOf TT s_conciergeref04_Sort (M_conciergeref04_Sort F)) (envS 10 (conOf TT s_sign_Sort (M_sign_Sort F)) (envS 9 (conOf TT s_conciergelaw04_awake (M_conciergelaw04_awake F)) envN)))
/-- concierge/conciergelaw04.SignSorts -/
noncomputable def M_conciergelaw04_SignSorts (F : Nat) (x : (Int)) : Option (Bool) :=
  (M_conciergelaw04_awake F ()).bind fun v0 =>
    if (!v0) = true then some false
    else
      (if decide (IntKind.i64.wrap x < 0) = true then some (x, 0, ()) else some (x, IntKind.i64.wrap x, ())).bind fun v1 =>
        (M_sign_Sort F v1.1).bind fun v2 => (M_conciergeref04_Sort F v1.2.1).bind fun v3 => some (decide (v2 = v3))
theorem t_conciergelaw04_SignSorts (x : (Int)) (F : Nat) : fnRun TT Try.prog (e_conciergelaw04_SignSorts F) s_conciergelaw04_SignSorts (bodyOf 3) F x = M_conciergelaw04_SignSorts F x := by kernel_rfl
theorem c_conciergelaw04_SignSorts (F : Nat) : Ctr TT Try.prog 3 (conOf TT s_conciergelaw04_SignSorts (M_conciergelaw04_SignSorts F)) :=
  ctr_of (code := bodyOf 3) Try.func3 (by kernel_rfl) (by kernel_rfl) (by kernel_rfl) (by kernel_rfl) (envS_ok (envS_ok (envS_ok envN_ok (c_conciergelaw04_awake F)) (c_sign_Sort F)) (c_conciergeref04_Sort F)) hm (by kernel_rfl) (fun x r h => ⟨F, (t_conciergelaw04_SignSorts x F).trans h⟩)
theorem mo_conciergelaw04_SignSorts {F F' : Nat} (h : F ≤ F') : ∀ v, Le (M_conciergelaw04_SignSorts F v) (M_conciergelaw04_SignSorts F' v) := by
  intro v
  unfold M_conciergelaw04_SignSorts
  repeat (first | (intro v) | exact Le.refl _ | exact h | exact mo_conciergelaw04_awake h _ | exact mo_sign_Sort h _ | exact mo_conciergeref04_Sort h _ | apply Le.bind | apply Le.ite | apply Le.loop | apply Le.sumC)
noncomputable def s_conciergelaw04_SignWords : Spec Kd := { params := [(.a .str), (.a (.int .i32)), (.a (.slc .i64))], ret := (.one (.a .bool)), pins := [], pl := { nt := 105, joins := [(2100070, (.norm, ⟨[.tmp 0 (.a .str), .tmp 1 (.a (.int .i32)), .tmp 2 (.a (.slc .i64)), .tmp 10 (.a (.slc .i64)), .tmp 12 (.a (.int .i64)), .tmp 13 (.a .bool), .tmp 14 (.a (.int .i64))], [1856, 1984, 3457, 3458], []⟩), [])], loops := [(4, ⟨[.tmp 0 (.a .str), .tmp 1 (.a (.int .i32)), .tmp 2 (.a (.slc .i64)), .tmp 10 (.a (.slc .i64)), .tmp 12 (.a (.int .i64)), .tmp 13 (.a .bool), .tmp 14 (.a (.int .i64)), .tmp 15 (.a .bool), .tmp 72 (.a (.slc .i64)), .tmp 73 (.a (.int .i64)), .tmp 74 (.a (.int .i64))], [1856, 1984, 3457, 3458], []⟩, (.exit 4, ⟨[.tmp 0 (.a .str), .tmp 1 (.a (.int .i32)), .tmp 2 (.a (.slc .i64)), .tmp 10 (.a (.slc .i64)), .tmp 12 (.a (.int .i64)), .tmp 13 (.a .bool), .tmp 14 (.a (.int .i64)), .tmp 15 (.a .bool)], [1856, 1984, 3457, 3458], []⟩), []), (2, ⟨[.tmp 0 (.a .str), .tmp 1 (.a (.int .i32)), .tmp 2 (.a (.slc .i64)), .tmp 10 (.a (.slc .i64)), .tmp 12 (.a (.int .i64)), .tmp 13 (.a .bool), .tmp 14 (.a (.int .i64))], [1856, 1984, 3457, 3458], []⟩, (.exit 2, ⟨[.tmp 0 (.a .str), .tmp 1 (.a (.int .i32)), .tmp 2 (.a (.slc .i64)), .tmp 12 (.a (.int .i64)), .tmp 13 (.a .bool)], [1856, 1984, 3457, 3458], []⟩), []), (0, ⟨[.tmp 0 (.a .str), .tmp 1 (.a (.int .i32)), .tmp 2 (.a (.slc .i64)), .tmp 7 (.a (.slc .str)), .tmp 8 (.a (.slc .str)), .tmp 38 (.a (.int .i64)), .tmp 39 (.a (.int .i64))], [1856, 1984, 3457, 3458], []⟩, (.exit 0, ⟨[.tmp 0 (.a .str), .tmp 1 (.a (.int .i32)), .tmp 2 (.a (.slc .i64))], [1856, 1984, 3457, 3458], []⟩), [(.ret, ⟨[.tmp 6 (.a .bool)], [1856, 1984, 3457, 3458], []⟩)])], cuts := [(28, [(12, ⟨[.tmp 104 (.a .bool)], [1856, 1984, 3457, 3458], []⟩)]), (3, [(8, ⟨[.tmp 0 (.a .str), .tmp 1 (.a (.int .i32)), .tmp 2 (.a (.slc .i64)), .tmp 27 (.a .bool)], [1856, 1984, 3457, 3458], []⟩)])], ends := [(11, ⟨[.tmp 0 (.a .str), .tmp 1 (.a (.int .i32)), .tmp 2 (.a (.slc .i64)), .tmp 7 (.a (.slc .str)), .tmp 8 (.a (.slc .str)), .tmp 38 (.a (.int .i64)), .tmp 39 (.a (.int .i64)), .tmp 50 (.a .bool)], [1856, 1984, 3457, 3458], []⟩)] }, rfrz := [], ts := [6] }
noncomputable def e_conciergelaw04_SignWords (F : Nat) : Env El := (envS 16 (conOf TT s_sign_Only (M_sign_Only F)) (envS 15 (conOf TT s_sign_Find (M_sign_Find F)) (envS 11 (conOf TT s_conciergeref04_Sort (M_conciergeref04_Sort F)) (envS 14 (conOf TT s_conciergeref04_Signs (M_conciergeref04_Signs F)) (envS 13 (conOf TT s_conciergeref04_Words (M_conciergeref04_Words F)) (envS 12 (conOf TT s_sign_Words (M_sign_Words F)) (envS 9 (conOf TT s_conciergelaw04_awake (M_conciergelaw04_awake F)) envN)))))))
/-- concierge/conciergelaw04.SignWords -/
noncomputable def M_conciergelaw04_SignWords_l0 (F : Nat) (v4 : (List UInt8 × Int × List Int × List (List UInt8) × List (List UInt8) × Int × Int × Unit)) : Option ((List UInt8 × Int × List Int × List (List UInt8) × List (List UInt8) × Int × Int × Unit) ⊕ (List UInt8 × Int × List Int × Unit ⊕ Bool × Unit)) :=
  if decide (v4.2.2.2.2.2.2.1 < v4.2.2.2.2.2.1) = true then
                        ((idx v4.2.2.2.1 v4.2.2.2.2.2.2.1).bind fun v5 =>
                              (idx v4.2.2.2.2.1 v4.2.2.2.2.2.2.1).bind fun v6 =>
                                some (v4.1, v4.2.1, v4.2.2.1, v4.2.2.2.1, v4.2.2.2.2.1, v4.2.2.2.2.2.1, v4.2.2.2.2.2.2.1, !decide (v5 = v6), ())).bind
                          fun v7 =>
                          if v7.2.2.2.2.2.2.2.1 = true then some (Sum.inr (Sum.inr (false, ())))
                          else some (Sum.inl (v7.1, v7.2.1, v7.2.2.1, v7.2.2.2.1, v7.2.2.2.2.1, v7.2.2.2.2.2.1, IntKind.i64.wrap (v7.2.2.2.2.2.2.1 + 1), ()))
                      else some (Sum.inr (Sum.inl (v4.1, v4.2.1, v4.2.2.1, ())))
noncomputable def M_conciergelaw04_SignWords_l1 (F : Nat) (v14 : (List UInt8 × Int × List Int × List Int × Int × Bool × Int × Bool × List Int × Int × Int × Unit)) : Option ((List UInt8 × Int × List Int × List Int × Int × Bool × Int × Bool × List Int × Int × Int × Unit) ⊕ (List UInt8 × Int × List Int × List Int × Int × Bool × Int × Bool × Unit)) :=
  if decide (v14.2.2.2.2.2.2.2.2.2.2.1 < v14.2.2.2.2.2.2.2.2.2.1) = true then
                                              (idx v14.2.2.2.2.2.2.2.2.1 v14.2.2.2.2.2.2.2.2.2.2.1).bind fun v15 =>
                                                if v14.2.2.2.2.2.2.2.1 = false then
                                                  (idx v14.2.2.2.1 v14.2.2.2.2.2.2.1).bind fun v16 =>
                                                    (M_conciergeref04_Sort F v16).bind fun v17 =>
                                                      some
                                                        (Sum.inl
                                                          (v14.1, v14.2.1, v14.2.2.1, v14.2.2.2.1, v14.2.2.2.2.1, v14.2.2.2.2.2.1, v14.2.2.2.2.2.2.1,
                                                            decide (v15 = v17), v14.2.2.2.2.2.2.2.2.1, v14.2.2.2.2.2.2.2.2.2.1,
                                                            IntKind.i64.wrap (v14.2.2.2.2.2.2.2.2.2.2.1 + 1), ()))
                                                else
                                                  some
                                                    (Sum.inl
                                                      (v14.1, v14.2.1, v14.2.2.1, v14.2.2.2.1, v14.2.2.2.2.1, v14.2.2.2.2.2.1, v14.2.2.2.2.2.2.1, true,
                                                        v14.2.2.2.2.2.2.2.2.1, v14.2.2.2.2.2.2.2.2.2.1, IntKind.i64.wrap (v14.2.2.2.2.2.2.2.2.2.2.1 + 1), ()))
                                            else
                                              some
                                                (Sum.inr
                                                  (v14.1, v14.2.1, v14.2.2.1, v14.2.2.2.1, v14.2.2.2.2.1, v14.2.2.2.2.2.1, v14.2.2.2.2.2.2.1,
                                                    v14.2.2.2.2.2.2.2.1, ()))
noncomputable def M_conciergelaw04_SignWords_l2 (F : Nat) (v11 : (List UInt8 × Int × List Int × List Int × Int × Bool × Int × Unit)) : Option ((List UInt8 × Int × List Int × List Int × Int × Bool × Int × Unit) ⊕ (List UInt8 × Int × List Int × Int × Bool × Unit)) :=
  if decide (0 ≤ v11.2.2.2.2.2.2.1) = true then
                                (idx v11.2.2.2.1 v11.2.2.2.2.2.2.1).bind fun v12 =>
                                  (if decide (v12 = IntKind.i64.wrap v11.2.1) = true then
                                        some (v11.1, v11.2.1, v11.2.2.1, v11.2.2.2.1, v11.2.2.2.2.2.2.1, v11.2.2.2.2.2.1, v11.2.2.2.2.2.2.1, ())
                                      else some (v11.1, v11.2.1, v11.2.2.1, v11.2.2.2.1, v11.2.2.2.2.1, v11.2.2.2.2.2.1, v11.2.2.2.2.2.2.1, ())).bind
                                    fun v13 =>
                                    (loopM (M_conciergelaw04_SignWords_l1 F)
                                          F
                                          (v13.1, v13.2.1, v13.2.2.1, v13.2.2.2.1, v13.2.2.2.2.1, v13.2.2.2.2.2.1, v13.2.2.2.2.2.2.1, false, v13.2.2.1,
                                            (↑v13.2.2.1.length : Int), 0, ())).bind
                                      fun v18 =>
                                      if v18.2.2.2.2.2.1 = true then
                                        some
                                          (Sum.inl
                                            (v18.1, v18.2.1, v18.2.2.1, v18.2.2.2.1, v18.2.2.2.2.1, v18.2.2.2.2.2.2.2.1,
                                              IntKind.i64.wrap (v18.2.2.2.2.2.2.1 - 1), ()))
                                      else
                                        some
                                          (Sum.inl (v18.1, v18.2.1, v18.2.2.1, v18.2.2.2.1, v18.2.2.2.2.1, false, IntKind.i64.wrap (v18.2.2.2.2.2.2.1 - 1), ()))
                              else some (Sum.inr (v11.1, v11.2.1, v11.2.2.1, v11.2.2.2.2.1, v11.2.2.2.2.2.1, ()))
noncomputable def M_conciergelaw04_SignWords (F : Nat) (x : (List UInt8) × (Int) × (List (El .i64))) : Option (Bool) :=
  (M_conciergelaw04_awake F ()).bind fun v0 =>
    if (!v0) = true then some false
    else
      (if decide (100 < (↑x.1.length : Int)) = false then some (x.1, x.2.1, x.2.2, decide (5 < (↑x.2.2.length : Int)), ())
          else some (x.1, x.2.1, x.2.2, true, ())).bind
        fun v1 =>
        if v1.2.2.2.1 = true then some true
        else
          (M_sign_Words F v1.1).bind fun v2 =>
            (M_conciergeref04_Words F v1.1).bind fun v3 =>
              if (!decide ((↑v2.length : Int) = (↑v3.length : Int))) = true then some false
              else
                (loopM (M_conciergelaw04_SignWords_l0 F)
                      F (v1.1, v1.2.1, v1.2.2.1, v2, v3, (↑v2.length : Int), 0, ())).bind
                  fun v8 =>
                  sumC v8
                    (fun v9 =>
                      (M_conciergeref04_Signs F v9.1).bind fun v10 =>
                        (loopM (M_conciergelaw04_SignWords_l2 F)
                              F (v9.1, v9.2.1, v9.2.2.1, v10.1, -1, true, IntKind.i64.wrap ((↑v10.1.length : Int) - 1), ())).bind
                          fun v19 =>
                          ((M_sign_Find F (v19.1, v19.2.1)).bind fun v20 =>
                                if decide (v20 = v19.2.2.2.1) = true then (M_sign_Only F (v19.1, v19.2.2.1)).bind fun v21 => some (v21 == v19.2.2.2.2.1, ())
                                else some (false, ())).bind
                            fun v22 => some v22.1)
                    fun v23 => some v23.1
theorem t_conciergelaw04_SignWords (x : (List UInt8) × (Int) × (List (El .i64))) (F : Nat) : fnRun TT Try.prog (e_conciergelaw04_SignWords F) s_conciergelaw04_SignWords (bodyOf 4) F x = M_conciergelaw04_SignWords F x := by kernel_rfl
theorem c_conciergelaw04_SignWords (F : Nat) : Ctr TT Try.prog 4 (conOf TT s_conciergelaw04_SignWords (M_conciergelaw04_SignWords F)) :=
  ctr_of (code := bodyOf 4) Try.func4 (by kernel_rfl) (by kernel_rfl) (by kernel_rfl) (by kernel_rfl) (envS_ok (envS_ok (envS_ok (envS_ok (envS_ok (envS_ok (envS_ok envN_ok (c_conciergelaw04_awake F)) (c_sign_Words F)) (c_conciergeref04_Words F)) (c_conciergeref04_Signs F)) (c_conciergeref04_Sort F)) (c_sign_Find F)) (c_sign_Only F)) hm (by kernel_rfl) (fun x r h => ⟨F, (t_conciergelaw04_SignWords x F).trans h⟩)
theorem mo_conciergelaw04_SignWords_l0 {F F' : Nat} (h : F ≤ F') : ∀ v, Le (M_conciergelaw04_SignWords_l0 F v) (M_conciergelaw04_SignWords_l0 F' v) := by
  intro v
  unfold M_conciergelaw04_SignWords_l0
  repeat (first | (intro v) | exact Le.refl _ | exact h | exact mo_conciergelaw04_awake h _ | exact mo_sign_Words h _ | exact mo_conciergeref04_Words h _ | exact mo_conciergeref04_Signs h _ | exact mo_conciergeref04_Sort h _ | exact mo_sign_Find h _ | exact mo_sign_Only h _ | apply Le.bind | apply Le.ite | apply Le.loop | apply Le.sumC)
theorem mo_conciergelaw04_SignWords_l1 {F F' : Nat} (h : F ≤ F') : ∀ v, Le (M_conciergelaw04_SignWords_l1 F v) (M_conciergelaw04_SignWords_l1 F' v) := by
  intro v
  unfold M_conciergelaw04_SignWords_l1
  repeat (first | (intro v) | exact Le.refl _ | exact h | exact mo_conciergelaw04_awake h _ | exact mo_sign_Words h _ | exact mo_conciergeref04_Words h _ | exact mo_conciergeref04_Signs h _ | exact mo_conciergeref04_Sort h _ | exact mo_sign_Find h _ | exact mo_sign_Only h _ | exact mo_conciergelaw04_SignWords_l0 h | exact mo_conciergelaw04_SignWords_l0 h _ | apply Le.bind | apply Le.ite | apply Le.loop | apply Le.sumC)
theorem mo_conciergelaw04_SignWords_l2 {F F' : Nat} (h : F ≤ F') : ∀ v, Le (M_conciergelaw04_SignWords_l2 F v) (M_conciergelaw04_SignWords_l2 F' v) := by
  intro v
  unfold M_conciergelaw04_SignWords_l2
  repeat (first | (intro v) | exact Le.refl _ | exact h | exact mo_conciergelaw04_awake h _ | exact mo_sign_Words h _ | exact mo_conciergeref04_Words h _ | exact mo_conciergeref04_Signs h _ | exact mo_conciergeref04_Sort h _ | exact mo_sign_Find h _ | exact mo_sign_Only h _ | exact mo_conciergelaw04_SignWords_l0 h | exact mo_conciergelaw04_SignWords_l0 h _ | exact mo_conciergelaw04_SignWords_l1 h | exact mo_conciergelaw04_SignWords_l1 h _ | apply Le.bind | apply Le.ite | apply Le.loop | apply Le.sumC)
theorem mo_conciergelaw04_SignWords {F F' : Nat} (h : F ≤ F') : ∀ v, Le (M_conciergelaw04_SignWords F v) (M_conciergelaw04_SignWords F' v) := by
  intro v
  unfold M_conciergelaw04_SignWords
  repeat (first | (intro v) | exact Le.refl _ | exact h | exact mo_conciergelaw04_awake h _ | exact mo_sign_Words h _ | exact mo_conciergeref04_Words h _ | exact mo_conciergeref04_Signs h _ | exact mo_conciergeref04_Sort h _ | exact mo_sign_Find h _ | exact mo_sign_Only h _ | exact mo_conciergelaw04_SignWords_l0 h | exact mo_conciergelaw04_SignWords_l0 h _ | exact mo_conciergelaw04_SignWords_l1 h | exact mo_conciergelaw04_SignWords_l1 h _ | exact mo_conciergelaw04_SignWords_l2 h | exact mo_conciergelaw04_SignWords_l2 h _ | apply Le.bind | apply Le.ite | apply Le.loop | apply Le.sumC)
noncomputable def s_conciergelaw04_SignTexts : Spec Kd := { params := [(.a .str), (.a (.int .i64))], ret := (.one (.a .bool)), pins := [], pl := { nt := 79, joins := [(1100027, (.norm, ⟨[.tmp 0 (.a .str), .tmp 1 (.a (.int .i64)), .tmp 5 (.a (.slc .i64)), .tmp 7 (.a .str)], [1153, 1154], []⟩), []), (900025, (.norm, ⟨[.tmp 0 (.a .str), .tmp 1 (.a (.int .i64)), .tmp 5 (.a (.slc .i64)), .tmp 7 (.a .str)], [1153, 1154], []⟩), [])], loops := [(0, ⟨[.tmp 0 (.a .str), .tmp 1 (.a (.int .i64)), .tmp 5 (.a (.slc .i64)), .tmp 7 (.a .str), .tmp 8 (.a .str), .tmp 34 (.a (.slc .i64)), .tmp 35 (.a (.int .i64)), .tmp 36 (.a (.int .i64))], [1153, 1154], []⟩, (.exit 0, ⟨[.tmp 0 (.a .str), .tmp 1 (.a (.int .i64)), .tmp 5 (.a (.slc .i64)), .tmp 7 (.a .str), .tmp 8 (.a .str)], [1153, 1154], []⟩), [])], cuts := [(17, [(14, ⟨[.tmp 0 (.a .str), .tmp 1 (.a (.int .i64)), .tmp 7 (.a .str), .tmp 8 (.a .str), .tmp 58 (.a .bool)], [1153, 1154], []⟩), (7, ⟨[.tmp 0 (.a .str), .tmp 8 (.a .str), .tmp 65 (.a .bool)], [1153, 1154], []⟩), (7, ⟨[.tmp 0 (.a .str), .tmp 8 (.a .str), .tmp 72 (.a .bool)], [1153, 1154], []⟩), (6, ⟨[.tmp 78 (.a .bool)], [1153, 1154], []⟩)])] }, rfrz := [], ts := [4] }
noncomputable def e_conciergelaw04_SignTexts (F : Nat) : Env El := (envS 24 (conOf TT s_sign_Turn (M_sign_Turn F)) (envS 23 (conOf TT s_conciergeref04_Fold (M_conciergeref04_Fold F)) (envS 22 (conOf TT s_sign_Fold (M_sign_Fold F)) (envS 21 (conOf TT s_sign_Cut (M_sign_Cut F)) (envS 20 (conOf TT s_sign_Count (M_sign_Count F)) (envS 19 (conOf TT s_conciergeref04_Right (M_conciergeref04_Right F)) (envS 18 (conOf TT s_sign_Right (M_sign_Right F)) (envS 17 (conOf TT s_conciergeref04_Bytes (M_conciergeref04_Bytes F)) (envS 14 (conOf TT s_conciergeref04_Signs (M_conciergeref04_Signs F)) (envS 9 (conOf TT s_conciergelaw04_awake (M_conciergelaw04_awake F)) envN))))))))))
/-- concierge/conciergelaw04.SignTexts -/
noncomputable def M_conciergelaw04_SignTexts_l0 (F : Nat) (v6 : (List UInt8 × Int × List Int × List UInt8 × List UInt8 × List Int × Int × Int × Unit)) : Option ((List UInt8 × Int × List Int × List UInt8 × List UInt8 × List Int × Int × Int × Unit) ⊕ (List UInt8 × Int × List Int × List UInt8 × List UInt8 × Unit)) :=
  if decide (v6.2.2.2.2.2.2.2.1 < v6.2.2.2.2.2.2.1) = true then
                    (idx v6.2.2.2.2.2.1 v6.2.2.2.2.2.2.2.1).bind fun v7 =>
                      (M_conciergeref04_Bytes F v7).bind fun v8 =>
                        if decide (v8.length + v6.2.2.2.2.1.length ≤ 9223372036854775807) = true then
                          some
                            (Sum.inl
                              (v6.1, v6.2.1, v6.2.2.1, v6.2.2.2.1, v8 ++ v6.2.2.2.2.1, v6.2.2.2.2.2.1, v6.2.2.2.2.2.2.1,
                                IntKind.i64.wrap (v6.2.2.2.2.2.2.2.1 + 1), ()))
                        else none
                  else some (Sum.inr (v6.1, v6.2.1, v6.2.2.1, v6.2.2.2.1, v6.2.2.2.2.1, ()))
noncomputable def M_conciergelaw04_SignTexts (F : Nat) (x : (List UInt8) × (Int)) : Option (Bool) :=
  (M_conciergelaw04_awake F ()).bind fun v0 =>
    if (!v0) = true then some false
    else
      if decide (100 < (↑x.1.length : Int)) = true then some true
      else
        (M_conciergeref04_Signs F x.1).bind fun v1 =>
          (if decide (x.2 < (↑v1.1.length : Int)) = true then
                (if decide (0 < x.2) = true then (idx v1.2 x.2).bind fun v2 => (sub x.1 0 v2).bind fun v3 => some (x.1, x.2, v1.1, v3, ())
                    else some (x.1, x.2, v1.1, [], ())).bind
                  fun v4 => some (v4.1, v4.2.1, v4.2.2.1, v4.2.2.2.1, ())
              else some (x.1, x.2, v1.1, x.1, ())).bind
            fun v5 =>
            (loopM (M_conciergelaw04_SignTexts_l0 F)
                  F (v5.1, v5.2.1, v5.2.2.1, v5.2.2.2.1, [], v5.2.2.1, (↑v5.2.2.1.length : Int), 0, ())).bind
              fun v9 =>
              ((M_sign_Right F (v9.1, v9.2.1)).bind fun v10 =>
                    (M_conciergeref04_Right F (v9.1, v9.2.1)).bind fun v11 =>
                      if (v10 == v11) = true then
                        (M_sign_Count F v9.1).bind fun v12 => some (v9.1, v9.2.1, v9.2.2.2.1, v9.2.2.2.2.1, decide (v12 = (↑v9.2.2.1.length : Int)), ())
                      else some (v9.1, v9.2.1, v9.2.2.2.1, v9.2.2.2.2.1, false, ())).bind
                fun v13 =>
                (if v13.2.2.2.2.1 = true then (M_sign_Cut F (v13.1, v13.2.1)).bind fun v14 => some (v13.1, v13.2.2.2.1, decide (v14 = v13.2.2.1), ())
                    else some (v13.1, v13.2.2.2.1, false, ())).bind
                  fun v15 =>
                  (if v15.2.2.1 = true then
                        (M_sign_Fold F v15.1).bind fun v16 => (M_conciergeref04_Fold F v15.1).bind fun v17 => some (v15.1, v15.2.1, decide (v16 = v17), ())
                      else some (v15.1, v15.2.1, false, ())).bind
                    fun v18 =>
                    (if v18.2.2.1 = true then (M_sign_Turn F v18.1).bind fun v19 => some (decide (v19 = v18.2.1), ()) else some (false, ())).bind fun v20 =>
                      some v20.1
theorem t_conciergelaw04_SignTexts (x : (List UInt8) × (Int)) (F : Nat) : fnRun TT Try.prog (e_conciergelaw04_SignTexts F) s_conciergelaw04_SignTexts (bodyOf 5) F x = M_conciergelaw04_SignTexts F x := by kernel_rfl
theorem c_conciergelaw04_SignTexts (F : Nat) : Ctr TT Try.prog 5 (conOf TT s_conciergelaw04_SignTexts (M_conciergelaw04_SignTexts F)) :=
  ctr_of (code := bodyOf 5) Try.func5 (by kernel_rfl) (by kernel_rfl) (by kernel_rfl) (by kernel_rfl) (envS_ok (envS_ok (envS_ok (envS_ok (envS_ok (envS_ok (envS_ok (envS_ok (envS_ok (envS_ok envN_ok (c_conciergelaw04_awake F)) (c_conciergeref04_Signs F)) (c_conciergeref04_Bytes F)) (c_sign_Right F)) (c_conciergeref04_Right F)) (c_sign_Count F)) (c_sign_Cut F)) (c_sign_Fold F)) (c_conciergeref04_Fold F)) (c_sign_Turn F)) hm (by kernel_rfl) (fun x r h => ⟨F, (t_conciergelaw04_SignTexts x F).trans h⟩)
theorem mo_conciergelaw04_SignTexts_l0 {F F' : Nat} (h : F ≤ F') : ∀ v, Le (M_conciergelaw04_SignTexts_l0 F v) (M_conciergelaw04_SignTexts_l0 F' v) := by
  intro v
  unfold M_conciergelaw04_SignTexts_l0
  repeat (first | (intro v) | exact Le.refl _ | exact h | exact mo_conciergelaw04_awake h _ | exact mo_conciergeref04_Signs h _ | exact mo_conciergeref04_Bytes h _ | exact mo_sign_Right h _ | exact mo_conciergeref04_Right h _ | exact mo_sign_Count h _ | exact mo_sign_Cut h _ | exact mo_sign_Fold h _ | exact mo_conciergeref04_Fold h _ | exact mo_sign_Turn h _ | apply Le.bind | apply Le.ite | apply Le.loop | apply Le.sumC)
theorem mo_conciergelaw04_SignTexts {F F' : Nat} (h : F ≤ F') : ∀ v, Le (M_conciergelaw04_SignTexts F v) (M_conciergelaw04_SignTexts F' v) := by
  intro v
  unfold M_conciergelaw04_SignTexts
  repeat (first | (intro v) | exact Le.refl _ | exact h | exact mo_conciergelaw04_awake h _ | exact mo_conciergeref04_Signs h _ | exact mo_conciergeref04_Bytes h _ | exact mo_sign_Right h _ | exact mo_conciergeref04_Right h _ | exact mo_sign_Count h _ | exact mo_sign_Cut h _ | exact mo_sign_Fold h _ | exact mo_conciergeref04_Fold h _ | exact mo_sign_Turn h _ | exact mo_conciergelaw04_SignTexts_l0 h | exact mo_conciergelaw04_SignTexts_l0 h _ | apply Le.bind | apply Le.ite | apply Le.loop | apply Le.sumC)

end Go.Vm
