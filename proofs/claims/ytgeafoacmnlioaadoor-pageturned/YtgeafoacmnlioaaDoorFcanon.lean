/- Models of functions of the program, and that each keeps its contract: for all arguments of its shape. No condition. -/
import Derived.Test.YtgeafoacmnlioaaDoorKt
import Derived.Test.YtgeafoacmnlioaaDoorFsort
import Derived.Test.YtgeafoacmnlioaaDoorFbld
namespace Go.Vm
open Go.Proofs
set_option linter.unusedVariables false
noncomputable def s_canon_letter : Spec Kd := { params := [(.a (.int .u8))], ret := (.tup [(.a (.int .u8)), (.a .bool)]), pins := [], pl := { nt := 19, joins := [(300009, (.norm, ⟨[.tmp 0 (.a (.int .u8))], [], []⟩), [])], cuts := [(3, [(7, ⟨[.tmp 12 (.a (.int .u8)), .tmp 18 (.a .bool)], [], []⟩)]), (1, [(6, ⟨[.tmp 0 (.a (.int .u8)), .tmp 9 (.a .bool)], [], []⟩)])] }, rfrz := [], ts := [2, 3] }
noncomputable def e_canon_letter (F : Nat) : Env El := envN
noncomputable def M_canon_letter (F : Nat) (x : (Int)) : Option ((Int) × (Bool)) :=
  (if decide (97 ≤ x) = true then some (x, decide (x ≤ 122), ()) else some (x, false, ())).bind fun v0 =>
    (if v0.2.1 = true then some (IntKind.u8.wrap (v0.1 - 32), ()) else some (v0.1, ())).bind fun v1 =>
      (if decide (65 ≤ v1.1) = true then some (v1.1, decide (v1.1 ≤ 90), ()) else some (v1.1, false, ())).bind fun v2 => some (v2.1, v2.2.1)
theorem t_canon_letter (x : (Int)) (F : Nat) : fnRun TT Tryd.prog (e_canon_letter F) s_canon_letter (bodyOf 138) F x = M_canon_letter F x := by kernel_rfl
theorem c_canon_letter (F : Nat) : Ctr TT Tryd.prog 138 (conOf TT s_canon_letter (M_canon_letter F)) :=
  ctr_of (code := bodyOf 138) Tryd.func138 (by kernel_rfl) (by kernel_rfl) (by kernel_rfl) (by kernel_rfl) envN_ok hm (by kernel_rfl) (fun x r h => ⟨F, (t_canon_letter x F).trans h⟩)
theorem mo_canon_letter {F F' : Nat} (h : F ≤ F') : ∀ v, Le (M_canon_letter F v) (M_canon_letter F' v) := by
  intro v
  unfold M_canon_letter
  with_reducible repeat (first | (intro v) | exact Le.refl _ | exact h | apply Le.bind | apply Le.ite | apply Le.loop | apply Le.sumC)
noncomputable def s_canon_Method : Spec Kd := { params := [(.a .str)], ret := (.tup [(.a .str), (.a .bool)]), pins := [], pl := { nt := 33, loops := [(0, ⟨[.tmp 0 (.a .str), .tmp 4 (.a (.ptr 256 0)), .tmp 16 (.a (.int .i64)), .tmp 17 (.a (.int .i64)), .box 256 (.cells 115 [(.argp 256), (.rowp 1016385)]), .box 1016385 (.row 5 .u8)], [], [.cellSelf 256 0, .cellRow 256 1 1016385 5 .u8]⟩, (.exit 0, ⟨[.tmp 4 (.a (.ptr 256 0)), .box 256 (.cells 115 [(.argp 256), (.rowp 1016385)]), .box 1016385 (.row 5 .u8)], [], [.cellSelf 256 0, .cellRow 256 1 1016385 5 .u8]⟩), [(.ret, ⟨[.tmp 2 (.a .str), .tmp 3 (.a .bool)], [], []⟩)])], cuts := [(1, [(7, ⟨[.tmp 0 (.a .str), .tmp 14 (.a .bool)], [], []⟩)])] }, rfrz := [], ts := [2, 3] }
noncomputable def e_canon_Method (F : Nat) : Env El := (envS 82 (conOf TT s_strings_Builder_String (M_strings_Builder_String F)) (envS 139 (conOf TT s_strings_Builder_WriteByte (M_strings_Builder_WriteByte F)) (envS 138 (conOf TT s_canon_letter (M_canon_letter F)) envN)))
noncomputable def M_canon_Method_l0 (F : Nat) (v1 : (List UInt8 × Unit × Int × Int × (Unit × Unit × Unit) × List UInt8 × Unit)) : Option ((List UInt8 × Unit × Int × Int × (Unit × Unit × Unit) × List UInt8 × Unit) ⊕ (Unit × (Unit × Unit × Unit) × List UInt8 × Unit ⊕ List UInt8 × Bool × Unit)) :=
  if decide (v1.2.2.2.1 < v1.2.2.1) = true then
              (idx v1.1 v1.2.2.2.1).bind fun v2 =>
                (M_canon_letter F (↑v2.toNat : Int)).bind fun v3 =>
                  if (!v3.2) = true then some (Sum.inr (Sum.inr ([], false, ())))
                  else
                    (M_strings_Builder_WriteByte F (((), v1.2.2.2.2.2.1, ()), v3.1)).bind fun v4 =>
                      some (Sum.inl (v1.1, (), v1.2.2.1, IntKind.i64.wrap (v1.2.2.2.1 + 1), ((), (), ()), v4.2.2.1, ()))
            else some (Sum.inr (Sum.inl ((), ((), (), ()), v1.2.2.2.2.2.1, ())))
noncomputable def M_canon_Method (F : Nat) (x : (List UInt8)) : Option ((List UInt8) × (Bool)) :=
  (if decide (x = []) = false then some (x, decide (8 < (↑x.length : Int)), ()) else some (x, true, ())).bind fun v0 =>
    if v0.2.1 = true then some ([], false)
    else
      (loopM (M_canon_Method_l0 F)
            F (v0.1, (), (↑v0.1.length : Int), 0, ((), (), ()), [], ())).bind
        fun v5 => sumC v5 (fun v6 => (M_strings_Builder_String F ((), v6.2.2.1, ())).bind fun v7 => some (v7.1, true)) fun v8 => some (v8.1, v8.2.1)
theorem t_canon_Method (x : (List UInt8)) (F : Nat) : fnRun TT Tryd.prog (e_canon_Method F) s_canon_Method (bodyOf 111) F x = M_canon_Method F x := by kernel_rfl
theorem c_canon_Method (F : Nat) : Ctr TT Tryd.prog 111 (conOf TT s_canon_Method (M_canon_Method F)) :=
  ctr_of (code := bodyOf 111) Tryd.func111 (by kernel_rfl) (by kernel_rfl) (by kernel_rfl) (by kernel_rfl) (envS_ok (envS_ok (envS_ok envN_ok (c_canon_letter F)) (c_strings_Builder_WriteByte F)) (c_strings_Builder_String F)) hm (by kernel_rfl) (fun x r h => ⟨F, (t_canon_Method x F).trans h⟩)
theorem mo_canon_Method_l0 {F F' : Nat} (h : F ≤ F') : ∀ v, Le (M_canon_Method_l0 F v) (M_canon_Method_l0 F' v) := by
  intro v
  unfold M_canon_Method_l0
  with_reducible repeat (first | (intro v) | exact Le.refl _ | exact h | exact mo_canon_letter h _ | exact mo_strings_Builder_WriteByte h _ | exact mo_strings_Builder_String h _ | apply Le.bind | apply Le.ite | apply Le.loop | apply Le.sumC)
theorem mo_canon_Method {F F' : Nat} (h : F ≤ F') : ∀ v, Le (M_canon_Method F v) (M_canon_Method F' v) := by
  intro v
  unfold M_canon_Method
  with_reducible repeat (first | (intro v) | exact Le.refl _ | exact h | exact mo_canon_letter h _ | exact mo_strings_Builder_WriteByte h _ | exact mo_strings_Builder_String h _ | exact mo_canon_Method_l0 h | exact mo_canon_Method_l0 h _ | apply Le.bind | apply Le.ite | apply Le.loop | apply Le.sumC)
noncomputable def s_canon_Key : Spec Kd := { params := [(.a .str)], ret := (.one (.a .bool)), pins := [], pl := { nt := 38, loops := [(0, ⟨[.tmp 14 (.a (.ptr 896 0)), .box 896 .siter], [], []⟩, (.exit 0, ⟨[], [], []⟩), [(.ret, ⟨[.tmp 2 (.a .bool)], [], []⟩)])], cuts := [(9, [(6, ⟨[.tmp 4 (.a (.int .i32)), .tmp 14 (.a (.ptr 896 0)), .tmp 33 (.a .bool), .box 896 .siter], [], []⟩), (4, ⟨[.tmp 14 (.a (.ptr 896 0)), .tmp 37 (.a .bool), .box 896 .siter], [], []⟩)]), (8, [(6, ⟨[.tmp 4 (.a (.int .i32)), .tmp 14 (.a (.ptr 896 0)), .tmp 26 (.a .bool), .box 896 .siter], [], []⟩)]), (1, [(7, ⟨[.tmp 0 (.a .str), .tmp 12 (.a .bool)], [], []⟩)])] }, rfrz := [], ts := [2] }
noncomputable def e_canon_Key (F : Nat) : Env El := (envS 91 (conOf TT s_sign_Sort (M_sign_Sort F)) envN)
noncomputable def M_canon_Key_l0 (F : Nat) (v1 : (Unit × (List UInt8 × Nat) × Unit)) : Option ((Unit × (List UInt8 × Nat) × Unit) ⊕ (Unit ⊕ Bool × Unit)) :=
  if decide (v1.2.1.2 < v1.2.1.1.length) = true then
              (M_sign_Sort F (runeAt v1.2.1.1 v1.2.1.2)).bind fun v2 =>
                (if decide (v2 = 2) = false then some (runeAt v1.2.1.1 v1.2.1.2, (), decide (v2 = 3), (v1.2.1.1, v1.2.1.2 + runeLen v1.2.1.1 v1.2.1.2), ())
                    else some (runeAt v1.2.1.1 v1.2.1.2, (), true, (v1.2.1.1, v1.2.1.2 + runeLen v1.2.1.1 v1.2.1.2), ())).bind
                  fun v3 =>
                  if v3.2.2.1 = true then some (Sum.inl ((), v3.2.2.2.1, ()))
                  else
                    (if decide (v3.1 = 45) = false then some (v3.1, (), decide (v3.1 = 95), v3.2.2.2.1, ()) else some (v3.1, (), true, v3.2.2.2.1, ())).bind
                      fun v4 =>
                      (if v4.2.2.1 = false then some ((), decide (v4.1 = 46), v4.2.2.2.1, ()) else some ((), true, v4.2.2.2.1, ())).bind fun v5 =>
                        if v5.2.1 = true then some (Sum.inl ((), v5.2.2.1, ())) else some (Sum.inr (Sum.inr (false, ())))
            else some (Sum.inr (Sum.inl ()))
noncomputable def M_canon_Key (F : Nat) (x : (List UInt8)) : Option (Bool) :=
  (if decide (x = []) = false then some (x, decide (24 < (↑x.length : Int)), ()) else some (x, true, ())).bind fun v0 =>
    if v0.2.1 = true then some false
    else
      (loopM (M_canon_Key_l0 F)
            F ((), (v0.1, 0), ())).bind
        fun v6 => sumC v6 (fun v7 => some true) fun v8 => some v8.1
theorem t_canon_Key (x : (List UInt8)) (F : Nat) : fnRun TT Tryd.prog (e_canon_Key F) s_canon_Key (bodyOf 67) F x = M_canon_Key F x := by kernel_rfl
theorem c_canon_Key (F : Nat) : Ctr TT Tryd.prog 67 (conOf TT s_canon_Key (M_canon_Key F)) :=
  ctr_of (code := bodyOf 67) Tryd.func67 (by kernel_rfl) (by kernel_rfl) (by kernel_rfl) (by kernel_rfl) (envS_ok envN_ok (c_sign_Sort F)) hm (by kernel_rfl) (fun x r h => ⟨F, (t_canon_Key x F).trans h⟩)
theorem mo_canon_Key_l0 {F F' : Nat} (h : F ≤ F') : ∀ v, Le (M_canon_Key_l0 F v) (M_canon_Key_l0 F' v) := by
  intro v
  unfold M_canon_Key_l0
  with_reducible repeat (first | (intro v) | exact Le.refl _ | exact h | exact mo_sign_Sort h _ | apply Le.bind | apply Le.ite | apply Le.loop | apply Le.sumC)
theorem mo_canon_Key {F F' : Nat} (h : F ≤ F') : ∀ v, Le (M_canon_Key F v) (M_canon_Key F' v) := by
  intro v
  unfold M_canon_Key
  with_reducible repeat (first | (intro v) | exact Le.refl _ | exact h | exact mo_sign_Sort h _ | exact mo_canon_Key_l0 h | exact mo_canon_Key_l0 h _ | apply Le.bind | apply Le.ite | apply Le.loop | apply Le.sumC)
noncomputable def s_canon_digit : Spec Kd := { params := [(.a (.int .u8))], ret := (.one (.a (.int .i64))), pins := [], pl := { nt := 14, joins := [(400010, (.norm, ⟨[.tmp 0 (.a (.int .u8))], [], []⟩), [])] }, rfrz := [], ts := [2] }
noncomputable def e_canon_digit (F : Nat) : Env El := (envS 61 (conOf TT s_strings_IndexByte (M_strings_IndexByte F)) (envS 138 (conOf TT s_canon_letter (M_canon_letter F)) envN))
noncomputable def M_canon_digit (F : Nat) (x : (Int)) : Option (Int) :=
  (M_canon_letter F x).bind fun v0 =>
    (if v0.2 = true then some (v0.1, ()) else some (x, ())).bind fun v1 =>
      (M_strings_IndexByte F ([48, 49, 50, 51, 52, 53, 54, 55, 56, 57, 65, 66, 67, 68, 69, 70], v1.1)).bind fun v2 => some v2
theorem t_canon_digit (x : (Int)) (F : Nat) : fnRun TT Tryd.prog (e_canon_digit F) s_canon_digit (bodyOf 162) F x = M_canon_digit F x := by kernel_rfl
theorem c_canon_digit (F : Nat) : Ctr TT Tryd.prog 162 (conOf TT s_canon_digit (M_canon_digit F)) :=
  ctr_of (code := bodyOf 162) Tryd.func162 (by kernel_rfl) (by kernel_rfl) (by kernel_rfl) (by kernel_rfl) (envS_ok (envS_ok envN_ok (c_canon_letter F)) (c_strings_IndexByte F)) hm (by kernel_rfl) (fun x r h => ⟨F, (t_canon_digit x F).trans h⟩)
theorem mo_canon_digit {F F' : Nat} (h : F ≤ F') : ∀ v, Le (M_canon_digit F v) (M_canon_digit F' v) := by
  intro v
  unfold M_canon_digit
  with_reducible repeat (first | (intro v) | exact Le.refl _ | exact h | exact mo_canon_letter h _ | exact mo_strings_IndexByte h _ | apply Le.bind | apply Le.ite | apply Le.loop | apply Le.sumC)
noncomputable def s_canon_read : Spec Kd := { params := [(.a .str)], ret := (.tup [(.a .str), (.a .bool)]), pins := [], pl := { nt := 66, bjoins := [(1, (.norm, ⟨[.tmp 0 (.a .str), .tmp 4 (.a (.ptr 256 0)), .tmp 5 (.a (.int .i64)), .box 256 (.cells 115 [(.argp 256), (.rowp 1016385)]), .box 1016385 (.row 5 .u8)], [], [.cellSelf 256 0, .cellRow 256 1 1016385 5 .u8]⟩), [(.ret, ⟨[.tmp 2 (.a .str), .tmp 3 (.a .bool)], [], []⟩)])], loops := [(0, ⟨[.tmp 0 (.a .str), .tmp 4 (.a (.ptr 256 0)), .tmp 5 (.a (.int .i64)), .box 256 (.cells 115 [(.argp 256), (.rowp 1016385)]), .box 1016385 (.row 5 .u8)], [], [.cellSelf 256 0, .cellRow 256 1 1016385 5 .u8]⟩, (.exit 0, ⟨[.tmp 4 (.a (.ptr 256 0)), .box 256 (.cells 115 [(.argp 256), (.rowp 1016385)]), .box 1016385 (.row 5 .u8)], [], [.cellSelf 256 0, .cellRow 256 1 1016385 5 .u8]⟩), [(.ret, ⟨[.tmp 2 (.a .str), .tmp 3 (.a .bool)], [], []⟩)])], cuts := [(12, [(7, ⟨[.tmp 59 (.a .str), .tmp 65 (.a .bool)], [], []⟩)]), (7, [(13, ⟨[.tmp 0 (.a .str), .tmp 4 (.a (.ptr 256 0)), .tmp 5 (.a (.int .i64)), .tmp 33 (.a .bool), .box 256 (.cells 115 [(.argp 256), (.rowp 1016385)]), .box 1016385 (.row 5 .u8)], [], [.cellSelf 256 0, .cellRow 256 1 1016385 5 .u8]⟩), (8, ⟨[.tmp 0 (.a .str), .tmp 4 (.a (.ptr 256 0)), .tmp 5 (.a (.int .i64)), .tmp 41 (.a .bool), .box 256 (.cells 115 [(.argp 256), (.rowp 1016385)]), .box 1016385 (.row 5 .u8)], [], [.cellSelf 256 0, .cellRow 256 1 1016385 5 .u8]⟩)])], ends := [(9, ⟨[.tmp 0 (.a .str), .tmp 4 (.a (.ptr 256 0)), .tmp 5 (.a (.int .i64)), .box 256 (.cells 115 [(.argp 256), (.rowp 1016385)]), .box 1016385 (.row 5 .u8)], [], [.cellSelf 256 0, .cellRow 256 1 1016385 5 .u8]⟩)] }, rfrz := [], ts := [2, 3] }
noncomputable def e_canon_read (F : Nat) : Env El := (envS 163 (conOf TT s_sign_Right (M_sign_Right F)) (envS 82 (conOf TT s_strings_Builder_String (M_strings_Builder_String F)) (envS 162 (conOf TT s_canon_digit (M_canon_digit F)) (envS 139 (conOf TT s_strings_Builder_WriteByte (M_strings_Builder_WriteByte F)) envN))))
noncomputable def M_canon_read_l0 (F : Nat) (v0 : (List UInt8 × Unit × Int × (Unit × Unit × Unit) × List UInt8 × Unit)) : Option ((List UInt8 × Unit × Int × (Unit × Unit × Unit) × List UInt8 × Unit) ⊕ (Unit × (Unit × Unit × Unit) × List UInt8 × Unit ⊕ List UInt8 × Bool × Unit)) :=
  if decide (v0.2.2.1 < (↑v0.1.length : Int)) = true then
          ((idx v0.1 v0.2.2.1).bind fun v1 =>
                if (!decide ((↑v1.toNat : Int) = 37)) = true then
                  (idx v0.1 v0.2.2.1).bind fun v2 =>
                    (M_strings_Builder_WriteByte F (((), v0.2.2.2.2.1, ()), (↑v2.toNat : Int))).bind fun v3 =>
                      some (Sum.inl (v0.1, (), v0.2.2.1, ((), (), ()), v3.2.2.1, ()))
                else
                  (if decide ((↑v0.1.length : Int) ≤ IntKind.i64.wrap (v0.2.2.1 + 2)) = false then
                        (idx v0.1 (IntKind.i64.wrap (v0.2.2.1 + 1))).bind fun v4 =>
                          (M_canon_digit F (↑v4.toNat : Int)).bind fun v5 => some (v0.1, (), v0.2.2.1, decide (v5 < 0), ((), (), ()), v0.2.2.2.2.1, ())
                      else some (v0.1, (), v0.2.2.1, true, ((), (), ()), v0.2.2.2.2.1, ())).bind
                    fun v6 =>
                    (if v6.2.2.2.1 = false then
                          (idx v6.1 (IntKind.i64.wrap (v6.2.2.1 + 2))).bind fun v7 =>
                            (M_canon_digit F (↑v7.toNat : Int)).bind fun v8 => some (v6.1, (), v6.2.2.1, decide (v8 < 0), ((), (), ()), v6.2.2.2.2.2.1, ())
                        else some (v6.1, (), v6.2.2.1, true, ((), (), ()), v6.2.2.2.2.2.1, ())).bind
                      fun v9 =>
                      if v9.2.2.2.1 = true then some (Sum.inr ([], false, ()))
                      else
                        ((idx v9.1 (IntKind.i64.wrap (v9.2.2.1 + 1))).bind fun v10 =>
                              (M_canon_digit F (↑v10.toNat : Int)).bind fun v11 =>
                                (idx v9.1 (IntKind.i64.wrap (v9.2.2.1 + 2))).bind fun v12 =>
                                  (M_canon_digit F (↑v12.toNat : Int)).bind fun v13 =>
                                    (M_strings_Builder_WriteByte F
                                          (((), v9.2.2.2.2.2.1, ()), IntKind.u8.wrap (ior IntKind.i64 (shl IntKind.i64 v11 4) v13))).bind
                                      fun v14 => some (v9.1, (), v9.2.2.1, ((), (), ()), v14.2.2.1, ())).bind
                          fun v15 => some (Sum.inl (v15.1, (), IntKind.i64.wrap (v15.2.2.1 + 2), ((), (), ()), v15.2.2.2.2.1, ()))).bind
            fun v16 =>
            sumC v16 (fun v17 => some (Sum.inl (v17.1, (), IntKind.i64.wrap (v17.2.2.1 + 1), ((), (), ()), v17.2.2.2.2.1, ()))) fun v18 =>
              some (Sum.inr (Sum.inr (v18.1, v18.2.1, ())))
        else some (Sum.inr (Sum.inl ((), ((), (), ()), v0.2.2.2.2.1, ())))
noncomputable def M_canon_read (F : Nat) (x : (List UInt8)) : Option ((List UInt8) × (Bool)) :=
  (loopM (M_canon_read_l0 F)
        F (x, (), 0, ((), (), ()), [], ())).bind
    fun v19 =>
    sumC v19
      (fun v20 =>
        (M_strings_Builder_String F ((), v20.2.2.1, ())).bind fun v21 =>
          (if decide (v21.1 = []) = false then (M_sign_Right F (v21.1, 60)).bind fun v22 => some (v21.1, v22, ()) else some (v21.1, true, ())).bind fun v23 =>
            some (v23.1, v23.2.1))
      fun v24 => some (v24.1, v24.2.1)
theorem t_canon_read (x : (List UInt8)) (F : Nat) : fnRun TT Tryd.prog (e_canon_read F) s_canon_read (bodyOf 152) F x = M_canon_read F x := by kernel_rfl
theorem c_canon_read (F : Nat) : Ctr TT Tryd.prog 152 (conOf TT s_canon_read (M_canon_read F)) :=
  ctr_of (code := bodyOf 152) Tryd.func152 (by kernel_rfl) (by kernel_rfl) (by kernel_rfl) (by kernel_rfl) (envS_ok (envS_ok (envS_ok (envS_ok envN_ok (c_strings_Builder_WriteByte F)) (c_canon_digit F)) (c_strings_Builder_String F)) (c_sign_Right F)) hm (by kernel_rfl) (fun x r h => ⟨F, (t_canon_read x F).trans h⟩)
theorem mo_canon_read_l0 {F F' : Nat} (h : F ≤ F') : ∀ v, Le (M_canon_read_l0 F v) (M_canon_read_l0 F' v) := by
  intro v
  unfold M_canon_read_l0
  with_reducible repeat (first | (intro v) | exact Le.refl _ | exact h | exact mo_strings_Builder_WriteByte h _ | exact mo_canon_digit h _ | exact mo_strings_Builder_String h _ | exact mo_sign_Right h _ | apply Le.bind | apply Le.ite | apply Le.loop | apply Le.sumC)
theorem mo_canon_read {F F' : Nat} (h : F ≤ F') : ∀ v, Le (M_canon_read F v) (M_canon_read F' v) := by
  intro v
  unfold M_canon_read
  with_reducible repeat (first | (intro v) | exact Le.refl _ | exact h | exact mo_strings_Builder_WriteByte h _ | exact mo_canon_digit h _ | exact mo_strings_Builder_String h _ | exact mo_sign_Right h _ | exact mo_canon_read_l0 h | exact mo_canon_read_l0 h _ | apply Le.bind | apply Le.ite | apply Le.loop | apply Le.sumC)
noncomputable def s_canon_plain : Spec Kd := { params := [(.a (.int .u8))], ret := (.one (.a .bool)), pins := [], pl := { nt := 24, cuts := [(2, [(9, ⟨[.tmp 0 (.a (.int .u8)), .tmp 18 (.a .bool)], [], []⟩), (5, ⟨[.tmp 23 (.a .bool)], [], []⟩)])] }, rfrz := [], ts := [2] }
noncomputable def e_canon_plain (F : Nat) : Env El := (envS 61 (conOf TT s_strings_IndexByte (M_strings_IndexByte F)) (envS 138 (conOf TT s_canon_letter (M_canon_letter F)) envN))
noncomputable def M_canon_plain (F : Nat) (x : (Int)) : Option (Bool) :=
  (M_canon_letter F x).bind fun v0 =>
    (if v0.2 = false then if decide (48 ≤ x) = true then some (x, decide (x ≤ 57), ()) else some (x, false, ()) else some (x, true, ())).bind fun v1 =>
      (if v1.2.1 = false then (M_strings_IndexByte F ([45, 46, 95, 126], v1.1)).bind fun v2 => some (decide (0 ≤ v2), ()) else some (true, ())).bind fun v3 =>
        some v3.1
theorem t_canon_plain (x : (Int)) (F : Nat) : fnRun TT Tryd.prog (e_canon_plain F) s_canon_plain (bodyOf 153) F x = M_canon_plain F x := by kernel_rfl
theorem c_canon_plain (F : Nat) : Ctr TT Tryd.prog 153 (conOf TT s_canon_plain (M_canon_plain F)) :=
  ctr_of (code := bodyOf 153) Tryd.func153 (by kernel_rfl) (by kernel_rfl) (by kernel_rfl) (by kernel_rfl) (envS_ok (envS_ok envN_ok (c_canon_letter F)) (c_strings_IndexByte F)) hm (by kernel_rfl) (fun x r h => ⟨F, (t_canon_plain x F).trans h⟩)
theorem mo_canon_plain {F F' : Nat} (h : F ≤ F') : ∀ v, Le (M_canon_plain F v) (M_canon_plain F' v) := by
  intro v
  unfold M_canon_plain
  with_reducible repeat (first | (intro v) | exact Le.refl _ | exact h | exact mo_canon_letter h _ | exact mo_strings_IndexByte h _ | apply Le.bind | apply Le.ite | apply Le.loop | apply Le.sumC)
noncomputable def s_canon_write : Spec Kd := { params := [(.a .str)], ret := (.one (.a .str)), pins := [], pl := { nt := 33, bjoins := [(1, (.norm, ⟨[.tmp 0 (.a .str), .tmp 3 (.a (.ptr 192 0)), .tmp 6 (.a (.int .i64)), .tmp 7 (.a (.int .i64)), .box 192 (.cells 115 [(.argp 192), (.rowp 1012289)]), .box 1012289 (.row 5 .u8)], [], [.cellSelf 192 0, .cellRow 192 1 1012289 5 .u8]⟩), [])], loops := [(0, ⟨[.tmp 0 (.a .str), .tmp 3 (.a (.ptr 192 0)), .tmp 6 (.a (.int .i64)), .tmp 7 (.a (.int .i64)), .box 192 (.cells 115 [(.argp 192), (.rowp 1012289)]), .box 1012289 (.row 5 .u8)], [], [.cellSelf 192 0, .cellRow 192 1 1012289 5 .u8]⟩, (.exit 0, ⟨[.tmp 3 (.a (.ptr 192 0)), .box 192 (.cells 115 [(.argp 192), (.rowp 1012289)]), .box 1012289 (.row 5 .u8)], [], [.cellSelf 192 0, .cellRow 192 1 1012289 5 .u8]⟩), [])] }, rfrz := [], ts := [2] }
noncomputable def e_canon_write (F : Nat) : Env El := (envS 82 (conOf TT s_strings_Builder_String (M_strings_Builder_String F)) (envS 139 (conOf TT s_strings_Builder_WriteByte (M_strings_Builder_WriteByte F)) (envS 153 (conOf TT s_canon_plain (M_canon_plain F)) envN)))
noncomputable def M_canon_write_l0 (F : Nat) (v0 : (List UInt8 × Unit × Int × Int × (Unit × Unit × Unit) × List UInt8 × Unit)) : Option ((List UInt8 × Unit × Int × Int × (Unit × Unit × Unit) × List UInt8 × Unit) ⊕ (Unit × (Unit × Unit × Unit) × List UInt8 × Unit)) :=
  if decide (v0.2.2.2.1 < v0.2.2.1) = true then
          ((idx v0.1 v0.2.2.2.1).bind fun v1 =>
                (M_canon_plain F (↑v1.toNat : Int)).bind fun v2 =>
                  if v2 = true then
                    (idx v0.1 v0.2.2.2.1).bind fun v3 =>
                      (M_strings_Builder_WriteByte F (((), v0.2.2.2.2.2.1, ()), (↑v3.toNat : Int))).bind fun v4 =>
                        some (v0.1, (), v0.2.2.1, v0.2.2.2.1, ((), (), ()), v4.2.2.1, ())
                  else
                    (M_strings_Builder_WriteByte F (((), v0.2.2.2.2.2.1, ()), 37)).bind fun v5 =>
                      (idx v0.1 v0.2.2.2.1).bind fun v6 =>
                        (idx ([48, 49, 50, 51, 52, 53, 54, 55, 56, 57, 65, 66, 67, 68, 69, 70] : List UInt8) (shr IntKind.u8 (↑v6.toNat : Int) 4)).bind fun v7 =>
                          (M_strings_Builder_WriteByte F (((), v5.2.2.1, ()), (↑v7.toNat : Int))).bind fun v8 =>
                            (idx v0.1 v0.2.2.2.1).bind fun v9 =>
                              (idx ([48, 49, 50, 51, 52, 53, 54, 55, 56, 57, 65, 66, 67, 68, 69, 70] : List UInt8) (iand IntKind.u8 (↑v9.toNat : Int) 15)).bind fun v10 =>
                                (M_strings_Builder_WriteByte F (((), v8.2.2.1, ()), (↑v10.toNat : Int))).bind fun v11 =>
                                  some (v0.1, (), v0.2.2.1, v0.2.2.2.1, ((), (), ()), v11.2.2.1, ())).bind
            fun v12 => some (Sum.inl (v12.1, (), v12.2.2.1, IntKind.i64.wrap (v12.2.2.2.1 + 1), ((), (), ()), v12.2.2.2.2.2.1, ()))
        else some (Sum.inr ((), ((), (), ()), v0.2.2.2.2.2.1, ()))
noncomputable def M_canon_write (F : Nat) (x : (List UInt8)) : Option (List UInt8) :=
  (loopM (M_canon_write_l0 F)
        F (x, (), (↑x.length : Int), 0, ((), (), ()), [], ())).bind
    fun v13 => (M_strings_Builder_String F ((), v13.2.2.1, ())).bind fun v14 => some v14.1
theorem t_canon_write (x : (List UInt8)) (F : Nat) : fnRun TT Tryd.prog (e_canon_write F) s_canon_write (bodyOf 141) F x = M_canon_write F x := by kernel_rfl
theorem c_canon_write (F : Nat) : Ctr TT Tryd.prog 141 (conOf TT s_canon_write (M_canon_write F)) :=
  ctr_of (code := bodyOf 141) Tryd.func141 (by kernel_rfl) (by kernel_rfl) (by kernel_rfl) (by kernel_rfl) (envS_ok (envS_ok (envS_ok envN_ok (c_canon_plain F)) (c_strings_Builder_WriteByte F)) (c_strings_Builder_String F)) hm (by kernel_rfl) (fun x r h => ⟨F, (t_canon_write x F).trans h⟩)
theorem mo_canon_write_l0 {F F' : Nat} (h : F ≤ F') : ∀ v, Le (M_canon_write_l0 F v) (M_canon_write_l0 F' v) := by
  intro v
  unfold M_canon_write_l0
  with_reducible repeat (first | (intro v) | exact Le.refl _ | exact h | exact mo_canon_plain h _ | exact mo_strings_Builder_WriteByte h _ | exact mo_strings_Builder_String h _ | apply Le.bind | apply Le.ite | apply Le.loop | apply Le.sumC)
theorem mo_canon_write {F F' : Nat} (h : F ≤ F') : ∀ v, Le (M_canon_write F v) (M_canon_write F' v) := by
  intro v
  unfold M_canon_write
  with_reducible repeat (first | (intro v) | exact Le.refl _ | exact h | exact mo_canon_plain h _ | exact mo_strings_Builder_WriteByte h _ | exact mo_strings_Builder_String h _ | exact mo_canon_write_l0 h | exact mo_canon_write_l0 h _ | apply Le.bind | apply Le.ite | apply Le.loop | apply Le.sumC)
noncomputable def s_canon_parts : Spec Kd := { params := [(.a .str)], ret := (.tup [(.a (.row 9 .str)), (.a .bool)]), pins := [], pl := { nt := 43, orc := { rv := [2, 4, 24, 27, 40, 42], gv := [] }, joins := [(1200028, (.norm, ⟨[.tmp 4 (.a (.rowp 256)), .tmp 7 (.a .str), .tmp 10 (.a (.slc .str)), .tmp 11 (.a (.int .i64)), .tmp 12 (.a (.int .i64)), .tmp 23 (.a .str), .tmp 28 (.a .bool), .box 256 (.row 9 .str)], [], [.tmpRow 4 256 9 .str]⟩), [])], bjoins := [(1, (.norm, ⟨[.tmp 4 (.a (.rowp 256)), .tmp 10 (.a (.slc .str)), .tmp 11 (.a (.int .i64)), .tmp 12 (.a (.int .i64)), .box 256 (.row 9 .str)], [], [.tmpRow 4 256 9 .str]⟩), [(.ret, ⟨[.tmp 2 (.a (.rowp 128)), .tmp 3 (.a .bool), .box 128 (.row 9 .str)], [], [.tmpRow 2 128 9 .str]⟩)])], loops := [(0, ⟨[.tmp 4 (.a (.rowp 256)), .tmp 10 (.a (.slc .str)), .tmp 11 (.a (.int .i64)), .tmp 12 (.a (.int .i64)), .box 256 (.row 9 .str)], [], [.tmpRow 4 256 9 .str]⟩, (.exit 0, ⟨[.tmp 4 (.a (.rowp 256)), .box 256 (.row 9 .str)], [], [.tmpRow 4 256 9 .str]⟩), [(.ret, ⟨[.tmp 2 (.a (.rowp 128)), .tmp 3 (.a .bool), .box 128 (.row 9 .str)], [], [.tmpRow 2 128 9 .str]⟩)])] }, rfrz := [], ts := [2, 3] }
noncomputable def e_canon_parts (F : Nat) : Env El := (envS 152 (conOf TT s_canon_read (M_canon_read F)) (envS 151 (conOf TT s_strings_Split (M_strings_Split F)) envN))
noncomputable def M_canon_parts_l0 (F : Nat) (v1 : (Unit × List (List UInt8) × Int × Int × List (List UInt8) × Unit)) : Option ((Unit × List (List UInt8) × Int × Int × List (List UInt8) × Unit) ⊕ (Unit × List (List UInt8) × Unit ⊕ Unit × Bool × List (List UInt8) × Unit)) :=
  if decide (v1.2.2.2.1 < v1.2.2.1) = true then
            ((idx v1.2.1 v1.2.2.2.1).bind fun v2 =>
                  (M_canon_read F v2).bind fun v3 =>
                    if (!v3.2) = true then some (Sum.inr ((), false, [], ()))
                    else
                      (if decide (v3.1 = []) = true then some ((), v3.1, v1.2.1, v1.2.2.1, v1.2.2.2.1, v3.1, decide (v3.1 = []), v1.2.2.2.2.1, ())
                          else some ((), v3.1, v1.2.1, v1.2.2.1, v1.2.2.2.1, v3.1, decide (v3.1 = [46]), v1.2.2.2.2.1, ())).bind
                        fun v4 =>
                        if v4.2.2.2.2.2.2.1 = true then some (Sum.inl ((), v4.2.2.1, v4.2.2.2.1, v4.2.2.2.2.1, v4.2.2.2.2.2.2.2.1, ()))
                        else
                          if decide (v4.2.2.2.2.2.1 = [46, 46]) = true then
                            if decide ((↑v4.2.2.2.2.2.2.2.1.length : Int) = 0) = true then some (Sum.inr ((), false, [], ()))
                            else
                              if
                                  (decide (0 ≤ IntKind.i64.wrap ((↑v4.2.2.2.2.2.2.2.1.length : Int) - 1)) &&
                                      decide (IntKind.i64.wrap ((↑v4.2.2.2.2.2.2.2.1.length : Int) - 1) ≤ (↑v4.2.2.2.2.2.2.2.1.length : Int))) =
                                    true then
                                some
                                  (Sum.inl
                                    ((), v4.2.2.1, v4.2.2.2.1, v4.2.2.2.2.1,
                                      List.take (IntKind.i64.wrap ((↑v4.2.2.2.2.2.2.2.1.length : Int) - 1)).toNat v4.2.2.2.2.2.2.2.1, ()))
                              else none
                          else
                            if decide ((v4.2.2.2.2.2.2.2.1.length + [v4.2.1].length) * 16 ≤ 140737488355328) = true then
                              some (Sum.inl ((), v4.2.2.1, v4.2.2.2.1, v4.2.2.2.2.1, v4.2.2.2.2.2.2.2.1 ++ [v4.2.1], ()))
                            else none).bind
              fun v5 =>
              sumC v5 (fun v6 => some (Sum.inl ((), v6.2.1, v6.2.2.1, IntKind.i64.wrap (v6.2.2.2.1 + 1), v6.2.2.2.2.1, ()))) fun v7 =>
                some (Sum.inr (Sum.inr ((), v7.2.1, v7.2.2.1, ())))
          else some (Sum.inr (Sum.inl ((), v1.2.2.2.2.1, ())))
noncomputable def M_canon_parts (F : Nat) (x : (List UInt8)) : Option ((List (El .str)) × (Bool)) :=
  (M_strings_Split F (x, [47])).bind fun v0 =>
    (loopM (M_canon_parts_l0 F)
          F ((), v0, (↑v0.length : Int), 0, [], ())).bind
      fun v8 => sumC v8 (fun v9 => some (v9.2.1, true)) fun v10 => some (v10.2.2.1, v10.2.1)
theorem t_canon_parts (x : (List UInt8)) (F : Nat) : fnRun TT Tryd.prog (e_canon_parts F) s_canon_parts (bodyOf 140) F x = M_canon_parts F x := by kernel_rfl
theorem c_canon_parts (F : Nat) : Ctr TT Tryd.prog 140 (conOf TT s_canon_parts (M_canon_parts F)) :=
  ctr_of (code := bodyOf 140) Tryd.func140 (by kernel_rfl) (by kernel_rfl) (by kernel_rfl) (by kernel_rfl) (envS_ok (envS_ok envN_ok (c_strings_Split F)) (c_canon_read F)) hm (by kernel_rfl) (fun x r h => ⟨F, (t_canon_parts x F).trans h⟩)
theorem mo_canon_parts_l0 {F F' : Nat} (h : F ≤ F') : ∀ v, Le (M_canon_parts_l0 F v) (M_canon_parts_l0 F' v) := by
  intro v
  unfold M_canon_parts_l0
  with_reducible repeat (first | (intro v) | exact Le.refl _ | exact h | exact mo_strings_Split h _ | exact mo_canon_read h _ | apply Le.bind | apply Le.ite | apply Le.loop | apply Le.sumC)
theorem mo_canon_parts {F F' : Nat} (h : F ≤ F') : ∀ v, Le (M_canon_parts F v) (M_canon_parts F' v) := by
  intro v
  unfold M_canon_parts
  with_reducible repeat (first | (intro v) | exact Le.refl _ | exact h | exact mo_strings_Split h _ | exact mo_canon_read h _ | exact mo_canon_parts_l0 h | exact mo_canon_parts_l0 h _ | apply Le.bind | apply Le.ite | apply Le.loop | apply Le.sumC)
noncomputable def s_canon_Path : Spec Kd := { params := [(.a .str)], ret := (.tup [(.a .str), (.a .bool)]), pins := [], pl := { nt := 46, joins := [(1400041, (.norm, ⟨[.tmp 6 (.a .str)], [1473], []⟩), [])], loops := [(0, ⟨[.tmp 6 (.a .str), .tmp 28 (.a (.slc .str)), .tmp 29 (.a (.int .i64)), .tmp 30 (.a (.int .i64))], [1473], []⟩, (.exit 0, ⟨[.tmp 6 (.a .str)], [1473], []⟩), [])], cuts := [(1, [(7, ⟨[.tmp 0 (.a .str), .tmp 15 (.a .bool)], [1473], []⟩), (5, ⟨[.tmp 0 (.a .str), .tmp 20 (.a .bool)], [1473], []⟩)])] }, rfrz := [], ts := [2, 3] }
noncomputable def e_canon_Path (F : Nat) : Env El := (envS 141 (conOf TT s_canon_write (M_canon_write F)) (envS 140 (conOf TT s_canon_parts (M_canon_parts F)) envN))
noncomputable def M_canon_Path_l0 (F : Nat) (v4 : (List UInt8 × List (List UInt8) × Int × Int × Unit)) : Option ((List UInt8 × List (List UInt8) × Int × Int × Unit) ⊕ (List UInt8 × Unit)) :=
  if decide (v4.2.2.2.1 < v4.2.2.1) = true then
                    (idx v4.2.1 v4.2.2.2.1).bind fun v5 =>
                      (M_canon_write F v5).bind fun v6 =>
                        if decide ([47].length + v6.length ≤ 9223372036854775807) = true then
                          if decide (v4.1.length + ([47] ++ v6).length ≤ 9223372036854775807) = true then
                            some (Sum.inl (v4.1 ++ ([47] ++ v6), v4.2.1, v4.2.2.1, IntKind.i64.wrap (v4.2.2.2.1 + 1), ()))
                          else none
                        else none
                  else some (Sum.inr (v4.1, ()))
noncomputable def M_canon_Path (F : Nat) (x : (List UInt8)) : Option ((List UInt8) × (Bool)) :=
  (if decide (x = []) = false then some (x, decide (60 < (↑x.length : Int)), ()) else some (x, true, ())).bind fun v0 =>
    (if v0.2.1 = false then (idx v0.1 0).bind fun v1 => some (v0.1, !decide ((↑v1.toNat : Int) = 47), ()) else some (v0.1, true, ())).bind fun v2 =>
      if v2.2.1 = true then some ([], false)
      else
        (M_canon_parts F v2.1).bind fun v3 =>
          if (!v3.2) = true then some ([], false)
          else
            (loopM (M_canon_Path_l0 F)
                  F ([], v3.1, (↑v3.1.length : Int), 0, ())).bind
              fun v7 =>
              (if decide (v7.1 = []) = true then some ([47], ()) else some (v7.1, ())).bind fun v8 =>
                if decide (60 < (↑v8.1.length : Int)) = true then some ([], false) else some (v8.1, true)
theorem t_canon_Path (x : (List UInt8)) (F : Nat) : fnRun TT Tryd.prog (e_canon_Path F) s_canon_Path (bodyOf 112) F x = M_canon_Path F x := by kernel_rfl
theorem c_canon_Path (F : Nat) : Ctr TT Tryd.prog 112 (conOf TT s_canon_Path (M_canon_Path F)) :=
  ctr_of (code := bodyOf 112) Tryd.func112 (by kernel_rfl) (by kernel_rfl) (by kernel_rfl) (by kernel_rfl) (envS_ok (envS_ok envN_ok (c_canon_parts F)) (c_canon_write F)) hm (by kernel_rfl) (fun x r h => ⟨F, (t_canon_Path x F).trans h⟩)
theorem mo_canon_Path_l0 {F F' : Nat} (h : F ≤ F') : ∀ v, Le (M_canon_Path_l0 F v) (M_canon_Path_l0 F' v) := by
  intro v
  unfold M_canon_Path_l0
  with_reducible repeat (first | (intro v) | exact Le.refl _ | exact h | exact mo_canon_parts h _ | exact mo_canon_write h _ | apply Le.bind | apply Le.ite | apply Le.loop | apply Le.sumC)
theorem mo_canon_Path {F F' : Nat} (h : F ≤ F') : ∀ v, Le (M_canon_Path F v) (M_canon_Path F' v) := by
  intro v
  unfold M_canon_Path
  with_reducible repeat (first | (intro v) | exact Le.refl _ | exact h | exact mo_canon_parts h _ | exact mo_canon_write h _ | exact mo_canon_Path_l0 h | exact mo_canon_Path_l0 h _ | apply Le.bind | apply Le.ite | apply Le.loop | apply Le.sumC)
end Go.Vm
