/- Models of functions of the program, and that each keeps its contract: for all arguments of its shape. No condition. -/
import Derived.Test.YtihpjgcbmipdbaaGreatDoorKt
namespace Go.Vm
open Go.Proofs
set_option linter.unusedVariables false
noncomputable def s_unicode_utf8_ValidRune : Spec Kd := { params := [(.a (.int .i32))], ret := (.one (.a .bool)), pins := [], pl := { nt := 17, cuts := [(3, [(6, ⟨[.tmp 16 (.a .bool)], [], []⟩)]), (1, [(6, ⟨[.tmp 0 (.a (.int .i32)), .tmp 9 (.a .bool)], [], []⟩)])] }, rfrz := [], ts := [2] }
noncomputable def e_unicode_utf8_ValidRune (F : Nat) : Env El := envN
noncomputable def M_unicode_utf8_ValidRune (F : Nat) (x : (Int)) : Option (Bool) :=
 (if decide (0 ≤ x) = true then some (x, decide (x < 55296), ()) else some (x, false, ())).bind fun v0 =>
  if v0.2.1 = true then some true
  else
   (if decide (57343 < v0.1) = true then some (decide (v0.1 ≤ 1114111), ()) else some (false, ())).bind fun v1 => if v1.1 = true then some true else some false
theorem t_unicode_utf8_ValidRune (x : (Int)) (F : Nat) : fnRun TT Tryz.prog (e_unicode_utf8_ValidRune F) s_unicode_utf8_ValidRune (bodyOf 235) F x = M_unicode_utf8_ValidRune F x := by kernel_rfl
theorem c_unicode_utf8_ValidRune (F : Nat) : Ctr TT Tryz.prog 235 (conOf TT s_unicode_utf8_ValidRune (M_unicode_utf8_ValidRune F)) :=
 ctr_of (code := bodyOf 235) Tryz.func235 (by kernel_rfl) (by kernel_rfl) (by kernel_rfl) (by kernel_rfl) envN_ok hm (by kernel_rfl) (fun x r h => ⟨F, (t_unicode_utf8_ValidRune x F).trans h⟩)
noncomputable def s_sign_among : Spec Kd := { params := [(.a (.int .i32)), (.a (.int .i32)), (.a (.int .i32)), (.a (.int .i32))], ret := (.one (.a .bool)), pins := [], pl := { nt := 22, cuts := [(1, [(8, ⟨[.tmp 0 (.a (.int .i32)), .tmp 3 (.a (.int .i32)), .tmp 16 (.a .bool)], [], []⟩), (5, ⟨[.tmp 21 (.a .bool)], [], []⟩)])] }, rfrz := [], ts := [8] }
noncomputable def e_sign_among (F : Nat) : Env El := envN
noncomputable def M_sign_among (F : Nat) (x : (Int) × (Int) × (Int) × (Int)) : Option (Bool) :=
 (if decide (x.2.1 ≤ x.1) = true then some (x.1, x.2.2.2, decide (x.1 ≤ x.2.2.1), ()) else some (x.1, x.2.2.2, false, ())).bind fun v0 =>
  (if v0.2.2.1 = true then some (!decide (v0.1 = v0.2.1), ()) else some (false, ())).bind fun v1 => some v1.1
theorem t_sign_among (x : (Int) × (Int) × (Int) × (Int)) (F : Nat) : fnRun TT Tryz.prog (e_sign_among F) s_sign_among (bodyOf 190) F x = M_sign_among F x := by kernel_rfl
theorem c_sign_among (F : Nat) : Ctr TT Tryz.prog 190 (conOf TT s_sign_among (M_sign_among F)) :=
 ctr_of (code := bodyOf 190) Tryz.func190 (by kernel_rfl) (by kernel_rfl) (by kernel_rfl) (by kernel_rfl) envN_ok hm (by kernel_rfl) (fun x r h => ⟨F, (t_sign_among x F).trans h⟩)
noncomputable def s_sign_control : Spec Kd := { params := [(.a (.int .i32))], ret := (.one (.a .bool)), pins := [], pl := { nt := 18, cuts := [(1, [(6, ⟨[.tmp 0 (.a (.int .i32)), .tmp 8 (.a .bool)], [], []⟩), (4, ⟨[.tmp 0 (.a (.int .i32)), .tmp 12 (.a .bool)], [], []⟩), (5, ⟨[.tmp 17 (.a .bool)], [], []⟩)])] }, rfrz := [], ts := [2] }
noncomputable def e_sign_control (F : Nat) : Env El := (envS 235 (conOf TT s_unicode_utf8_ValidRune (M_unicode_utf8_ValidRune F)) (envS 190 (conOf TT s_sign_among (M_sign_among F)) envN))
noncomputable def M_sign_control (F : Nat) (x : (Int)) : Option (Bool) :=
 (if decide (x < 32) = false then (M_sign_among F (x, 127, 159, 0)).bind fun v0 => some (x, v0, ()) else some (x, true, ())).bind fun v1 =>
  (if v1.2.1 = false then some (v1.1, decide (v1.1 = 65533), ()) else some (v1.1, true, ())).bind fun v2 =>
   (if v2.2.1 = false then (M_unicode_utf8_ValidRune F v2.1).bind fun v3 => some (!v3, ()) else some (true, ())).bind fun v4 => some v4.1
theorem t_sign_control (x : (Int)) (F : Nat) : fnRun TT Tryz.prog (e_sign_control F) s_sign_control (bodyOf 188) F x = M_sign_control F x := by kernel_rfl
theorem c_sign_control (F : Nat) : Ctr TT Tryz.prog 188 (conOf TT s_sign_control (M_sign_control F)) :=
 ctr_of (code := bodyOf 188) Tryz.func188 (by kernel_rfl) (by kernel_rfl) (by kernel_rfl) (by kernel_rfl) (envS_ok (envS_ok envN_ok (c_sign_among F)) (c_unicode_utf8_ValidRune F)) hm (by kernel_rfl) (fun x r h => ⟨F, (t_sign_control x F).trans h⟩)
noncomputable def s_sign_blank : Spec Kd := { params := [(.a (.int .i32))], ret := (.one (.a .bool)), pins := [], pl := { nt := 17, cuts := [(1, [(6, ⟨[.tmp 0 (.a (.int .i32)), .tmp 8 (.a .bool)], [], []⟩), (4, ⟨[.tmp 0 (.a (.int .i32)), .tmp 12 (.a .bool)], [], []⟩), (4, ⟨[.tmp 16 (.a .bool)], [], []⟩)])] }, rfrz := [], ts := [2] }
noncomputable def e_sign_blank (F : Nat) : Env El := (envS 190 (conOf TT s_sign_among (M_sign_among F)) envN)
noncomputable def M_sign_blank (F : Nat) (x : (Int)) : Option (Bool) :=
 (if decide (x = 32) = false then some (x, decide (x = 160), ()) else some (x, true, ())).bind fun v0 =>
  (if v0.2.1 = false then (M_sign_among F (v0.1, 8192, 8202, 0)).bind fun v1 => some (v0.1, v1, ()) else some (v0.1, true, ())).bind fun v2 =>
   (if v2.2.1 = false then some (decide (v2.1 = 12288), ()) else some (true, ())).bind fun v3 => some v3.1
theorem t_sign_blank (x : (Int)) (F : Nat) : fnRun TT Tryz.prog (e_sign_blank F) s_sign_blank (bodyOf 189) F x = M_sign_blank F x := by kernel_rfl
theorem c_sign_blank (F : Nat) : Ctr TT Tryz.prog 189 (conOf TT s_sign_blank (M_sign_blank F)) :=
 ctr_of (code := bodyOf 189) Tryz.func189 (by kernel_rfl) (by kernel_rfl) (by kernel_rfl) (by kernel_rfl) (envS_ok envN_ok (c_sign_among F)) hm (by kernel_rfl) (fun x r h => ⟨F, (t_sign_blank x F).trans h⟩)
noncomputable def s_sign_letter : Spec Kd := { params := [(.a (.int .i32))], ret := (.one (.a .bool)), pins := [], pl := { nt := 21, cuts := [(1, [(6, ⟨[.tmp 0 (.a (.int .i32)), .tmp 8 (.a .bool)], [], []⟩), (8, ⟨[.tmp 0 (.a (.int .i32)), .tmp 16 (.a .bool)], [], []⟩), (4, ⟨[.tmp 20 (.a .bool)], [], []⟩)])] }, rfrz := [], ts := [2] }
noncomputable def e_sign_letter (F : Nat) : Env El := (envS 190 (conOf TT s_sign_among (M_sign_among F)) envN)
noncomputable def M_sign_letter (F : Nat) (x : (Int)) : Option (Bool) :=
 ((M_sign_among F (x, 65, 90, 0)).bind fun v0 =>
    if v0 = false then (M_sign_among F (x, 97, 122, 0)).bind fun v1 => some (x, v1, ()) else some (x, true, ())).bind
  fun v2 =>
  (if v2.2.1 = false then
     (M_sign_among F (v2.1, 192, 591, 215)).bind fun v3 => if v3 = true then some (v2.1, !decide (v2.1 = 247), ()) else some (v2.1, false, ())
    else some (v2.1, true, ())).bind
   fun v4 => (if v4.2.1 = false then (M_sign_among F (v4.1, 913, 969, 930)).bind fun v5 => some (v5, ()) else some (true, ())).bind fun v6 => some v6.1
theorem t_sign_letter (x : (Int)) (F : Nat) : fnRun TT Tryz.prog (e_sign_letter F) s_sign_letter (bodyOf 191) F x = M_sign_letter F x := by kernel_rfl
theorem c_sign_letter (F : Nat) : Ctr TT Tryz.prog 191 (conOf TT s_sign_letter (M_sign_letter F)) :=
 ctr_of (code := bodyOf 191) Tryz.func191 (by kernel_rfl) (by kernel_rfl) (by kernel_rfl) (by kernel_rfl) (envS_ok envN_ok (c_sign_among F)) hm (by kernel_rfl) (fun x r h => ⟨F, (t_sign_letter x F).trans h⟩)
noncomputable def s_sign_Sort : Spec Kd := { params := [(.a (.int .i32))], ret := (.one (.a (.int .i64))), pins := [], pl := { nt := 15 }, rfrz := [], ts := [2] }
noncomputable def e_sign_Sort (F : Nat) : Env El := (envS 191 (conOf TT s_sign_letter (M_sign_letter F)) (envS 190 (conOf TT s_sign_among (M_sign_among F)) (envS 189 (conOf TT s_sign_blank (M_sign_blank F)) (envS 188 (conOf TT s_sign_control (M_sign_control F)) envN))))
noncomputable def M_sign_Sort (F : Nat) (x : (Int)) : Option (Int) :=
 (M_sign_control F x).bind fun v0 =>
  if v0 = true then some 0
  else
   (M_sign_blank F x).bind fun v1 =>
    if v1 = true then some 1
    else (M_sign_among F (x, 48, 57, 0)).bind fun v2 => if v2 = true then some 2 else (M_sign_letter F x).bind fun v3 => if v3 = true then some 3 else some 4
theorem t_sign_Sort (x : (Int)) (F : Nat) : fnRun TT Tryz.prog (e_sign_Sort F) s_sign_Sort (bodyOf 124) F x = M_sign_Sort F x := by kernel_rfl
theorem c_sign_Sort (F : Nat) : Ctr TT Tryz.prog 124 (conOf TT s_sign_Sort (M_sign_Sort F)) :=
 ctr_of (code := bodyOf 124) Tryz.func124 (by kernel_rfl) (by kernel_rfl) (by kernel_rfl) (by kernel_rfl) (envS_ok (envS_ok (envS_ok (envS_ok envN_ok (c_sign_control F)) (c_sign_blank F)) (c_sign_among F)) (c_sign_letter F)) hm (by kernel_rfl) (fun x r h => ⟨F, (t_sign_Sort x F).trans h⟩)
noncomputable def s_sign_Right : Spec Kd := { params := [(.a .str), (.a (.int .i64))], ret := (.one (.a .bool)), pins := [], pl := { nt := 23, loops := [(0, ⟨[.tmp 16 (.a (.ptr 1024 0)), .box 1024 .siter], [], []⟩, (.exit 0, ⟨[], [], []⟩), [(.ret, ⟨[.tmp 4 (.a .bool)], [], []⟩)])], cuts := [(1, [(8, ⟨[.tmp 0 (.a .str), .tmp 14 (.a .bool)], [], []⟩)])] }, rfrz := [], ts := [4] }
noncomputable def e_sign_Right (F : Nat) : Env El := (envS 124 (conOf TT s_sign_Sort (M_sign_Sort F)) envN)
noncomputable def M_sign_Right_l0 (F : Nat) (v1 : (Unit × (List UInt8 × Nat) × Unit)) : Option ((Unit × (List UInt8 × Nat) × Unit) ⊕ (Unit ⊕ Bool × Unit)) :=
 if decide (v1.2.1.2 < v1.2.1.1.length) = true then
       (M_sign_Sort F (runeAt v1.2.1.1 v1.2.1.2)).bind fun v2 =>
        if decide (v2 = 0) = true then some (Sum.inr (Sum.inr (false, ())))
        else some (Sum.inl ((), (v1.2.1.1, v1.2.1.2 + runeLen v1.2.1.1 v1.2.1.2), ()))
      else some (Sum.inr (Sum.inl ()))
noncomputable def M_sign_Right (F : Nat) (x : (List UInt8) × (Int)) : Option (Bool) :=
 (if decide (x.1 = []) = false then some (x.1, decide (x.2 < (↑x.1.length : Int)), ()) else some (x.1, true, ())).bind fun v0 =>
  if v0.2.1 = true then some false
  else
   (loopM (M_sign_Right_l0 F)
      F ((), (v0.1, 0), ())).bind
    fun v3 => sumC v3 (fun v4 => some true) fun v5 => some v5.1
theorem t_sign_Right (x : (List UInt8) × (Int)) (F : Nat) : fnRun TT Tryz.prog (e_sign_Right F) s_sign_Right (bodyOf 262) F x = M_sign_Right F x := by kernel_rfl
theorem c_sign_Right (F : Nat) : Ctr TT Tryz.prog 262 (conOf TT s_sign_Right (M_sign_Right F)) :=
 ctr_of (code := bodyOf 262) Tryz.func262 (by kernel_rfl) (by kernel_rfl) (by kernel_rfl) (by kernel_rfl) (envS_ok envN_ok (c_sign_Sort F)) hm (by kernel_rfl) (fun x r h => ⟨F, (t_sign_Right x F).trans h⟩)
end Go.Vm
