/- Models of functions of the program, and that each keeps its contract: for all arguments of its shape. No condition. -/
import Derived.Test.YtblbmkhlnaaopaaKt
import Derived.Test.YtblbmkhlnaaopaaFsort
import Derived.Test.YtblbmkhlnaaopaaFref4
import Derived.Test.YtblbmkhlnaaopaaFbld
namespace Go.Vm
open Go.Proofs
set_option linter.unusedVariables false
noncomputable def s_slices_Reverse_rune_rune : Spec Kd := { params := [(.newb 21 [(.row 21 .i32)])], ret := (.tup []), pins := [[(.row 21 .i32)]], pl := { nt := 28, loops := [(0, ⟨[.tmp 0 (.a (.rowp 1)), .tmp 2 (.a (.int .i64)), .tmp 3 (.a (.int .i64)), .box 1 (.row 21 .i32)], [], [.tmpRow 0 1 21 .i32]⟩, (.exit 0, ⟨[.tmp 0 (.a (.rowp 1)), .box 1 (.row 21 .i32)], [], [.tmpRow 0 1 21 .i32]⟩), [])] }, rfrz := [], ts := [] }
noncomputable def e_slices_Reverse_rune_rune (F : Nat) : Env El := envN
/-- slices.Reverse[[]rune,rune] -/
noncomputable def M_slices_Reverse_rune_rune_l0 (F : Nat) (v0 : (Unit × Int × Int × List Int × Unit)) : Option ((Unit × Int × Int × List Int × Unit) ⊕ (Unit × List Int × Unit)) :=
  if decide (v0.2.1 < v0.2.2.1) = true then
          (idx v0.2.2.2.1 v0.2.2.1).bind fun v1 =>
            (idx v0.2.2.2.1 v0.2.1).bind fun v2 =>
              (idx v0.2.2.2.1 v0.2.1).bind fun v3 =>
                ((idx v0.2.2.2.1 (↑v0.2.1.toNat : Int)).bind fun v4 => some v1).bind fun v5 =>
                  (idx (lset v0.2.2.2.1 v0.2.1.toNat v5) v0.2.2.1).bind fun v6 =>
                    ((idx (lset v0.2.2.2.1 v0.2.1.toNat v5) (↑v0.2.2.1.toNat : Int)).bind fun v7 => some v2).bind fun v8 =>
                      some
                        (Sum.inl
                          ((), IntKind.i64.wrap (v0.2.1 + 1), IntKind.i64.wrap (v0.2.2.1 - 1), lset (lset v0.2.2.2.1 v0.2.1.toNat v5) v0.2.2.1.toNat v8, ()))
        else some (Sum.inr ((), v0.2.2.2.1, ()))
noncomputable def M_slices_Reverse_rune_rune (F : Nat) (x : ((List (El .i32)) × Unit)) : Option ((Unit) × ((List (El .i32)) × Unit)) :=
  (loopM (M_slices_Reverse_rune_rune_l0 F)
        F ((), 0, IntKind.i64.wrap ((↑x.1.length : Int) - 1), x.1, ())).bind
    fun v9 => some ((), v9.2.1, ())
theorem t_slices_Reverse_rune_rune (x : ((List (El .i32)) × Unit)) (F : Nat) : fnRun TT Try.prog (e_slices_Reverse_rune_rune F) s_slices_Reverse_rune_rune (bodyOf 47) F x = M_slices_Reverse_rune_rune F x := by kernel_rfl
theorem c_slices_Reverse_rune_rune (F : Nat) : Ctr TT Try.prog 47 (conOf TT s_slices_Reverse_rune_rune (M_slices_Reverse_rune_rune F)) :=
  ctr_of (code := bodyOf 47) Try.func47 (by kernel_rfl) (by kernel_rfl) (by kernel_rfl) (by kernel_rfl) envN_ok hm (by kernel_rfl) (fun x r h => ⟨F, (t_slices_Reverse_rune_rune x F).trans h⟩)
theorem mo_slices_Reverse_rune_rune_l0 {F F' : Nat} (h : F ≤ F') : ∀ v, Le (M_slices_Reverse_rune_rune_l0 F v) (M_slices_Reverse_rune_rune_l0 F' v) := by
  intro v
  unfold M_slices_Reverse_rune_rune_l0
  repeat (first | (intro v) | exact Le.refl _ | exact h | apply Le.bind | apply Le.ite | apply Le.loop | apply Le.sumC)
theorem mo_slices_Reverse_rune_rune {F F' : Nat} (h : F ≤ F') : ∀ v, Le (M_slices_Reverse_rune_rune F v) (M_slices_Reverse_rune_rune F' v) := by
  intro v
  unfold M_slices_Reverse_rune_rune
  repeat (first | (intro v) | exact Le.refl _ | exact h | exact mo_slices_Reverse_rune_rune_l0 h | exact mo_slices_Reverse_rune_rune_l0 h _ | apply Le.bind | apply Le.ite | apply Le.loop | apply Le.sumC)
noncomputable def s_sign_Turn : Spec Kd := { params := [(.a .str)], ret := (.one (.a .str)), pins := [], pl := { nt := 19, orc := { rv := [3], gv := [], ln := [15] }, loops := [(0, ⟨[.tmp 3 (.a (.rowp 192)), .tmp 7 (.a (.ptr 448 0)), .box 448 .siter, .box 192 (.row 21 .i32)], [], [.tmpRow 3 192 21 .i32]⟩, (.exit 0, ⟨[.tmp 3 (.a (.rowp 192)), .box 192 (.row 21 .i32)], [], [.tmpRow 3 192 21 .i32]⟩), [])] }, rfrz := [], ts := [2] }
noncomputable def e_sign_Turn (F : Nat) : Env El := (envS 47 (conOf TT s_slices_Reverse_rune_rune (M_slices_Reverse_rune_rune F)) envN)
/-- concierge/sign.Turn -/
noncomputable def M_sign_Turn_l0 (F : Nat) (v0 : (Unit × Unit × (List UInt8 × Nat) × List Int × Unit)) : Option ((Unit × Unit × (List UInt8 × Nat) × List Int × Unit) ⊕ (Unit × List Int × Unit)) :=
  if decide (v0.2.2.1.2 < v0.2.2.1.1.length) = true then
          if decide ((v0.2.2.2.1.length + [runeAt v0.2.2.1.1 v0.2.2.1.2].length) * 4 ≤ 140737488355328) = true then
            some (Sum.inl ((), (), (v0.2.2.1.1, v0.2.2.1.2 + runeLen v0.2.2.1.1 v0.2.2.1.2), v0.2.2.2.1 ++ [runeAt v0.2.2.1.1 v0.2.2.1.2], ()))
          else none
        else some (Sum.inr ((), v0.2.2.2.1, ()))
noncomputable def M_sign_Turn (F : Nat) (x : (List UInt8)) : Option (List UInt8) :=
  (loopM (M_sign_Turn_l0 F)
        F ((), (), (x, 0), [], ())).bind
    fun v1 => (M_slices_Reverse_rune_rune F (v1.2.1, ())).bind fun v2 => some (runes8 v2.2.1)
theorem t_sign_Turn (x : (List UInt8)) (F : Nat) : fnRun TT Try.prog (e_sign_Turn F) s_sign_Turn (bodyOf 24) F x = M_sign_Turn F x := by kernel_rfl
theorem c_sign_Turn (F : Nat) : Ctr TT Try.prog 24 (conOf TT s_sign_Turn (M_sign_Turn F)) :=
  ctr_of (code := bodyOf 24) Try.func24 (by kernel_rfl) (by kernel_rfl) (by kernel_rfl) (by kernel_rfl) (envS_ok envN_ok (c_slices_Reverse_rune_rune F)) hm (by kernel_rfl) (fun x r h => ⟨F, (t_sign_Turn x F).trans h⟩)
theorem mo_sign_Turn_l0 {F F' : Nat} (h : F ≤ F') : ∀ v, Le (M_sign_Turn_l0 F v) (M_sign_Turn_l0 F' v) := by
  intro v
  unfold M_sign_Turn_l0
  repeat (first | (intro v) | exact Le.refl _ | exact h | exact mo_slices_Reverse_rune_rune h _ | apply Le.bind | apply Le.ite | apply Le.loop | apply Le.sumC)
theorem mo_sign_Turn {F F' : Nat} (h : F ≤ F') : ∀ v, Le (M_sign_Turn F v) (M_sign_Turn F' v) := by
  intro v
  unfold M_sign_Turn
  repeat (first | (intro v) | exact Le.refl _ | exact h | exact mo_slices_Reverse_rune_rune h _ | exact mo_sign_Turn_l0 h | exact mo_sign_Turn_l0 h _ | apply Le.bind | apply Le.ite | apply Le.loop | apply Le.sumC)

end Go.Vm
