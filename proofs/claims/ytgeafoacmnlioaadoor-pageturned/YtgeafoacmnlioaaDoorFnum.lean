/- Models of functions of the program, and that each keeps its contract: for all arguments of its shape. No condition. -/
import Derived.Test.YtgeafoacmnlioaaDoorKt
namespace Go.Vm
open Go.Proofs
set_option linter.unusedVariables false
noncomputable def s_conciergeref01_Num : Spec Kd := { params := [(.a (.int .i64))], ret := (.one (.a .str)), pins := [], pl := { nt := 24, loops := [(0, ⟨[.tmp 0 (.a (.int .i64)), .tmp 3 (.a .str)], [], []⟩, (.exit 0, ⟨[.tmp 3 (.a .str)], [], []⟩), [])] }, rfrz := [], ts := [2] }
noncomputable def e_conciergeref01_Num (F : Nat) : Env El := envN
noncomputable def M_conciergeref01_Num_l0 (F : Nat) (v0 : (Int × List UInt8 × Unit)) : Option ((Int × List UInt8 × Unit) ⊕ (List UInt8 × Unit)) :=
  if decide (0 < v0.1) = true then
          if decide ([UInt8.ofNat (IntKind.u8.wrap (IntKind.i64.wrap (v0.1.tmod 128 + 128))).toNat].length + v0.2.1.length ≤ 9223372036854775807) = true then
            some (Sum.inl (IntKind.i64.wrap (v0.1.tdiv 128), [UInt8.ofNat (IntKind.u8.wrap (IntKind.i64.wrap (v0.1.tmod 128 + 128))).toNat] ++ v0.2.1, ()))
          else none
        else some (Sum.inr (v0.2.1, ()))
noncomputable def M_conciergeref01_Num (F : Nat) (x : (Int)) : Option (List UInt8) :=
  (loopM (M_conciergeref01_Num_l0 F)
        F (IntKind.i64.wrap (x.tdiv 128), [UInt8.ofNat (IntKind.u8.wrap (x.tmod 128)).toNat], ())).bind
    fun v1 => some v1.1
theorem t_conciergeref01_Num (x : (Int)) (F : Nat) : fnRun TT Tryd.prog (e_conciergeref01_Num F) s_conciergeref01_Num (bodyOf 42) F x = M_conciergeref01_Num F x := by kernel_rfl
theorem c_conciergeref01_Num (F : Nat) : Ctr TT Tryd.prog 42 (conOf TT s_conciergeref01_Num (M_conciergeref01_Num F)) :=
  ctr_of (code := bodyOf 42) Tryd.func42 (by kernel_rfl) (by kernel_rfl) (by kernel_rfl) (by kernel_rfl) envN_ok hm (by kernel_rfl) (fun x r h => ⟨F, (t_conciergeref01_Num x F).trans h⟩)
theorem mo_conciergeref01_Num_l0 {F F' : Nat} (h : F ≤ F') : ∀ v, Le (M_conciergeref01_Num_l0 F v) (M_conciergeref01_Num_l0 F' v) := by
  intro v
  unfold M_conciergeref01_Num_l0
  with_reducible repeat (first | (intro v) | exact Le.refl _ | exact h | apply Le.bind | apply Le.ite | apply Le.loop | apply Le.sumC)
theorem mo_conciergeref01_Num {F F' : Nat} (h : F ≤ F') : ∀ v, Le (M_conciergeref01_Num F v) (M_conciergeref01_Num F' v) := by
  intro v
  unfold M_conciergeref01_Num
  with_reducible repeat (first | (intro v) | exact Le.refl _ | exact h | exact mo_conciergeref01_Num_l0 h | exact mo_conciergeref01_Num_l0 h _ | apply Le.bind | apply Le.ite | apply Le.loop | apply Le.sumC)
end Go.Vm
