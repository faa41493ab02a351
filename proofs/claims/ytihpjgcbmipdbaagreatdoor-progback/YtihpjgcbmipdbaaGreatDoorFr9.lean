/- Models of functions of the program, and that each keeps its contract: for all arguments of its shape. No condition. -/
import Derived.Test.YtihpjgcbmipdbaaGreatDoorKt
import Derived.Test.YtihpjgcbmipdbaaGreatDoorFref4
namespace Go.Vm
open Go.Proofs
set_option linter.unusedVariables false
noncomputable def s_conciergeref09_digit : Spec Kd := { params := [(.a (.int .i64))], ret := (.one (.a .str)), pins := [], pl := { nt := 8 }, rfrz := [], ts := [2] }
noncomputable def e_conciergeref09_digit (F : Nat) : Env El := envN
noncomputable def M_conciergeref09_digit (F : Nat) (x : (Int)) : Option (List UInt8) :=
 some [UInt8.ofNat (IntKind.u8.wrap (IntKind.i64.wrap (48 + x))).toNat]
theorem t_conciergeref09_digit (x : (Int)) (F : Nat) : fnRun TT Tryz.prog (e_conciergeref09_digit F) s_conciergeref09_digit (bodyOf 202) F x = M_conciergeref09_digit F x := by kernel_rfl
theorem c_conciergeref09_digit (F : Nat) : Ctr TT Tryz.prog 202 (conOf TT s_conciergeref09_digit (M_conciergeref09_digit F)) :=
 ctr_of (code := bodyOf 202) Tryz.func202 (by kernel_rfl) (by kernel_rfl) (by kernel_rfl) (by kernel_rfl) envN_ok hm (by kernel_rfl) (fun x r h => ⟨F, (t_conciergeref09_digit x F).trans h⟩)
noncomputable def s_conciergeref09_Decimal : Spec Kd := { params := [(.a (.int .i64))], ret := (.one (.a .str)), pins := [], pl := { nt := 25, loops := [(0, ⟨[.tmp 0 (.a (.int .i64)), .tmp 3 (.a .str)], [], []⟩, (.exit 0, ⟨[.tmp 3 (.a .str)], [], []⟩), [])] }, rfrz := [], ts := [2] }
noncomputable def e_conciergeref09_Decimal (F : Nat) (R : tyS El s_conciergeref09_Decimal.params → Option (s_conciergeref09_Decimal.R El)) : Env El := (envS 144 (conOf TT s_conciergeref09_Decimal R) (envS 202 (conOf TT s_conciergeref09_digit (M_conciergeref09_digit F)) envN))
noncomputable def Mb_conciergeref09_Decimal_l0 (F : Nat) (R : (Int) → Option (List UInt8)) (v2 : (Int × List UInt8 × Unit)) : Option ((Int × List UInt8 × Unit) ⊕ (List UInt8 × Unit)) :=
 if decide (0 < v2.1) = true then
       (M_conciergeref09_digit F (v2.1.tmod 10)).bind fun v3 =>
        if decide (v3.length + v2.2.1.length ≤ 9223372036854775807) = true then some (Sum.inl (IntKind.i64.wrap (v2.1.tdiv 10), v3 ++ v2.2.1, ()))
        else none
      else some (Sum.inr (v2.2.1, ()))
noncomputable def Mb_conciergeref09_Decimal (F : Nat) (R : (Int) → Option (List UInt8)) (x : (Int)) : Option (List UInt8) :=
 if decide (x < 0) = true then
  (R (IntKind.i64.wrap (0 - x))).bind fun v0 => if decide ([45].length + v0.length ≤ 9223372036854775807) = true then some ([45] ++ v0) else none
 else
  (M_conciergeref09_digit F (x.tmod 10)).bind fun v1 =>
   (loopM (Mb_conciergeref09_Decimal_l0 F R)
      F (IntKind.i64.wrap (x.tdiv 10), v1, ())).bind
    fun v4 => some v4.1
noncomputable def Mr_conciergeref09_Decimal (F : Nat) : Nat → ((Int)) → Option (List UInt8)
 | 0, _ => none
 | d + 1, x => Mb_conciergeref09_Decimal F (Mr_conciergeref09_Decimal F d) x
noncomputable def M_conciergeref09_Decimal (F : Nat) (x : (Int)) : Option (List UInt8) := Mr_conciergeref09_Decimal F F x
theorem t_conciergeref09_Decimal (x : (Int)) (F : Nat) (R : (Int) → Option (List UInt8)) : fnRun TT Tryz.prog (e_conciergeref09_Decimal F R) s_conciergeref09_Decimal (bodyOf 144) F x = Mb_conciergeref09_Decimal F R x := by kernel_rfl
theorem cr_conciergeref09_Decimal (F : Nat) : ∀ d, Ctr TT Tryz.prog 144 (conOf TT s_conciergeref09_Decimal (Mr_conciergeref09_Decimal F d))
 | 0 => ctr_none _ _ _ _ (fun _ => rfl)
 | d + 1 => ctr_of (code := bodyOf 144) Tryz.func144 (by kernel_rfl) (by kernel_rfl) (by kernel_rfl) (by kernel_rfl) (envS_ok (envS_ok envN_ok (c_conciergeref09_digit F)) (cr_conciergeref09_Decimal F d)) hm (by kernel_rfl) (fun x r h => ⟨F, (t_conciergeref09_Decimal x F (Mr_conciergeref09_Decimal F d)).trans h⟩)
theorem c_conciergeref09_Decimal (F : Nat) : Ctr TT Tryz.prog 144 (conOf TT s_conciergeref09_Decimal (M_conciergeref09_Decimal F)) := cr_conciergeref09_Decimal F F
end Go.Vm
