/- Models of functions of the program, and that each keeps its contract: for all arguments of its shape. No condition. -/
import Derived.Test.YtgeafoacmnlioaaDoorKt
import Derived.Test.YtgeafoacmnlioaaDoorFbld
namespace Go.Vm
open Go.Proofs
set_option linter.unusedVariables false
noncomputable def s_sha_Hex : Spec Kd := { params := [(.a .str)], ret := (.one (.a .str)), pins := [], pl := { nt := 26, orc := { rv := [3, 10, 22], gv := [] }, loops := [(0, ⟨[.tmp 0 (.a .str), .tmp 3 (.a (.rowp 192)), .tmp 6 (.a (.int .i64)), .tmp 7 (.a (.int .i64)), .box 192 (.row 5 .u8)], [], [.tmpRow 3 192 5 .u8]⟩, (.exit 0, ⟨[.tmp 3 (.a (.rowp 192)), .box 192 (.row 5 .u8)], [], [.tmpRow 3 192 5 .u8]⟩), [])] }, rfrz := [], ts := [2] }
noncomputable def e_sha_Hex (F : Nat) : Env El := envN
noncomputable def M_sha_Hex_l0 (F : Nat) (v0 : (List UInt8 × Unit × Int × Int × List UInt8 × Unit)) : Option ((List UInt8 × Unit × Int × Int × List UInt8 × Unit) ⊕ (Unit × List UInt8 × Unit)) :=
  if decide (v0.2.2.2.1 < v0.2.2.1) = true then
          (idx v0.1 v0.2.2.2.1).bind fun (v1 : UInt8) =>
            (idx ([48, 49, 50, 51, 52, 53, 54, 55, 56, 57, 97, 98, 99, 100, 101, 102] : List UInt8) (shr IntKind.u8 (↑v1.toNat : Int) 4)).bind fun (v2 : UInt8) =>
              (idx v0.1 v0.2.2.2.1).bind fun (v3 : UInt8) =>
                (idx ([48, 49, 50, 51, 52, 53, 54, 55, 56, 57, 97, 98, 99, 100, 101, 102] : List UInt8) (iand IntKind.u8 (↑v3.toNat : Int) 15)).bind fun (v4 : UInt8) =>
                  if
                      decide ((v0.2.2.2.2.1.length + [UInt8.ofNat (↑v2.toNat : Int).toNat, UInt8.ofNat (↑v4.toNat : Int).toNat].length) * 1 ≤ 140737488355328) =
                        true then
                    some
                      (Sum.inl
                        (v0.1, (), v0.2.2.1, IntKind.i64.wrap (v0.2.2.2.1 + 1),
                          v0.2.2.2.2.1 ++ [UInt8.ofNat (↑v2.toNat : Int).toNat, UInt8.ofNat (↑v4.toNat : Int).toNat], ()))
                  else none
        else some (Sum.inr ((), v0.2.2.2.2.1, ()))
noncomputable def M_sha_Hex (F : Nat) (x : (List UInt8)) : Option (List UInt8) :=
  (loopM (M_sha_Hex_l0 F)
        F (x, (), (↑x.length : Int), 0, [], ())).bind
    fun (v5 : Unit × List UInt8 × Unit) => some v5.2.1
theorem t_sha_Hex (x : (List UInt8)) (F : Nat) : fnRun TT Tryd.prog (e_sha_Hex F) s_sha_Hex (bodyOf 35) F x = M_sha_Hex F x := by kernel_rfl
theorem c_sha_Hex (F : Nat) : Ctr TT Tryd.prog 35 (conOf TT s_sha_Hex (M_sha_Hex F)) :=
  ctr_of (code := bodyOf 35) Tryd.func35 (by kernel_rfl) (by kernel_rfl) (by kernel_rfl) (by kernel_rfl) envN_ok hm (by kernel_rfl) (fun x r h => ⟨F, (t_sha_Hex x F).trans h⟩)
theorem mo_sha_Hex_l0 {F F' : Nat} (h : F ≤ F') : ∀ v, Le (M_sha_Hex_l0 F v) (M_sha_Hex_l0 F' v) := by
  intro v
  unfold M_sha_Hex_l0
  with_reducible repeat (first | (intro v) | exact Le.refl _ | exact h | apply Le.bind | apply Le.ite | apply Le.loop | apply Le.sumC)
theorem mo_sha_Hex {F F' : Nat} (h : F ≤ F') : ∀ v, Le (M_sha_Hex F v) (M_sha_Hex F' v) := by
  intro v
  unfold M_sha_Hex
  with_reducible repeat (first | (intro v) | exact Le.refl _ | exact h | exact mo_sha_Hex_l0 h | exact mo_sha_Hex_l0 h _ | apply Le.bind | apply Le.ite | apply Le.loop | apply Le.sumC)
end Go.Vm
