/- Models of functions of the program, and that each keeps its contract: for all arguments of its shape. No condition. -/
import Derived.Test.YtgejjocbhonkjaaDoorKt
namespace Go.Vm
open Go.Proofs
set_option linter.unusedVariables false
noncomputable def s_conciergeref09_Quote : Spec Kd := { params := [(.a .str)], ret := (.one (.a .str)), pins := [], pl := { nt := 79, bjoins := [(1, (.norm, ⟨[.tmp 0 (.a .str), .tmp 3 (.a .str), .tmp 4 (.a .str), .tmp 5 (.a (.int .i64))], [], []⟩), [])], loops := [(0, ⟨[.tmp 0 (.a .str), .tmp 3 (.a .str), .tmp 4 (.a .str), .tmp 5 (.a (.int .i64))], [], []⟩, (.exit 0, ⟨[.tmp 4 (.a .str)], [], []⟩), [])], cuts := [(7, [(6, ⟨[.tmp 0 (.a .str), .tmp 3 (.a .str), .tmp 4 (.a .str), .tmp 5 (.a (.int .i64)), .tmp 6 (.a (.int .u8)), .tmp 21 (.a .bool)], [], []⟩)])] }, rfrz := [], ts := [2] }
noncomputable def e_conciergeref09_Quote (F : Nat) : Env El := envN
/-- concierge/conciergeref09.Quote -/
noncomputable def M_conciergeref09_Quote_l0 (F : Nat) (v0 : (List UInt8 × List UInt8 × List UInt8 × Int × Unit)) : Option ((List UInt8 × List UInt8 × List UInt8 × Int × Unit) ⊕ (List UInt8 × Unit)) :=
  if decide (v0.2.2.2.1 < (↑v0.1.length : Int)) = true then
          ((idx v0.1 v0.2.2.2.1).bind fun v1 =>
                (if decide ((↑v1.toNat : Int) = 34) = false then
                      some (v0.1, v0.2.1, v0.2.2.1, v0.2.2.2.1, (↑v1.toNat : Int), decide ((↑v1.toNat : Int) = 92), ())
                    else some (v0.1, v0.2.1, v0.2.2.1, v0.2.2.2.1, (↑v1.toNat : Int), true, ())).bind
                  fun v2 =>
                  if v2.2.2.2.2.2.1 = true then
                    if decide (v2.2.2.1.length + [92].length ≤ 9223372036854775807) = true then
                      (sub v2.1 v2.2.2.2.1 (IntKind.i64.wrap (v2.2.2.2.1 + 1))).bind fun v3 =>
                        if decide ((v2.2.2.1 ++ [92]).length + v3.length ≤ 9223372036854775807) = true then
                          some (v2.1, v2.2.1, v2.2.2.1 ++ [92] ++ v3, v2.2.2.2.1, ())
                        else none
                    else none
                  else
                    if decide (v2.2.2.2.2.1 = 8) = true then
                      if decide (v2.2.2.1.length + [92, 98].length ≤ 9223372036854775807) = true then some (v2.1, v2.2.1, v2.2.2.1 ++ [92, 98], v2.2.2.2.1, ())
                      else none
                    else
                      if decide (v2.2.2.2.2.1 = 9) = true then
                        if decide (v2.2.2.1.length + [92, 116].length ≤ 9223372036854775807) = true then
                          some (v2.1, v2.2.1, v2.2.2.1 ++ [92, 116], v2.2.2.2.1, ())
                        else none
                      else
                        if decide (v2.2.2.2.2.1 = 10) = true then
                          if decide (v2.2.2.1.length + [92, 110].length ≤ 9223372036854775807) = true then
                            some (v2.1, v2.2.1, v2.2.2.1 ++ [92, 110], v2.2.2.2.1, ())
                          else none
                        else
                          if decide (v2.2.2.2.2.1 = 12) = true then
                            if decide (v2.2.2.1.length + [92, 102].length ≤ 9223372036854775807) = true then
                              some (v2.1, v2.2.1, v2.2.2.1 ++ [92, 102], v2.2.2.2.1, ())
                            else none
                          else
                            if decide (v2.2.2.2.2.1 = 13) = true then
                              if decide (v2.2.2.1.length + [92, 114].length ≤ 9223372036854775807) = true then
                                some (v2.1, v2.2.1, v2.2.2.1 ++ [92, 114], v2.2.2.2.1, ())
                              else none
                            else
                              if decide (v2.2.2.2.2.1 < 32) = true then
                                if decide (v2.2.2.1.length + [92, 117, 48, 48].length ≤ 9223372036854775807) = true then
                                  (sub v2.2.1 (IntKind.u8.wrap (v2.2.2.2.2.1.tdiv 16)) (IntKind.u8.wrap (IntKind.u8.wrap (v2.2.2.2.2.1.tdiv 16) + 1))).bind
                                    fun v4 =>
                                    if decide ((v2.2.2.1 ++ [92, 117, 48, 48]).length + v4.length ≤ 9223372036854775807) = true then
                                      (sub v2.2.1 (v2.2.2.2.2.1.tmod 16) (IntKind.u8.wrap (v2.2.2.2.2.1.tmod 16 + 1))).bind fun v5 =>
                                        if decide ((v2.2.2.1 ++ [92, 117, 48, 48] ++ v4).length + v5.length ≤ 9223372036854775807) = true then
                                          some (v2.1, v2.2.1, v2.2.2.1 ++ [92, 117, 48, 48] ++ v4 ++ v5, v2.2.2.2.1, ())
                                        else none
                                    else none
                                else none
                              else
                                (sub v2.1 v2.2.2.2.1 (IntKind.i64.wrap (v2.2.2.2.1 + 1))).bind fun v6 =>
                                  if decide (v2.2.2.1.length + v6.length ≤ 9223372036854775807) = true then some (v2.1, v2.2.1, v2.2.2.1 ++ v6, v2.2.2.2.1, ())
                                  else none).bind
            fun v7 => some (Sum.inl (v7.1, v7.2.1, v7.2.2.1, IntKind.i64.wrap (v7.2.2.2.1 + 1), ()))
        else some (Sum.inr (v0.2.2.1, ()))
noncomputable def M_conciergeref09_Quote (F : Nat) (x : (List UInt8)) : Option (List UInt8) :=
  (loopM (M_conciergeref09_Quote_l0 F)
        F (x, [48, 49, 50, 51, 52, 53, 54, 55, 56, 57, 97, 98, 99, 100, 101, 102], [34], 0, ())).bind
    fun v8 => if decide (v8.1.length + [34].length ≤ 9223372036854775807) = true then some (v8.1 ++ [34]) else none
theorem t_conciergeref09_Quote (x : (List UInt8)) (F : Nat) : fnRun TT Tryd.prog (e_conciergeref09_Quote F) s_conciergeref09_Quote (bodyOf 29) F x = M_conciergeref09_Quote F x := by kernel_rfl
theorem c_conciergeref09_Quote (F : Nat) : Ctr TT Tryd.prog 29 (conOf TT s_conciergeref09_Quote (M_conciergeref09_Quote F)) :=
  ctr_of (code := bodyOf 29) Tryd.func29 (by kernel_rfl) (by kernel_rfl) (by kernel_rfl) (by kernel_rfl) envN_ok hm (by kernel_rfl) (fun x r h => ⟨F, (t_conciergeref09_Quote x F).trans h⟩)
theorem mo_conciergeref09_Quote_l0 {F F' : Nat} (h : F ≤ F') : ∀ v, Le (M_conciergeref09_Quote_l0 F v) (M_conciergeref09_Quote_l0 F' v) := by
  intro v
  unfold M_conciergeref09_Quote_l0
  with_reducible repeat (first | (intro v) | exact Le.refl _ | exact h | apply Le.bind | apply Le.ite | apply Le.loop | apply Le.sumC)
theorem mo_conciergeref09_Quote {F F' : Nat} (h : F ≤ F') : ∀ v, Le (M_conciergeref09_Quote F v) (M_conciergeref09_Quote F' v) := by
  intro v
  unfold M_conciergeref09_Quote
  with_reducible repeat (first | (intro v) | exact Le.refl _ | exact h | exact mo_conciergeref09_Quote_l0 h | exact mo_conciergeref09_Quote_l0 h _ | apply Le.bind | apply Le.ite | apply Le.loop | apply Le.sumC)

end Go.Vm
