/- Models of functions of the program, and that each keeps its contract: for all arguments of its shape. No condition. -/
import Derived.Test.YtgeafoacmnlioaaDoorKt
import Derived.Test.YtgeafoacmnlioaaDoorFref4
import Derived.Test.YtgeafoacmnlioaaDoorFnum
namespace Go.Vm
open Go.Proofs
set_option linter.unusedVariables false
noncomputable def s_conciergeref01_Text : Spec Kd := { params := [(.a .str)], ret := (.one (.a .str)), pins := [], pl := { nt := 8 }, rfrz := [], ts := [2] }
noncomputable def e_conciergeref01_Text (F : Nat) : Env El := (envS 42 (conOf TT s_conciergeref01_Num (M_conciergeref01_Num F)) envN)
noncomputable def M_conciergeref01_Text (F : Nat) (x : (List UInt8)) : Option (List UInt8) :=
  (M_conciergeref01_Num F (↑x.length : Int)).bind fun v0 => if decide (v0.length + x.length ≤ 9223372036854775807) = true then some (v0 ++ x) else none
theorem t_conciergeref01_Text (x : (List UInt8)) (F : Nat) : fnRun TT Tryd.prog (e_conciergeref01_Text F) s_conciergeref01_Text (bodyOf 43) F x = M_conciergeref01_Text F x := by kernel_rfl
theorem c_conciergeref01_Text (F : Nat) : Ctr TT Tryd.prog 43 (conOf TT s_conciergeref01_Text (M_conciergeref01_Text F)) :=
  ctr_of (code := bodyOf 43) Tryd.func43 (by kernel_rfl) (by kernel_rfl) (by kernel_rfl) (by kernel_rfl) (envS_ok envN_ok (c_conciergeref01_Num F)) hm (by kernel_rfl) (fun x r h => ⟨F, (t_conciergeref01_Text x F).trans h⟩)
theorem mo_conciergeref01_Text {F F' : Nat} (h : F ≤ F') : ∀ v, Le (M_conciergeref01_Text F v) (M_conciergeref01_Text F' v) := by
  intro v
  unfold M_conciergeref01_Text
  with_reducible repeat (first | (intro v) | exact Le.refl _ | exact h | exact mo_conciergeref01_Num h _ | apply Le.bind | apply Le.ite | apply Le.loop | apply Le.sumC)
noncomputable def s_conciergeref05_Key : Spec Kd := { params := [(.a .str)], ret := (.one (.a .bool)), pins := [], pl := { nt := 58, loops := [(0, ⟨[.tmp 3 (.a (.slc .i64)), .tmp 5 (.a (.int .i64))], [1089, 1090], []⟩, (.exit 0, ⟨[], [1089, 1090], []⟩), [(.ret, ⟨[.tmp 2 (.a .bool)], [1089, 1090], []⟩)])], cuts := [(8, [(6, ⟨[.tmp 3 (.a (.slc .i64)), .tmp 5 (.a (.int .i64)), .tmp 36 (.a .bool)], [1089, 1090], []⟩), (7, ⟨[.tmp 3 (.a (.slc .i64)), .tmp 5 (.a (.int .i64)), .tmp 43 (.a .bool)], [1089, 1090], []⟩), (7, ⟨[.tmp 3 (.a (.slc .i64)), .tmp 5 (.a (.int .i64)), .tmp 50 (.a .bool)], [1089, 1090], []⟩), (7, ⟨[.tmp 3 (.a (.slc .i64)), .tmp 5 (.a (.int .i64)), .tmp 57 (.a .bool)], [1089, 1090], []⟩)]), (1, [(8, ⟨[.tmp 0 (.a .str), .tmp 14 (.a .bool)], [1089, 1090], []⟩)])] }, rfrz := [], ts := [2] }
noncomputable def e_conciergeref05_Key (F : Nat) : Env El := (envS 73 (conOf TT s_conciergeref04_Sort (M_conciergeref04_Sort F)) (envS 72 (conOf TT s_conciergeref04_Signs (M_conciergeref04_Signs F)) envN))
noncomputable def M_conciergeref05_Key_l0 (F : Nat) (v2 : (List Int × Int × Unit)) : Option ((List Int × Int × Unit) ⊕ (Unit ⊕ Bool × Unit)) :=
  if decide (v2.2.1 < (↑v2.1.length : Int)) = true then
                (idx v2.1 v2.2.1).bind fun v3 =>
                  (M_conciergeref04_Sort F v3).bind fun v4 =>
                    (if (!decide (v4 = 2)) = true then some (v2.1, v2.2.1, !decide (v4 = 3), ()) else some (v2.1, v2.2.1, false, ())).bind fun v5 =>
                      (if v5.2.2.1 = true then (idx v5.1 v5.2.1).bind fun v6 => some (v5.1, v5.2.1, !decide (v6 = 45), ())
                          else some (v5.1, v5.2.1, false, ())).bind
                        fun v7 =>
                        (if v7.2.2.1 = true then (idx v7.1 v7.2.1).bind fun v8 => some (v7.1, v7.2.1, !decide (v8 = 95), ())
                            else some (v7.1, v7.2.1, false, ())).bind
                          fun v9 =>
                          (if v9.2.2.1 = true then (idx v9.1 v9.2.1).bind fun v10 => some (v9.1, v9.2.1, !decide (v10 = 46), ())
                              else some (v9.1, v9.2.1, false, ())).bind
                            fun v11 =>
                            if v11.2.2.1 = true then some (Sum.inr (Sum.inr (false, ()))) else some (Sum.inl (v11.1, IntKind.i64.wrap (v11.2.1 + 1), ()))
              else some (Sum.inr (Sum.inl ()))
noncomputable def M_conciergeref05_Key (F : Nat) (x : (List UInt8)) : Option (Bool) :=
  (if decide ((↑x.length : Int) < 1) = false then some (x, decide (24 < (↑x.length : Int)), ()) else some (x, true, ())).bind fun v0 =>
    if v0.2.1 = true then some false
    else
      (M_conciergeref04_Signs F v0.1).bind fun v1 =>
        (loopM (M_conciergeref05_Key_l0 F)
              F (v1.1, 0, ())).bind
          fun v12 => sumC v12 (fun v13 => some true) fun v14 => some v14.1
theorem t_conciergeref05_Key (x : (List UInt8)) (F : Nat) : fnRun TT Tryd.prog (e_conciergeref05_Key F) s_conciergeref05_Key (bodyOf 40) F x = M_conciergeref05_Key F x := by kernel_rfl
theorem c_conciergeref05_Key (F : Nat) : Ctr TT Tryd.prog 40 (conOf TT s_conciergeref05_Key (M_conciergeref05_Key F)) :=
  ctr_of (code := bodyOf 40) Tryd.func40 (by kernel_rfl) (by kernel_rfl) (by kernel_rfl) (by kernel_rfl) (envS_ok (envS_ok envN_ok (c_conciergeref04_Signs F)) (c_conciergeref04_Sort F)) hm (by kernel_rfl) (fun x r h => ⟨F, (t_conciergeref05_Key x F).trans h⟩)
end Go.Vm
