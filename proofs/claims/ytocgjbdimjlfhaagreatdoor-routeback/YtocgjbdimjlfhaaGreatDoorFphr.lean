/- Models of functions of the program, and that each keeps its contract: for all arguments of its shape. No condition. -/
import Derived.Test.YtocgjbdimjlfhaaGreatDoorKt
import Derived.Test.YtocgjbdimjlfhaaGreatDoorFjson
import Derived.Test.YtocgjbdimjlfhaaGreatDoorFbld
import Derived.Test.YtocgjbdimjlfhaaGreatDoorFsort
import Derived.Test.YtocgjbdimjlfhaaGreatDoorFtrim
namespace Go.Vm
open Go.Proofs
set_option linter.unusedVariables false
noncomputable def s_phrase_Name : Spec Kd := { params := [(.a .str)], ret := (.one (.a .bool)), pins := [], pl := { nt := 15, cuts := [(1, [(7, ⟨[.tmp 0 (.a .str), .tmp 9 (.a .bool)], [], []⟩), (5, ⟨[.tmp 14 (.a .bool)], [], []⟩)])] }, rfrz := [], ts := [2] }
noncomputable def e_phrase_Name (F : Nat) : Env El := (envS 93 (conOf TT s_strings_Trim (M_strings_Trim F)) envN)
noncomputable def M_phrase_Name (F : Nat) (x : (List UInt8)) : Option (Bool) :=
  (if (!decide (x = [])) = true then some (x, decide ((↑x.length : Int) ≤ 12), ()) else some (x, false, ())).bind fun v0 =>
    (if v0.2.1 = true then
          (M_strings_Trim F
                (v0.1,
                  [97, 98, 99, 100, 101, 102, 103, 104, 105, 106, 107, 108, 109, 110, 111, 112, 113, 114, 115, 116, 117, 118, 119, 120, 121, 122, 48, 49, 50, 51,
                    52, 53, 54, 55, 56, 57])).bind
            fun v1 => some (decide (v1 = []), ())
        else some (false, ())).bind
      fun v2 => some v2.1
theorem t_phrase_Name (x : (List UInt8)) (F : Nat) : fnRun TT Tryz.prog (e_phrase_Name F) s_phrase_Name (bodyOf 48) F x = M_phrase_Name F x := by kernel_rfl
theorem c_phrase_Name (F : Nat) : Ctr TT Tryz.prog 48 (conOf TT s_phrase_Name (M_phrase_Name F)) :=
  ctr_of (code := bodyOf 48) Tryz.func48 (by kernel_rfl) (by kernel_rfl) (by kernel_rfl) (by kernel_rfl) (envS_ok envN_ok (c_strings_Trim F)) hm (by kernel_rfl) (fun x r h => ⟨F, (t_phrase_Name x F).trans h⟩)
noncomputable def s_phrase_gap : Spec Kd := { params := [(.a .str)], ret := (.one (.a .str)), pins := [], pl := { nt := 33, cuts := [(6, [(7, ⟨[.tmp 0 (.a .str), .tmp 3 (.a (.int .i64)), .tmp 21 (.a .bool)], [], []⟩), (7, ⟨[.tmp 0 (.a .str), .tmp 3 (.a (.int .i64)), .tmp 28 (.a .bool)], [], []⟩)])] }, rfrz := [], ts := [2] }
noncomputable def e_phrase_gap (F : Nat) : Env El := (envS 48 (conOf TT s_phrase_Name (M_phrase_Name F)) (envS 167 (conOf TT s_strings_IndexByte (M_strings_IndexByte F)) envN))
noncomputable def M_phrase_gap (F : Nat) (x : (List UInt8)) : Option (List UInt8) :=
  if decide ((↑x.length : Int) < 2) = true then some []
  else
    (idx x 1).bind fun v0 =>
      (M_strings_IndexByte F ([37, 98, 107, 109, 112], (↑v0.toNat : Int))).bind fun v1 =>
        if decide (0 ≤ v1) = true then (sub x 0 2).bind fun v2 => some v2
        else
          (M_strings_IndexByte F (x, 125)).bind fun v3 =>
            ((idx x 1).bind fun v4 => if (!decide ((↑v4.toNat : Int) = 123)) = false then some (x, v3, decide (v3 < 0), ()) else some (x, v3, true, ())).bind
              fun v5 =>
              (if v5.2.2.1 = false then (sub v5.1 2 v5.2.1).bind fun v6 => (M_phrase_Name F v6).bind fun v7 => some (v5.1, v5.2.1, !v7, ())
                  else some (v5.1, v5.2.1, true, ())).bind
                fun v8 => if v8.2.2.1 = true then some [] else (sub v8.1 0 (IntKind.i64.wrap (v8.2.1 + 1))).bind fun v9 => some v9
theorem t_phrase_gap (x : (List UInt8)) (F : Nat) : fnRun TT Tryz.prog (e_phrase_gap F) s_phrase_gap (bodyOf 122) F x = M_phrase_gap F x := by kernel_rfl
theorem c_phrase_gap (F : Nat) : Ctr TT Tryz.prog 122 (conOf TT s_phrase_gap (M_phrase_gap F)) :=
  ctr_of (code := bodyOf 122) Tryz.func122 (by kernel_rfl) (by kernel_rfl) (by kernel_rfl) (by kernel_rfl) (envS_ok (envS_ok envN_ok (c_strings_IndexByte F)) (c_phrase_Name F)) hm (by kernel_rfl) (fun x r h => ⟨F, (t_phrase_gap x F).trans h⟩)
noncomputable def s_phrase_cut : Spec Kd := { params := [(.a .str)], ret := (.tup [(.a (.row 125 .pc)), (.a .bool)]), pins := [], pl := { nt := 52, orc := { rv := [2, 4, 42, 45, 51], gv := [] }, joins := [(1400033, (.norm, ⟨[.tmp 0 (.a .str), .tmp 4 (.a (.rowp 256)), .tmp 6 (.a (.int .i64)), .tmp 8 (.a (.ptr 512 0)), .tmp 13 (.a (.ptr 832 0)), .box 832 .siter, .box 256 (.row 125 .pc), .box 512 (.cells 125 [.bool, .str])], [], [.tmpRow 4 256 125 .pc]⟩), [(.ret, ⟨[.tmp 2 (.a (.rowp 128)), .tmp 3 (.a .bool), .box 128 (.row 125 .pc)], [], [.tmpRow 2 128 125 .pc]⟩)])], loops := [(0, ⟨[.tmp 0 (.a .str), .tmp 4 (.a (.rowp 256)), .tmp 5 (.a (.int .i64)), .tmp 13 (.a (.ptr 832 0)), .box 832 .siter, .box 256 (.row 125 .pc)], [], [.tmpRow 4 256 125 .pc]⟩, (.exit 0, ⟨[.tmp 4 (.a (.rowp 256)), .box 256 (.row 125 .pc)], [], [.tmpRow 4 256 125 .pc]⟩), [(.ret, ⟨[.tmp 2 (.a (.rowp 128)), .tmp 3 (.a .bool), .box 128 (.row 125 .pc)], [], [.tmpRow 2 128 125 .pc]⟩)])], cuts := [(11, [(10, ⟨[.tmp 0 (.a .str), .tmp 4 (.a (.rowp 256)), .tmp 6 (.a (.int .i64)), .tmp 7 (.a (.int .i32)), .tmp 8 (.a (.ptr 512 0)), .tmp 13 (.a (.ptr 832 0)), .box 832 .siter, .box 256 (.row 125 .pc), .box 512 (.cells 125 [.bool, .str])], [], [.tmpRow 4 256 125 .pc]⟩)])] }, rfrz := [], ts := [2, 3] }
noncomputable def e_phrase_cut (F : Nat) : Env El := (envS 122 (conOf TT s_phrase_gap (M_phrase_gap F)) (envS 96 (conOf TT s_unicode_utf8_RuneLen (M_unicode_utf8_RuneLen F)) (envS 95 (conOf TT s_sign_Sort (M_sign_Sort F)) envN)))
noncomputable def M_phrase_cut_l0 (F : Nat) (v0 : (List UInt8 × Unit × Int × Unit × (List UInt8 × Nat) × List (Bool × List UInt8 × Unit) × Unit)) : Option ((List UInt8 × Unit × Int × Unit × (List UInt8 × Nat) × List (Bool × List UInt8 × Unit) × Unit) ⊕ (Unit × List (Bool × List UInt8 × Unit) × Unit ⊕ Unit × Bool × List (Bool × List UInt8 × Unit) × Unit)) :=
  if decide (v0.2.2.2.2.1.2 < v0.2.2.2.2.1.1.length) = true then
            if decide ((↑v0.2.2.2.2.1.2 : Int) < v0.2.2.1) = true then
              some (Sum.inl (v0.1, (), v0.2.2.1, (), (v0.2.2.2.2.1.1, v0.2.2.2.2.1.2 + runeLen v0.2.2.2.2.1.1 v0.2.2.2.2.1.2), v0.2.2.2.2.2.1, ()))
            else
              (M_sign_Sort F (runeAt v0.2.2.2.2.1.1 v0.2.2.2.2.1.2)).bind fun v1 =>
                if decide (v1 = 0) = true then some (Sum.inr (Sum.inr ((), false, [], ())))
                else
                  ((M_unicode_utf8_RuneLen F (runeAt v0.2.2.2.2.1.1 v0.2.2.2.2.1.2)).bind fun v2 =>
                        (sub v0.1 (↑v0.2.2.2.2.1.2 : Int) (IntKind.i64.wrap ((↑v0.2.2.2.2.1.2 : Int) + v2))).bind fun v3 =>
                          some
                            (v0.1, (), (↑v0.2.2.2.2.1.2 : Int), runeAt v0.2.2.2.2.1.1 v0.2.2.2.2.1.2, (), (),
                              (v0.2.2.2.2.1.1, v0.2.2.2.2.1.2 + runeLen v0.2.2.2.2.1.1 v0.2.2.2.2.1.2), v0.2.2.2.2.2.1, (false, v3, ()), ())).bind
                    fun v4 =>
                    (if decide (v4.2.2.2.1 = 37) = true then
                          (sub v4.1 v4.2.2.1 (↑v4.1.length : Int)).bind fun v5 =>
                            (M_phrase_gap F v5).bind fun v6 =>
                              if decide (v6 = []) = true then some (Sum.inr ((), false, [], ()))
                              else some (Sum.inl (v4.1, (), v4.2.2.1, (), (), v4.2.2.2.2.2.2.1, v4.2.2.2.2.2.2.2.1, (true, v6, ()), ()))
                        else some (Sum.inl (v4.1, (), v4.2.2.1, v4.2.2.2.2))).bind
                      fun v7 =>
                      sumC v7
                        (fun v8 =>
                          if
                              decide ((v8.2.2.2.2.2.2.1.length + [(v8.2.2.2.2.2.2.2.1.1, v8.2.2.2.2.2.2.2.1.2.1, Unit.unit)].length) * 24 ≤ 140737488355328) =
                                true then
                            some
                              (Sum.inl
                                (v8.1, (), IntKind.i64.wrap (v8.2.2.1 + (↑v8.2.2.2.2.2.2.2.1.2.1.length : Int)), (), v8.2.2.2.2.2.1,
                                  v8.2.2.2.2.2.2.1 ++ [(v8.2.2.2.2.2.2.2.1.1, v8.2.2.2.2.2.2.2.1.2.1, Unit.unit)], ()))
                          else none)
                        fun v9 => some (Sum.inr (Sum.inr ((), v9.2.1, v9.2.2.1, ())))
          else some (Sum.inr (Sum.inl ((), v0.2.2.2.2.2.1, ())))
noncomputable def M_phrase_cut (F : Nat) (x : (List UInt8)) : Option ((List (El .pc)) × (Bool)) :=
  if decide (60 < (↑x.length : Int)) = true then some ([], false)
  else
    (loopM (M_phrase_cut_l0 F)
          F (x, (), 0, (), (x, 0), [], ())).bind
      fun v10 => sumC v10 (fun v11 => some (v11.2.1, true)) fun v12 => some (v12.2.2.1, v12.2.1)
theorem t_phrase_cut (x : (List UInt8)) (F : Nat) : fnRun TT Tryz.prog (e_phrase_cut F) s_phrase_cut (bodyOf 89) F x = M_phrase_cut F x := by kernel_rfl
theorem c_phrase_cut (F : Nat) : Ctr TT Tryz.prog 89 (conOf TT s_phrase_cut (M_phrase_cut F)) :=
  ctr_of (code := bodyOf 89) Tryz.func89 (by kernel_rfl) (by kernel_rfl) (by kernel_rfl) (by kernel_rfl) (envS_ok (envS_ok (envS_ok envN_ok (c_sign_Sort F)) (c_unicode_utf8_RuneLen F)) (c_phrase_gap F)) hm (by kernel_rfl) (fun x r h => ⟨F, (t_phrase_cut x F).trans h⟩)
noncomputable def s_phrase_Check : Spec Kd := { params := [(.a .str)], ret := (.one (.a .bool)), pins := [], pl := { nt := 11 }, rfrz := [], ts := [2] }
noncomputable def e_phrase_Check (F : Nat) : Env El := (envS 89 (conOf TT s_phrase_cut (M_phrase_cut F)) envN)
noncomputable def M_phrase_Check (F : Nat) (x : (List UInt8)) : Option (Bool) :=
  (M_phrase_cut F x).bind fun v0 => some v0.2
theorem t_phrase_Check (x : (List UInt8)) (F : Nat) : fnRun TT Tryz.prog (e_phrase_Check F) s_phrase_Check (bodyOf 46) F x = M_phrase_Check F x := by kernel_rfl
theorem c_phrase_Check (F : Nat) : Ctr TT Tryz.prog 46 (conOf TT s_phrase_Check (M_phrase_Check F)) :=
  ctr_of (code := bodyOf 46) Tryz.func46 (by kernel_rfl) (by kernel_rfl) (by kernel_rfl) (by kernel_rfl) (envS_ok envN_ok (c_phrase_cut F)) hm (by kernel_rfl) (fun x r h => ⟨F, (t_phrase_Check x F).trans h⟩)
end Go.Vm
