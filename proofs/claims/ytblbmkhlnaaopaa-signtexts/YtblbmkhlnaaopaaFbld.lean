/- Models of functions of the program, and that each keeps its contract: for all arguments of its shape. No condition. -/
import Derived.Test.YtblbmkhlnaaopaaKt
import Derived.Test.YtblbmkhlnaaopaaV5
namespace Go.Vm
open Go.Proofs
set_option linter.unusedVariables false

namespace Bld
open Go.Proofs Go.Shelf Go.RowKit
theorem bx72 : ∃ j, Try.prog.info? 58 = some j ∧ j.size = 2 := by
  have h : (Try.prog.info? 58).map (·.size) = some 2 := by kernel_rfl
  exact Option.map_eq_some_iff.1 h
theorem blies : liesAt Try.prog Try.prog.depth 58 (2 / Try.prog.cellsOf 58) 0 58 1 = true := by kernel_rfl
set_option maxHeartbeats 1000000 in
set_option maxRecDepth 100000 in
theorem copy_used (b : Nat) (w : World) (h0 : w.cell? ⟨b, 0, none⟩ = some (.pointer (some ⟨b, 0, none⟩))) :
    Calls Try.prog 66 #[.pointer (some ⟨b, 0, none⟩)] w fun e w' => e = .returned (.tuple #[]) ∧ w' = w := by
  obtain ⟨j, hj, _⟩ := bx72
  go_enter Try.func66, Try.ntmps66
  go_wp2
  rw [Lib.run_neq_ptr_same w _ Try.underlying56 hj]
  go_wp2
  go_end0
  exact ⟨rfl, rfl⟩
set_option maxHeartbeats 1000000 in
set_option maxRecDepth 100000 in
theorem copy_fresh (b : Nat) (w : World) (h0 : w.cell? ⟨b, 0, none⟩ = some (.pointer none)) (hsh : w.shape? b = some (58, 2)) (hfz : w.frozen? ⟨b, 0, none⟩ = false) :
    Calls Try.prog 66 #[.pointer (some ⟨b, 0, none⟩)] w fun e w' => e = .returned (.tuple #[]) ∧ w' = w.setCell ⟨b, 0, none⟩ (.pointer (some ⟨b, 0, none⟩)) := by
  obtain ⟨j, hj, hjs⟩ := bx72
  go_enter Try.func66, Try.ntmps66
  go_wp2
  rw [Lib.run_to_unsafe w ⟨b, 0, none⟩ Try.underlying56 Try.underlying88 hj (by rw [hjs]; decide) hsh (Nat.zero_lt_succ 1)]
  simp only [Result.andThen]
  rw [Oper.upon_value]
  go_wp2
  rw [run_callFunc_extern Try.func73 (by kernel_rfl) (by kernel_rfl) (by kernel_rfl) (e := Extern.AbiNoEscape.same) (by kernel_rfl)]
  rw [Lib.run_noEscape]
  simp only [Result.andThen]
  rw [Oper.upon_value]
  go_wp2
  rw [Lib.run_from_unsafe w ⟨b, 0, none⟩ Try.underlying88 Try.underlying56 hj hsh blies]
  simp only [Result.andThen]
  rw [Oper.upon_value]
  go_wp2
  go_end0
  exact ⟨rfl, rfl⟩
def ren : Ren := ⟨fun | 169 => 46 | n => n, fun | 70 => 56 | 9 => 9 | 0 => 0 | 72 => 58 | 37 => 55 | 127 => 80 | 3 => 3 | 5 => 5 | n => n, fun | n => n⟩
theorem lays : Lays.n169 Try.prog ren := { mixed := (by kernel_rfl), f169 := Try.func46.trans (congrArg some (by kernel_rfl)), t0 := Try.underlying0, a0 := Try.isAgg0, z0 := Try.sizeOf0, v0 := Try.zeroValue0, t3 := Try.underlying3, a3 := Try.isAgg3, z3 := Try.sizeOf3, v3 := Try.zeroValue3, t9 := Try.underlying9, a9 := Try.isAgg9, z9 := Try.sizeOf9, v9 := Try.zeroValue9, t37 := Try.underlying55, a37 := Try.isAgg55, z37 := Try.sizeOf55, v37 := Try.zeroValue55, t70 := Try.underlying56, a70 := Try.isAgg56, z70 := Try.sizeOf56, v70 := Try.zeroValue56, t72 := Try.underlying58, a72 := Try.isAgg58, z72 := Try.sizeOf58, v72 := Try.zeroValue58, t127 := Try.underlying80, a127 := Try.isAgg80, z127 := Try.sizeOf80, v127 := Try.zeroValue80 }
theorem extra : Builder.Extra Try.prog ren := { sizeBuilder := (by kernel_rfl), liesBuilder := (by kernel_rfl), t5 := Try.underlying5, a5 := Try.isAgg5, z5 := Try.sizeOf5, v5 := Try.zeroValue5, infoByte := (by kernel_rfl), cellsByte := (by kernel_rfl), sizeByte := (by kernel_rfl), neB5 := (by decide) }
end Bld
noncomputable def s_strings_Builder_copyCheck : Spec Kd := sCopy 58 5
noncomputable def M_strings_Builder_copyCheck (F : Nat) (x : Unit × List UInt8 × Unit) : Option (Unit × (Unit × List UInt8 × Unit)) := some ((), x)
theorem mo_strings_Builder_copyCheck {F F' : Nat} (h : F ≤ F') : ∀ v, Le (M_strings_Builder_copyCheck F v) (M_strings_Builder_copyCheck F' v) := fun _ => Le.refl _
theorem c_strings_Builder_copyCheck (F : Nat) : Ctr TT Try.prog 66 (conOf TT s_strings_Builder_copyCheck (M_strings_Builder_copyCheck F)) := ctr_copy Try.func66 (by kernel_rfl) (by kernel_rfl) 5 Bld.copy_fresh Bld.copy_used

noncomputable def s_strings_Builder_String : Spec Kd := sBStr 58 5
noncomputable def M_strings_Builder_String (F : Nat) (x : Unit × List UInt8 × Unit) : Option (List UInt8 × (Unit × Unit × Unit)) := some (x.2.1, ((), (), ()))
theorem mo_strings_Builder_String {F F' : Nat} (h : F ≤ F') : ∀ v, Le (M_strings_Builder_String F v) (M_strings_Builder_String F' v) := fun _ => Le.refl _
theorem c_strings_Builder_String (F : Nat) : Ctr TT Try.prog 46 (conOf TT s_strings_Builder_String (M_strings_Builder_String F)) := ctr_bstr (ρ := Bld.ren) Bld.lays Bld.extra Try.func46 (by kernel_rfl) (by kernel_rfl) rfl
noncomputable def s_unicode_utf8_appendRuneNonASCII : Spec Kd := { params := [(.a (.row 5 .u8)), (.a (.int .i32))], ret := (.one (.a (.row 5 .u8))), pins := [], pl := { nt := 78, orc := { rv := [4, 8, 10, 14, 24, 34, 49, 57, 77], gv := [] }, joins := [(700025, (.norm, ⟨[.tmp 0 (.a (.rowp 1)), .tmp 1 (.a (.int .i32)), .tmp 5 (.a (.int .u32)), .tmp 25 (.a .bool), .box 1 (.row 5 .u8)], [], [.tmpRow 0 1 5 .u8]⟩), [])], cuts := [(4, [(12, ⟨[.tmp 4 (.a (.rowp 256)), .box 256 (.row 5 .u8)], [], [.tmpRow 4 256 5 .u8]⟩)]), (7, [(17, ⟨[.tmp 4 (.a (.rowp 256)), .box 256 (.row 5 .u8)], [], [.tmpRow 4 256 5 .u8]⟩)]), (9, [(22, ⟨[.tmp 4 (.a (.rowp 256)), .box 256 (.row 5 .u8)], [], [.tmpRow 4 256 5 .u8]⟩)]), (8, [(6, ⟨[.tmp 0 (.a (.rowp 1)), .tmp 1 (.a (.int .i32)), .tmp 56 (.a .bool), .box 1 (.row 5 .u8)], [], [.tmpRow 0 1 5 .u8]⟩)]), (6, [(6, ⟨[.tmp 0 (.a (.rowp 1)), .tmp 1 (.a (.int .i32)), .tmp 5 (.a (.int .u32)), .tmp 33 (.a .bool), .box 1 (.row 5 .u8)], [], [.tmpRow 0 1 5 .u8]⟩)])] }, rfrz := [], ts := [4] }
noncomputable def e_unicode_utf8_appendRuneNonASCII (F : Nat) : Env El := envN
/-- unicode/utf8.appendRuneNonASCII -/
noncomputable def M_unicode_utf8_appendRuneNonASCII (F : Nat) (x : (List (El .u8)) × (Int)) : Option (List (El .u8)) :=
  if decide (IntKind.u32.wrap x.2 ≤ 2047) = true then
    (if
            decide
                ((x.1.length +
                      [UInt8.ofNat (ior IntKind.u8 192 (IntKind.u8.wrap (shr IntKind.i32 x.2 6))).toNat,
                          UInt8.ofNat (ior IntKind.u8 128 (iand IntKind.u8 (IntKind.u8.wrap x.2) 63)).toNat].length) *
                    1 ≤
                  140737488355328) =
              true then
          some
            ((),
              x.1 ++
                [UInt8.ofNat (ior IntKind.u8 192 (IntKind.u8.wrap (shr IntKind.i32 x.2 6))).toNat,
                  UInt8.ofNat (ior IntKind.u8 128 (iand IntKind.u8 (IntKind.u8.wrap x.2) 63)).toNat],
              ())
        else none).bind
      fun v0 => some v0.2.1
  else
    (if decide (IntKind.u32.wrap x.2 < 55296) = true then some ((), x.2, IntKind.u32.wrap x.2, decide (IntKind.u32.wrap x.2 < 55296), x.1, ())
        else
          (if decide (57343 < IntKind.u32.wrap x.2) = true then some ((), x.2, IntKind.u32.wrap x.2, decide (IntKind.u32.wrap x.2 ≤ 65535), x.1, ())
              else some ((), x.2, IntKind.u32.wrap x.2, false, x.1, ())).bind
            fun v1 => some ((), v1.2.1, v1.2.2.1, v1.2.2.2.1, v1.2.2.2.2.1, ())).bind
      fun v2 =>
      if v2.2.2.2.1 = true then
        (if
                decide
                    ((v2.2.2.2.2.1.length +
                          [UInt8.ofNat (ior IntKind.u8 224 (IntKind.u8.wrap (shr IntKind.i32 v2.2.1 12))).toNat,
                              UInt8.ofNat (ior IntKind.u8 128 (iand IntKind.u8 (IntKind.u8.wrap (shr IntKind.i32 v2.2.1 6)) 63)).toNat,
                              UInt8.ofNat (ior IntKind.u8 128 (iand IntKind.u8 (IntKind.u8.wrap v2.2.1) 63)).toNat].length) *
                        1 ≤
                      140737488355328) =
                  true then
              some
                ((),
                  v2.2.2.2.2.1 ++
                    [UInt8.ofNat (ior IntKind.u8 224 (IntKind.u8.wrap (shr IntKind.i32 v2.2.1 12))).toNat,
                      UInt8.ofNat (ior IntKind.u8 128 (iand IntKind.u8 (IntKind.u8.wrap (shr IntKind.i32 v2.2.1 6)) 63)).toNat,
                      UInt8.ofNat (ior IntKind.u8 128 (iand IntKind.u8 (IntKind.u8.wrap v2.2.1) 63)).toNat],
                  ())
            else none).bind
          fun v3 => some v3.2.1
      else
        (if decide (65535 < v2.2.2.1) = true then some ((), v2.2.1, decide (v2.2.2.1 ≤ 1114111), v2.2.2.2.2.1, ())
            else some ((), v2.2.1, false, v2.2.2.2.2.1, ())).bind
          fun v4 =>
          if v4.2.2.1 = true then
            (if
                    decide
                        ((v4.2.2.2.1.length +
                              [UInt8.ofNat (ior IntKind.u8 240 (IntKind.u8.wrap (shr IntKind.i32 v4.2.1 18))).toNat,
                                  UInt8.ofNat (ior IntKind.u8 128 (iand IntKind.u8 (IntKind.u8.wrap (shr IntKind.i32 v4.2.1 12)) 63)).toNat,
                                  UInt8.ofNat (ior IntKind.u8 128 (iand IntKind.u8 (IntKind.u8.wrap (shr IntKind.i32 v4.2.1 6)) 63)).toNat,
                                  UInt8.ofNat (ior IntKind.u8 128 (iand IntKind.u8 (IntKind.u8.wrap v4.2.1) 63)).toNat].length) *
                            1 ≤
                          140737488355328) =
                      true then
                  some
                    ((),
                      v4.2.2.2.1 ++
                        [UInt8.ofNat (ior IntKind.u8 240 (IntKind.u8.wrap (shr IntKind.i32 v4.2.1 18))).toNat,
                          UInt8.ofNat (ior IntKind.u8 128 (iand IntKind.u8 (IntKind.u8.wrap (shr IntKind.i32 v4.2.1 12)) 63)).toNat,
                          UInt8.ofNat (ior IntKind.u8 128 (iand IntKind.u8 (IntKind.u8.wrap (shr IntKind.i32 v4.2.1 6)) 63)).toNat,
                          UInt8.ofNat (ior IntKind.u8 128 (iand IntKind.u8 (IntKind.u8.wrap v4.2.1) 63)).toNat],
                      ())
                else none).bind
              fun v5 => some v5.2.1
          else
            if
                decide
                    ((v4.2.2.2.1.length + [UInt8.ofNat (Int.toNat 239), UInt8.ofNat (Int.toNat 191), UInt8.ofNat (Int.toNat 189)].length) * 1 ≤ 140737488355328) =
                  true then
              some (v4.2.2.2.1 ++ [UInt8.ofNat (Int.toNat 239), UInt8.ofNat (Int.toNat 191), UInt8.ofNat (Int.toNat 189)])
            else none
theorem t_unicode_utf8_appendRuneNonASCII (x : (List (El .u8)) × (Int)) (F : Nat) : fnRun TT Try.prog (e_unicode_utf8_appendRuneNonASCII F) s_unicode_utf8_appendRuneNonASCII (bodyOf 74) F x = M_unicode_utf8_appendRuneNonASCII F x := by kernel_rfl
theorem c_unicode_utf8_appendRuneNonASCII (F : Nat) : Ctr TT Try.prog 74 (conOf TT s_unicode_utf8_appendRuneNonASCII (M_unicode_utf8_appendRuneNonASCII F)) :=
  ctr_of (code := bodyOf 74) Try.func74 (by kernel_rfl) (by kernel_rfl) (by kernel_rfl) (by kernel_rfl) envN_ok hm (by kernel_rfl) (fun x r h => ⟨F, (t_unicode_utf8_appendRuneNonASCII x F).trans h⟩)
theorem mo_unicode_utf8_appendRuneNonASCII {F F' : Nat} (h : F ≤ F') : ∀ v, Le (M_unicode_utf8_appendRuneNonASCII F v) (M_unicode_utf8_appendRuneNonASCII F' v) := by
  intro v
  unfold M_unicode_utf8_appendRuneNonASCII
  repeat (first | (intro v) | exact Le.refl _ | exact h | apply Le.bind | apply Le.ite | apply Le.loop | apply Le.sumC)
noncomputable def s_unicode_utf8_AppendRune : Spec Kd := { params := [(.a (.row 5 .u8)), (.a (.int .i32))], ret := (.one (.a (.row 5 .u8))), pins := [], pl := { nt := 16, orc := { rv := [4, 8, 12, 15], gv := [13] } }, rfrz := [], ts := [4] }
noncomputable def e_unicode_utf8_AppendRune (F : Nat) : Env El := (envS 74 (conOf TT s_unicode_utf8_appendRuneNonASCII (M_unicode_utf8_appendRuneNonASCII F)) envN)
/-- unicode/utf8.AppendRune -/
noncomputable def M_unicode_utf8_AppendRune (F : Nat) (x : (List (El .u8)) × (Int)) : Option (List (El .u8)) :=
  if decide (IntKind.u32.wrap x.2 ≤ 127) = true then
    if decide ((x.1.length + [UInt8.ofNat (IntKind.u8.wrap x.2).toNat].length) * 1 ≤ 140737488355328) = true then
      some (x.1 ++ [UInt8.ofNat (IntKind.u8.wrap x.2).toNat])
    else none
  else (M_unicode_utf8_appendRuneNonASCII F (x.1, x.2)).bind fun v0 => some v0
theorem t_unicode_utf8_AppendRune (x : (List (El .u8)) × (Int)) (F : Nat) : fnRun TT Try.prog (e_unicode_utf8_AppendRune F) s_unicode_utf8_AppendRune (bodyOf 67) F x = M_unicode_utf8_AppendRune F x := by kernel_rfl
theorem c_unicode_utf8_AppendRune (F : Nat) : Ctr TT Try.prog 67 (conOf TT s_unicode_utf8_AppendRune (M_unicode_utf8_AppendRune F)) :=
  ctr_of (code := bodyOf 67) Try.func67 (by kernel_rfl) (by kernel_rfl) (by kernel_rfl) (by kernel_rfl) (envS_ok envN_ok (c_unicode_utf8_appendRuneNonASCII F)) hm (by kernel_rfl) (fun x r h => ⟨F, (t_unicode_utf8_AppendRune x F).trans h⟩)
theorem mo_unicode_utf8_AppendRune {F F' : Nat} (h : F ≤ F') : ∀ v, Le (M_unicode_utf8_AppendRune F v) (M_unicode_utf8_AppendRune F' v) := by
  intro v
  unfold M_unicode_utf8_AppendRune
  repeat (first | (intro v) | exact Le.refl _ | exact h | exact mo_unicode_utf8_appendRuneNonASCII h _ | apply Le.bind | apply Le.ite | apply Le.loop | apply Le.sumC)
noncomputable def s_strings_Builder_WriteRune : Spec Kd := { params := [(.pin 58 [(.argp 0), (.row 5 .u8)]), (.a (.int .i32))], ret := (.tup [(.a (.int .i64)), (.a .nili)]), pins := [[(.argp 0), (.row 5 .u8)]], pl := { nt := 30, orc := { rv := [], gv := [18] }, cuts := [(3, [(10, ⟨[.tmp 0 (.a (.ptr 1 0)), .tmp 6 (.a (.int .i64)), .box 1 (.cells 58 [(.argp 1), (.rowp 1000065)]), .box 1000065 (.row 5 .u8)], [1280], [.cellSelf 1 0, .cellRow 1 1 1000065 5 .u8]⟩)])] }, rfrz := [], ts := [4, 5] }
noncomputable def e_strings_Builder_WriteRune (F : Nat) : Env El := (envS 67 (conOf TT s_unicode_utf8_AppendRune (M_unicode_utf8_AppendRune F)) (envS 66 (conOf TT s_strings_Builder_copyCheck (M_strings_Builder_copyCheck F)) envN))
/-- (*strings.Builder).WriteRune -/
noncomputable def M_strings_Builder_WriteRune (F : Nat) (x : ((Unit) × (List (El .u8)) × Unit) × (Int)) : Option (((Int) × (Unit)) × ((Unit) × (List (El .u8)) × Unit)) :=
  (M_strings_Builder_copyCheck F ((), x.1.2.1, ())).bind fun v0 =>
    ((M_unicode_utf8_AppendRune F (v0.2.2.1, x.2)).bind fun v1 => some ((), (↑v0.2.2.1.length : Int), ((), (), ()), v1, ())).bind fun v2 =>
      some ((IntKind.i64.wrap ((↑v2.2.2.2.1.length : Int) - v2.2.1), ()), (), v2.2.2.2.1, ())
theorem t_strings_Builder_WriteRune (x : ((Unit) × (List (El .u8)) × Unit) × (Int)) (F : Nat) : fnRun TT Try.prog (e_strings_Builder_WriteRune F) s_strings_Builder_WriteRune (bodyOf 45) F x = M_strings_Builder_WriteRune F x := by kernel_rfl
theorem c_strings_Builder_WriteRune (F : Nat) : Ctr TT Try.prog 45 (conOf TT s_strings_Builder_WriteRune (M_strings_Builder_WriteRune F)) :=
  ctr_of (code := bodyOf 45) Try.func45 (by kernel_rfl) (by kernel_rfl) (by kernel_rfl) (by kernel_rfl) (envS_ok (envS_ok envN_ok (c_strings_Builder_copyCheck F)) (c_unicode_utf8_AppendRune F)) hm (by kernel_rfl) (fun x r h => ⟨F, (t_strings_Builder_WriteRune x F).trans h⟩)
theorem mo_strings_Builder_WriteRune {F F' : Nat} (h : F ≤ F') : ∀ v, Le (M_strings_Builder_WriteRune F v) (M_strings_Builder_WriteRune F' v) := by
  intro v
  unfold M_strings_Builder_WriteRune
  repeat (first | (intro v) | exact Le.refl _ | exact h | exact mo_strings_Builder_copyCheck h _ | exact mo_unicode_utf8_AppendRune h _ | apply Le.bind | apply Le.ite | apply Le.loop | apply Le.sumC)

end Go.Vm
