/- Models of functions of the program, and that each keeps its contract: for all arguments of its shape. No condition. -/
import Derived.Test.YtocgjbdimjlfhaaGreatDoorKt
import Derived.Test.YtocgjbdimjlfhaaGreatDoorV5
import Derived.Test.YtocgjbdimjlfhaaGreatDoorV6
namespace Go.Vm
open Go.Proofs
set_option linter.unusedVariables false
namespace Bld
open Go.Proofs Go.Shelf Go.RowKit
theorem bx72 : ∃ j, Tryz.prog.info? 116 = some j ∧ j.size = 2 := by
  have h : (Tryz.prog.info? 116).map (·.size) = some 2 := by kernel_rfl
  exact Option.map_eq_some_iff.1 h
theorem blies : liesAt Tryz.prog Tryz.prog.depth 116 (2 / Tryz.prog.cellsOf 116) 0 116 1 = true := by kernel_rfl
set_option maxHeartbeats 1000000 in
set_option maxRecDepth 100000 in
theorem copy_used (b : Nat) (w : World) (h0 : w.cell? ⟨b, 0, none⟩ = some (.pointer (some ⟨b, 0, none⟩))) :
    Calls Tryz.prog 121 #[.pointer (some ⟨b, 0, none⟩)] w fun e w' => e = .returned (.tuple #[]) ∧ w' = w := by
  obtain ⟨j, hj, _⟩ := bx72
  go_enter Tryz.func121, Tryz.ntmps121
  go_wp2
  rw [Lib.run_neq_ptr_same w _ Tryz.underlying113 hj]
  go_wp2
  go_end0
  exact ⟨rfl, rfl⟩
set_option maxHeartbeats 1000000 in
set_option maxRecDepth 100000 in
theorem copy_fresh (b : Nat) (w : World) (h0 : w.cell? ⟨b, 0, none⟩ = some (.pointer none)) (hsh : w.shape? b = some (116, 2)) (hfz : w.frozen? ⟨b, 0, none⟩ = false) :
    Calls Tryz.prog 121 #[.pointer (some ⟨b, 0, none⟩)] w fun e w' => e = .returned (.tuple #[]) ∧ w' = w.setCell ⟨b, 0, none⟩ (.pointer (some ⟨b, 0, none⟩)) := by
  obtain ⟨j, hj, hjs⟩ := bx72
  go_enter Tryz.func121, Tryz.ntmps121
  go_wp2
  rw [Lib.run_to_unsafe w ⟨b, 0, none⟩ Tryz.underlying113 Tryz.underlying173 hj (by rw [hjs]; decide) hsh (Nat.zero_lt_succ 1)]
  simp only [Result.andThen]
  rw [Oper.upon_value]
  go_wp2
  rw [run_callFunc_extern Tryz.func166 (by kernel_rfl) (by kernel_rfl) (by kernel_rfl) (e := Extern.AbiNoEscape.same) (by kernel_rfl)]
  rw [Lib.run_noEscape]
  simp only [Result.andThen]
  rw [Oper.upon_value]
  go_wp2
  rw [Lib.run_from_unsafe w ⟨b, 0, none⟩ Tryz.underlying173 Tryz.underlying113 hj hsh blies]
  simp only [Result.andThen]
  rw [Oper.upon_value]
  go_wp2
  go_end0
  exact ⟨rfl, rfl⟩
def ren : Ren := ⟨fun | 169 => 88 | n => n, fun | 70 => 113 | 9 => 9 | 0 => 0 | 72 => 116 | 37 => 114 | 127 => 146 | 3 => 3 | 5 => 5 | n => n, fun | n => n⟩
theorem lays : Lays.n169 Tryz.prog ren := { mixed := (by kernel_rfl), f169 := Tryz.func88.trans (congrArg some (by kernel_rfl)), t0 := Tryz.underlying0, a0 := Tryz.isAgg0, z0 := Tryz.sizeOf0, v0 := Tryz.zeroValue0, t3 := Tryz.underlying3, a3 := Tryz.isAgg3, z3 := Tryz.sizeOf3, v3 := Tryz.zeroValue3, t9 := Tryz.underlying9, a9 := Tryz.isAgg9, z9 := Tryz.sizeOf9, v9 := Tryz.zeroValue9, t37 := Tryz.underlying114, a37 := Tryz.isAgg114, z37 := Tryz.sizeOf114, v37 := Tryz.zeroValue114, t70 := Tryz.underlying113, a70 := Tryz.isAgg113, z70 := Tryz.sizeOf113, v70 := Tryz.zeroValue113, t72 := Tryz.underlying116, a72 := Tryz.isAgg116, z72 := Tryz.sizeOf116, v72 := Tryz.zeroValue116, t127 := Tryz.underlying146, a127 := Tryz.isAgg146, z127 := Tryz.sizeOf146, v127 := Tryz.zeroValue146 }
theorem extra : Builder.Extra Tryz.prog ren := { sizeBuilder := (by kernel_rfl), liesBuilder := (by kernel_rfl), t5 := Tryz.underlying5, a5 := Tryz.isAgg5, z5 := Tryz.sizeOf5, v5 := Tryz.zeroValue5, infoByte := (by kernel_rfl), cellsByte := (by kernel_rfl), sizeByte := (by kernel_rfl), neB5 := (by decide) }
end Bld
noncomputable def s_strings_Builder_copyCheck : Spec Kd := sCopy 116 5
noncomputable def M_strings_Builder_copyCheck (F : Nat) (x : Unit × List UInt8 × Unit) : Option (Unit × (Unit × List UInt8 × Unit)) := some ((), x)
theorem c_strings_Builder_copyCheck (F : Nat) : Ctr TT Tryz.prog 121 (conOf TT s_strings_Builder_copyCheck (M_strings_Builder_copyCheck F)) := ctr_copy Tryz.func121 (by kernel_rfl) (by kernel_rfl) 5 Bld.copy_fresh Bld.copy_used
noncomputable def s_strings_Builder_String : Spec Kd := sBStr 116 5
noncomputable def M_strings_Builder_String (F : Nat) (x : Unit × List UInt8 × Unit) : Option (List UInt8 × (Unit × Unit × Unit)) := some (x.2.1, ((), (), ()))
theorem c_strings_Builder_String (F : Nat) : Ctr TT Tryz.prog 88 (conOf TT s_strings_Builder_String (M_strings_Builder_String F)) := ctr_bstr (ρ := Bld.ren) Bld.lays Bld.extra Tryz.func88 (by kernel_rfl) (by kernel_rfl) rfl
namespace Ixb
open Go.Proofs Go.Shelf Go.RowKit
def r_ren : Ren := ⟨fun | 217 => 183 | 266 => 207 | n => n, fun | 3 => 3 | 5 => 5 | 9 => 9 | n => n, fun n => n⟩
theorem r_lays : Lays.n217 Tryz.prog r_ren := { mixed := (by kernel_rfl), f217 := Tryz.func183.trans (congrArg some (by kernel_rfl)), f266 := Tryz.func207.trans (congrArg some (by kernel_rfl)), t3 := Tryz.underlying3, a3 := Tryz.isAgg3, z3 := Tryz.sizeOf3, v3 := Tryz.zeroValue3, t5 := Tryz.underlying5, a5 := Tryz.isAgg5, z5 := Tryz.sizeOf5, v5 := Tryz.zeroValue5, t9 := Tryz.underlying9, a9 := Tryz.isAgg9, z9 := Tryz.sizeOf9, v9 := Tryz.zeroValue9 }
end Ixb
noncomputable def s_internal_stringslite_IndexByte : Spec Kd := sIdxB
noncomputable def M_internal_stringslite_IndexByte (F : Nat) (x : List UInt8 × Int) : Option Int := MIdxB x
theorem c_internal_stringslite_IndexByte (F : Nat) : Ctr TT Tryz.prog 183 (conOf TT s_internal_stringslite_IndexByte (M_internal_stringslite_IndexByte F)) := ctr_idxB (ρ := Ixb.r_ren) Ixb.r_lays Tryz.func183 (by kernel_rfl) (by kernel_rfl) rfl
noncomputable def s_strings_IndexByte : Spec Kd := { params := [(.a .str), (.a (.int .u8))], ret := (.one (.a (.int .i64))), pins := [], pl := { nt := 8 }, rfrz := [], ts := [4] }
noncomputable def e_strings_IndexByte (F : Nat) : Env El := (envS 183 (conOf TT s_internal_stringslite_IndexByte (M_internal_stringslite_IndexByte F)) envN)
noncomputable def M_strings_IndexByte (F : Nat) (x : (List UInt8) × (Int)) : Option (Int) :=
  (M_internal_stringslite_IndexByte F x).bind fun v0 => some v0
theorem t_strings_IndexByte (x : (List UInt8) × (Int)) (F : Nat) : fnRun TT Tryz.prog (e_strings_IndexByte F) s_strings_IndexByte (bodyOf 167) F x = M_strings_IndexByte F x := by kernel_rfl
theorem c_strings_IndexByte (F : Nat) : Ctr TT Tryz.prog 167 (conOf TT s_strings_IndexByte (M_strings_IndexByte F)) :=
  ctr_of (code := bodyOf 167) Tryz.func167 (by kernel_rfl) (by kernel_rfl) (by kernel_rfl) (by kernel_rfl) (envS_ok envN_ok (c_internal_stringslite_IndexByte F)) hm (by kernel_rfl) (fun x r h => ⟨F, (t_strings_IndexByte x F).trans h⟩)
noncomputable def s_unicode_utf8_RuneLen : Spec Kd := { params := [(.a (.int .i32))], ret := (.one (.a (.int .i64))), pins := [], pl := { nt := 25, cuts := [(7, [(6, ⟨[.tmp 0 (.a (.int .i32)), .tmp 18 (.a .bool)], [], []⟩)])] }, rfrz := [], ts := [2] }
noncomputable def e_unicode_utf8_RuneLen (F : Nat) : Env El := envN
noncomputable def M_unicode_utf8_RuneLen (F : Nat) (x : (Int)) : Option (Int) :=
  if decide (x < 0) = true then some (-1)
  else
    if decide (x ≤ 127) = true then some 1
    else
      if decide (x ≤ 2047) = true then some 2
      else
        (if decide (55296 ≤ x) = true then some (x, decide (x ≤ 57343), ()) else some (x, false, ())).bind fun v0 =>
          if v0.2.1 = true then some (-1) else if decide (v0.1 ≤ 65535) = true then some 3 else if decide (v0.1 ≤ 1114111) = true then some 4 else some (-1)
theorem t_unicode_utf8_RuneLen (x : (Int)) (F : Nat) : fnRun TT Tryz.prog (e_unicode_utf8_RuneLen F) s_unicode_utf8_RuneLen (bodyOf 96) F x = M_unicode_utf8_RuneLen F x := by kernel_rfl
theorem c_unicode_utf8_RuneLen (F : Nat) : Ctr TT Tryz.prog 96 (conOf TT s_unicode_utf8_RuneLen (M_unicode_utf8_RuneLen F)) :=
  ctr_of (code := bodyOf 96) Tryz.func96 (by kernel_rfl) (by kernel_rfl) (by kernel_rfl) (by kernel_rfl) envN_ok hm (by kernel_rfl) (fun x r h => ⟨F, (t_unicode_utf8_RuneLen x F).trans h⟩)
noncomputable def s_internal_stringslite_HasPrefix : Spec Kd := { params := [(.a .str), (.a .str)], ret := (.one (.a .bool)), pins := [], pl := { nt := 18, cuts := [(1, [(13, ⟨[.tmp 17 (.a .bool)], [], []⟩)])] }, rfrz := [], ts := [4] }
noncomputable def e_internal_stringslite_HasPrefix (F : Nat) : Env El := envN
noncomputable def M_internal_stringslite_HasPrefix (F : Nat) (x : (List UInt8) × (List UInt8)) : Option (Bool) :=
  (if decide ((↑x.2.length : Int) ≤ (↑x.1.length : Int)) = true then (sub x.1 0 (↑x.2.length : Int)).bind fun v0 => some (decide (v0 = x.2), ())
      else some (false, ())).bind
    fun v1 => some v1.1
theorem t_internal_stringslite_HasPrefix (x : (List UInt8) × (List UInt8)) (F : Nat) : fnRun TT Tryz.prog (e_internal_stringslite_HasPrefix F) s_internal_stringslite_HasPrefix (bodyOf 175) F x = M_internal_stringslite_HasPrefix F x := by kernel_rfl
theorem c_internal_stringslite_HasPrefix (F : Nat) : Ctr TT Tryz.prog 175 (conOf TT s_internal_stringslite_HasPrefix (M_internal_stringslite_HasPrefix F)) :=
  ctr_of (code := bodyOf 175) Tryz.func175 (by kernel_rfl) (by kernel_rfl) (by kernel_rfl) (by kernel_rfl) envN_ok hm (by kernel_rfl) (fun x r h => ⟨F, (t_internal_stringslite_HasPrefix x F).trans h⟩)
noncomputable def s_strings_Builder_WriteByte : Spec Kd := { params := [(.pin 116 [(.argp 0), (.row 5 .u8)]), (.a (.int .u8))], ret := (.one (.a .nili)), pins := [[(.argp 0), (.row 5 .u8)]], pl := { nt := 17, cuts := [(2, [(11, ⟨[.tmp 0 (.a (.ptr 1 0)), .box 1 (.cells 116 [(.argp 1), (.rowp 1000065)]), .box 1000065 (.row 5 .u8)], [], [.cellSelf 1 0, .cellRow 1 1 1000065 5 .u8]⟩)])] }, rfrz := [], ts := [4] }
noncomputable def e_strings_Builder_WriteByte (F : Nat) : Env El := (envS 121 (conOf TT s_strings_Builder_copyCheck (M_strings_Builder_copyCheck F)) envN)
noncomputable def M_strings_Builder_WriteByte (F : Nat) (x : ((Unit) × (List (El .u8)) × Unit) × (Int)) : Option ((Unit) × ((Unit) × (List (El .u8)) × Unit)) :=
  (M_strings_Builder_copyCheck F ((), x.1.2.1, ())).bind fun v0 =>
    (if decide ((v0.2.2.1.length + [UInt8.ofNat x.2.toNat].length) * 1 ≤ 140737488355328) = true then
          some ((), ((), (), ()), v0.2.2.1 ++ [UInt8.ofNat x.2.toNat], ())
        else none).bind
      fun v1 => some ((), (), v1.2.2.1, ())
theorem t_strings_Builder_WriteByte (x : ((Unit) × (List (El .u8)) × Unit) × (Int)) (F : Nat) : fnRun TT Tryz.prog (e_strings_Builder_WriteByte F) s_strings_Builder_WriteByte (bodyOf 144) F x = M_strings_Builder_WriteByte F x := by kernel_rfl
theorem c_strings_Builder_WriteByte (F : Nat) : Ctr TT Tryz.prog 144 (conOf TT s_strings_Builder_WriteByte (M_strings_Builder_WriteByte F)) :=
  ctr_of (code := bodyOf 144) Tryz.func144 (by kernel_rfl) (by kernel_rfl) (by kernel_rfl) (by kernel_rfl) (envS_ok envN_ok (c_strings_Builder_copyCheck F)) hm (by kernel_rfl) (fun x r h => ⟨F, (t_strings_Builder_WriteByte x F).trans h⟩)
end Go.Vm
