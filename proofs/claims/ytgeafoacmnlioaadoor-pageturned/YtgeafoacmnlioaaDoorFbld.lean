/- Models of functions of the program, and that each keeps its contract: for all arguments of its shape. No condition. -/
import Derived.Test.YtgeafoacmnlioaaDoorKt
import Derived.Test.YtgeafoacmnlioaaDoorV5
import Derived.Test.YtgeafoacmnlioaaDoorV6
namespace Go.Vm
open Go.Proofs
set_option linter.unusedVariables false
namespace Bld
open Go.Proofs Go.Shelf Go.RowKit
theorem bx72 : ∃ j, Tryd.prog.info? 115 = some j ∧ j.size = 2 := by
  have h : (Tryd.prog.info? 115).map (·.size) = some 2 := by kernel_rfl
  exact Option.map_eq_some_iff.1 h
theorem blies : liesAt Tryd.prog Tryd.prog.depth 115 (2 / Tryd.prog.cellsOf 115) 0 115 1 = true := by kernel_rfl
set_option maxHeartbeats 1000000 in
set_option maxRecDepth 100000 in
theorem copy_used (b : Nat) (w : World) (h0 : w.cell? ⟨b, 0, none⟩ = some (.pointer (some ⟨b, 0, none⟩))) :
    Calls Tryd.prog 109 #[.pointer (some ⟨b, 0, none⟩)] w fun e w' => e = .returned (.tuple #[]) ∧ w' = w := by
  obtain ⟨j, hj, _⟩ := bx72
  go_enter Tryd.func109, Tryd.ntmps109
  go_wp2
  rw [Lib.run_neq_ptr_same w _ Tryd.underlying113 hj]
  go_wp2
  go_end0
  exact ⟨rfl, rfl⟩
set_option maxHeartbeats 1000000 in
set_option maxRecDepth 100000 in
theorem copy_fresh (b : Nat) (w : World) (h0 : w.cell? ⟨b, 0, none⟩ = some (.pointer none)) (hsh : w.shape? b = some (115, 2)) (hfz : w.frozen? ⟨b, 0, none⟩ = false) :
    Calls Tryd.prog 109 #[.pointer (some ⟨b, 0, none⟩)] w fun e w' => e = .returned (.tuple #[]) ∧ w' = w.setCell ⟨b, 0, none⟩ (.pointer (some ⟨b, 0, none⟩)) := by
  obtain ⟨j, hj, hjs⟩ := bx72
  go_enter Tryd.func109, Tryd.ntmps109
  go_wp2
  rw [Lib.run_to_unsafe w ⟨b, 0, none⟩ Tryd.underlying113 Tryd.underlying159 hj (by rw [hjs]; decide) hsh (Nat.zero_lt_succ 1)]
  simp only [Result.andThen]
  rw [Oper.upon_value]
  go_wp2
  rw [run_callFunc_extern Tryd.func136 (by kernel_rfl) (by kernel_rfl) (by kernel_rfl) (e := Extern.AbiNoEscape.same) (by kernel_rfl)]
  rw [Lib.run_noEscape]
  simp only [Result.andThen]
  rw [Oper.upon_value]
  go_wp2
  rw [Lib.run_from_unsafe w ⟨b, 0, none⟩ Tryd.underlying159 Tryd.underlying113 hj hsh blies]
  simp only [Result.andThen]
  rw [Oper.upon_value]
  go_wp2
  go_end0
  exact ⟨rfl, rfl⟩
def ren : Ren := ⟨fun | 169 => 82 | n => n, fun | 70 => 113 | 9 => 9 | 0 => 0 | 72 => 115 | 37 => 34 | 127 => 140 | 3 => 3 | 5 => 5 | n => n, fun | n => n⟩
theorem lays : Lays.n169 Tryd.prog ren := { mixed := (by kernel_rfl), f169 := Tryd.func82.trans (congrArg some (by kernel_rfl)), t0 := Tryd.underlying0, a0 := Tryd.isAgg0, z0 := Tryd.sizeOf0, v0 := Tryd.zeroValue0, t3 := Tryd.underlying3, a3 := Tryd.isAgg3, z3 := Tryd.sizeOf3, v3 := Tryd.zeroValue3, t9 := Tryd.underlying9, a9 := Tryd.isAgg9, z9 := Tryd.sizeOf9, v9 := Tryd.zeroValue9, t37 := Tryd.underlying34, a37 := Tryd.isAgg34, z37 := Tryd.sizeOf34, v37 := Tryd.zeroValue34, t70 := Tryd.underlying113, a70 := Tryd.isAgg113, z70 := Tryd.sizeOf113, v70 := Tryd.zeroValue113, t72 := Tryd.underlying115, a72 := Tryd.isAgg115, z72 := Tryd.sizeOf115, v72 := Tryd.zeroValue115, t127 := Tryd.underlying140, a127 := Tryd.isAgg140, z127 := Tryd.sizeOf140, v127 := Tryd.zeroValue140 }
theorem extra : Builder.Extra Tryd.prog ren := { sizeBuilder := (by kernel_rfl), liesBuilder := (by kernel_rfl), t5 := Tryd.underlying5, a5 := Tryd.isAgg5, z5 := Tryd.sizeOf5, v5 := Tryd.zeroValue5, infoByte := (by kernel_rfl), cellsByte := (by kernel_rfl), sizeByte := (by kernel_rfl), neB5 := (by decide) }
end Bld
noncomputable def s_strings_Builder_copyCheck : Spec Kd := sCopy 115 5
noncomputable def M_strings_Builder_copyCheck (F : Nat) (x : Unit × List UInt8 × Unit) : Option (Unit × (Unit × List UInt8 × Unit)) := some ((), x)
theorem mo_strings_Builder_copyCheck {F F' : Nat} (h : F ≤ F') : ∀ v, Le (M_strings_Builder_copyCheck F v) (M_strings_Builder_copyCheck F' v) := fun _ => Le.refl _
theorem c_strings_Builder_copyCheck (F : Nat) : Ctr TT Tryd.prog 109 (conOf TT s_strings_Builder_copyCheck (M_strings_Builder_copyCheck F)) := ctr_copy Tryd.func109 (by kernel_rfl) (by kernel_rfl) 5 Bld.copy_fresh Bld.copy_used
noncomputable def s_strings_Builder_String : Spec Kd := sBStr 115 5
noncomputable def M_strings_Builder_String (F : Nat) (x : Unit × List UInt8 × Unit) : Option (List UInt8 × (Unit × Unit × Unit)) := some (x.2.1, ((), (), ()))
theorem mo_strings_Builder_String {F F' : Nat} (h : F ≤ F') : ∀ v, Le (M_strings_Builder_String F v) (M_strings_Builder_String F' v) := fun _ => Le.refl _
theorem c_strings_Builder_String (F : Nat) : Ctr TT Tryd.prog 82 (conOf TT s_strings_Builder_String (M_strings_Builder_String F)) := ctr_bstr (ρ := Bld.ren) Bld.lays Bld.extra Tryd.func82 (by kernel_rfl) (by kernel_rfl) rfl
namespace Spl
open Go.Proofs Go.Shelf Go.RowKit
def r_ren : Ren := ⟨fun | 138 => 166 | 143 => 167 | 146 => 151 | 195 => 168 | 197 => 147 | 217 => 90 | 218 => 169 | 219 => 144 | 221 => 161 | 224 => 156 | 225 => 155 | 260 => 158 | 266 => 115 | 267 => 157 | 268 => 165 | 314 => 164 | n => n, fun | 0 => 0 | 3 => 3 | 4 => 4 | 5 => 5 | 9 => 9 | 21 => 21 | 31 => 51 | 46 => 100 | 51 => 104 | 105 => 168 | 119 => 178 | 138 => 180 | 139 => 181 | 146 => 176 | n => n, fun | 1 => 0 | 3 => 1 | 4 => 2 | n => n⟩
theorem r_lays : Lays.n146 Tryd.prog r_ren := { mixed := (by kernel_rfl), f138 := Tryd.func166.trans (congrArg some (by kernel_rfl)), f143 := Tryd.func167.trans (congrArg some (by kernel_rfl)), f146 := Tryd.func151.trans (congrArg some (by kernel_rfl)), f195 := Tryd.func168.trans (congrArg some (by kernel_rfl)), f197 := Tryd.func147.trans (congrArg some (by kernel_rfl)), f217 := Tryd.func90.trans (congrArg some (by kernel_rfl)), f218 := Tryd.func169.trans (congrArg some (by kernel_rfl)), f219 := Tryd.func144.trans (congrArg some (by kernel_rfl)), f221 := Tryd.func161.trans (congrArg some (by kernel_rfl)), f224 := Tryd.func156.trans (congrArg some (by kernel_rfl)), f225 := Tryd.func155.trans (congrArg some (by kernel_rfl)), f260 := Tryd.func158.trans (congrArg some (by kernel_rfl)), f266 := Tryd.func115.trans (congrArg some (by kernel_rfl)), f267 := Tryd.func157.trans (congrArg some (by kernel_rfl)), f268 := Tryd.func165.trans (congrArg some (by kernel_rfl)), f314 := Tryd.func164.trans (congrArg some (by kernel_rfl)), t0 := Tryd.underlying0, a0 := Tryd.isAgg0, z0 := Tryd.sizeOf0, v0 := Tryd.zeroValue0, t3 := Tryd.underlying3, a3 := Tryd.isAgg3, z3 := Tryd.sizeOf3, v3 := Tryd.zeroValue3, t4 := Tryd.underlying4, a4 := Tryd.isAgg4, z4 := Tryd.sizeOf4, v4 := Tryd.zeroValue4, t5 := Tryd.underlying5, a5 := Tryd.isAgg5, z5 := Tryd.sizeOf5, v5 := Tryd.zeroValue5, t9 := Tryd.underlying9, a9 := Tryd.isAgg9, z9 := Tryd.sizeOf9, v9 := Tryd.zeroValue9, t21 := Tryd.underlying21, a21 := Tryd.isAgg21, z21 := Tryd.sizeOf21, v21 := Tryd.zeroValue21, t31 := Tryd.underlying51, a31 := Tryd.isAgg51, z31 := Tryd.sizeOf51, v31 := Tryd.zeroValue51, t46 := Tryd.underlying100, a46 := Tryd.isAgg100, z46 := Tryd.sizeOf100, v46 := Tryd.zeroValue100, t51 := Tryd.underlying104, a51 := Tryd.isAgg104, z51 := Tryd.sizeOf104, v51 := Tryd.zeroValue104, t105 := Tryd.underlying168, a105 := Tryd.isAgg168, z105 := Tryd.sizeOf168, v105 := Tryd.zeroValue168, t119 := Tryd.underlying178, a119 := Tryd.isAgg178, z119 := Tryd.sizeOf178, t138 := Tryd.underlying180, a138 := Tryd.isAgg180, z138 := Tryd.sizeOf180, v138 := Tryd.zeroValue180, t139 := Tryd.underlying181, a139 := Tryd.isAgg181, z139 := Tryd.sizeOf181, v139 := Tryd.zeroValue181, t146 := Tryd.underlying176, a146 := Tryd.isAgg176, z146 := Tryd.sizeOf176, v146 := Tryd.zeroValue176, g1 := (by kernel_rfl), g3 := (by kernel_rfl), g4 := (by kernel_rfl) }
theorem r_i9 : (Tryd.prog.info? (r_ren.t 9)).map (fun i => (i.zero, i.size, i.bytes)) = some (some (.string ByteArray.empty), 1, 16) := by kernel_rfl
end Spl
noncomputable def s_strings_Split : Spec Kd := sSplit
noncomputable def M_strings_Split (F : Nat) (x : List UInt8 × List UInt8) : Option (List (List UInt8)) := MSplit x
theorem mo_strings_Split {F F' : Nat} (h : F ≤ F') : ∀ v, Le (M_strings_Split F v) (M_strings_Split F' v) := fun _ => Le.refl _
theorem c_strings_Split (F : Nat) : Ctr TT Tryd.prog 151 (conOf TT s_strings_Split (M_strings_Split F)) := ctr_split (ρ := Spl.r_ren) Spl.r_lays Spl.r_i9 Tryd.func151 (by kernel_rfl) (by kernel_rfl) rfl
namespace Ixb
open Go.Proofs Go.Shelf Go.RowKit
def r_ren : Ren := ⟨fun | 217 => 90 | 266 => 115 | n => n, fun | 3 => 3 | 5 => 5 | 9 => 9 | n => n, fun n => n⟩
theorem r_lays : Lays.n217 Tryd.prog r_ren := { mixed := (by kernel_rfl), f217 := Tryd.func90.trans (congrArg some (by kernel_rfl)), f266 := Tryd.func115.trans (congrArg some (by kernel_rfl)), t3 := Tryd.underlying3, a3 := Tryd.isAgg3, z3 := Tryd.sizeOf3, v3 := Tryd.zeroValue3, t5 := Tryd.underlying5, a5 := Tryd.isAgg5, z5 := Tryd.sizeOf5, v5 := Tryd.zeroValue5, t9 := Tryd.underlying9, a9 := Tryd.isAgg9, z9 := Tryd.sizeOf9, v9 := Tryd.zeroValue9 }
end Ixb
noncomputable def s_internal_stringslite_IndexByte : Spec Kd := sIdxB
noncomputable def M_internal_stringslite_IndexByte (F : Nat) (x : List UInt8 × Int) : Option Int := MIdxB x
theorem mo_internal_stringslite_IndexByte {F F' : Nat} (h : F ≤ F') : ∀ v, Le (M_internal_stringslite_IndexByte F v) (M_internal_stringslite_IndexByte F' v) := fun _ => Le.refl _
theorem c_internal_stringslite_IndexByte (F : Nat) : Ctr TT Tryd.prog 90 (conOf TT s_internal_stringslite_IndexByte (M_internal_stringslite_IndexByte F)) := ctr_idxB (ρ := Ixb.r_ren) Ixb.r_lays Tryd.func90 (by kernel_rfl) (by kernel_rfl) rfl
noncomputable def s_strings_Builder_WriteByte : Spec Kd := { params := [(.pin 115 [(.argp 0), (.row 5 .u8)]), (.a (.int .u8))], ret := (.one (.a .nili)), pins := [[(.argp 0), (.row 5 .u8)]], pl := { nt := 17, cuts := [(2, [(11, ⟨[.tmp 0 (.a (.ptr 1 0)), .box 1 (.cells 115 [(.argp 1), (.rowp 1000065)]), .box 1000065 (.row 5 .u8)], [], [.cellSelf 1 0, .cellRow 1 1 1000065 5 .u8]⟩)])] }, rfrz := [], ts := [4] }
noncomputable def e_strings_Builder_WriteByte (F : Nat) : Env El := (envS 109 (conOf TT s_strings_Builder_copyCheck (M_strings_Builder_copyCheck F)) envN)
noncomputable def M_strings_Builder_WriteByte (F : Nat) (x : ((Unit) × (List (El .u8)) × Unit) × (Int)) : Option ((Unit) × ((Unit) × (List (El .u8)) × Unit)) :=
  (M_strings_Builder_copyCheck F ((), x.1.2.1, ())).bind fun v0 =>
    (if decide ((v0.2.2.1.length + [UInt8.ofNat x.2.toNat].length) * 1 ≤ 140737488355328) = true then
          some ((), ((), (), ()), v0.2.2.1 ++ [UInt8.ofNat x.2.toNat], ())
        else none).bind
      fun v1 => some ((), (), v1.2.2.1, ())
theorem t_strings_Builder_WriteByte (x : ((Unit) × (List (El .u8)) × Unit) × (Int)) (F : Nat) : fnRun TT Tryd.prog (e_strings_Builder_WriteByte F) s_strings_Builder_WriteByte (bodyOf 139) F x = M_strings_Builder_WriteByte F x := by kernel_rfl
theorem c_strings_Builder_WriteByte (F : Nat) : Ctr TT Tryd.prog 139 (conOf TT s_strings_Builder_WriteByte (M_strings_Builder_WriteByte F)) :=
  ctr_of (code := bodyOf 139) Tryd.func139 (by kernel_rfl) (by kernel_rfl) (by kernel_rfl) (by kernel_rfl) (envS_ok envN_ok (c_strings_Builder_copyCheck F)) hm (by kernel_rfl) (fun x r h => ⟨F, (t_strings_Builder_WriteByte x F).trans h⟩)
theorem mo_strings_Builder_WriteByte {F F' : Nat} (h : F ≤ F') : ∀ v, Le (M_strings_Builder_WriteByte F v) (M_strings_Builder_WriteByte F' v) := by
  intro v
  unfold M_strings_Builder_WriteByte
  with_reducible repeat (first | (intro v) | exact Le.refl _ | exact h | exact mo_strings_Builder_copyCheck h _ | apply Le.bind | apply Le.ite | apply Le.loop | apply Le.sumC)
noncomputable def s_strings_IndexByte : Spec Kd := { params := [(.a .str), (.a (.int .u8))], ret := (.one (.a (.int .i64))), pins := [], pl := { nt := 8 }, rfrz := [], ts := [4] }
noncomputable def e_strings_IndexByte (F : Nat) : Env El := (envS 90 (conOf TT s_internal_stringslite_IndexByte (M_internal_stringslite_IndexByte F)) envN)
noncomputable def M_strings_IndexByte (F : Nat) (x : (List UInt8) × (Int)) : Option (Int) :=
  (M_internal_stringslite_IndexByte F x).bind fun v0 => some v0
theorem t_strings_IndexByte (x : (List UInt8) × (Int)) (F : Nat) : fnRun TT Tryd.prog (e_strings_IndexByte F) s_strings_IndexByte (bodyOf 61) F x = M_strings_IndexByte F x := by kernel_rfl
theorem c_strings_IndexByte (F : Nat) : Ctr TT Tryd.prog 61 (conOf TT s_strings_IndexByte (M_strings_IndexByte F)) :=
  ctr_of (code := bodyOf 61) Tryd.func61 (by kernel_rfl) (by kernel_rfl) (by kernel_rfl) (by kernel_rfl) (envS_ok envN_ok (c_internal_stringslite_IndexByte F)) hm (by kernel_rfl) (fun x r h => ⟨F, (t_strings_IndexByte x F).trans h⟩)
theorem mo_strings_IndexByte {F F' : Nat} (h : F ≤ F') : ∀ v, Le (M_strings_IndexByte F v) (M_strings_IndexByte F' v) := by
  intro v
  unfold M_strings_IndexByte
  with_reducible repeat (first | (intro v) | exact Le.refl _ | exact h | exact mo_internal_stringslite_IndexByte h _ | apply Le.bind | apply Le.ite | apply Le.loop | apply Le.sumC)
end Go.Vm
