/- Models of functions of the program, and that each keeps its contract: for all arguments of its shape. No condition. -/
import Derived.Test.YtblbmkhlnaaopaaDoorKt
import Derived.Test.YtblbmkhlnaaopaaDoorV5
import Derived.Test.YtblbmkhlnaaopaaDoorV6
namespace Go.Vm
open Go.Proofs
set_option linter.unusedVariables false

namespace Bld
open Go.Proofs Go.Shelf Go.RowKit
theorem bx72 : ∃ j, Tryd.prog.info? 41 = some j ∧ j.size = 2 := by
  have h : (Tryd.prog.info? 41).map (·.size) = some 2 := by kernel_rfl
  exact Option.map_eq_some_iff.1 h
theorem blies : liesAt Tryd.prog Tryd.prog.depth 41 (2 / Tryd.prog.cellsOf 41) 0 41 1 = true := by kernel_rfl
set_option maxHeartbeats 1000000 in
set_option maxRecDepth 100000 in
theorem copy_used (b : Nat) (w : World) (h0 : w.cell? ⟨b, 0, none⟩ = some (.pointer (some ⟨b, 0, none⟩))) :
    Calls Tryd.prog 39 #[.pointer (some ⟨b, 0, none⟩)] w fun e w' => e = .returned (.tuple #[]) ∧ w' = w := by
  obtain ⟨j, hj, _⟩ := bx72
  go_enter Tryd.func39, Tryd.ntmps39
  go_wp2
  rw [Lib.run_neq_ptr_same w _ Tryd.underlying38 hj]
  go_wp2
  go_end0
  exact ⟨rfl, rfl⟩
set_option maxHeartbeats 1000000 in
set_option maxRecDepth 100000 in
theorem copy_fresh (b : Nat) (w : World) (h0 : w.cell? ⟨b, 0, none⟩ = some (.pointer none)) (hsh : w.shape? b = some (41, 2)) (hfz : w.frozen? ⟨b, 0, none⟩ = false) :
    Calls Tryd.prog 39 #[.pointer (some ⟨b, 0, none⟩)] w fun e w' => e = .returned (.tuple #[]) ∧ w' = w.setCell ⟨b, 0, none⟩ (.pointer (some ⟨b, 0, none⟩)) := by
  obtain ⟨j, hj, hjs⟩ := bx72
  go_enter Tryd.func39, Tryd.ntmps39
  go_wp2
  rw [Lib.run_to_unsafe w ⟨b, 0, none⟩ Tryd.underlying38 Tryd.underlying80 hj (by rw [hjs]; decide) hsh (Nat.zero_lt_succ 1)]
  simp only [Result.andThen]
  rw [Oper.upon_value]
  go_wp2
  rw [run_callFunc_extern Tryd.func59 (by kernel_rfl) (by kernel_rfl) (by kernel_rfl) (e := Extern.AbiNoEscape.same) (by kernel_rfl)]
  rw [Lib.run_noEscape]
  simp only [Result.andThen]
  rw [Oper.upon_value]
  go_wp2
  rw [Lib.run_from_unsafe w ⟨b, 0, none⟩ Tryd.underlying80 Tryd.underlying38 hj hsh blies]
  simp only [Result.andThen]
  rw [Oper.upon_value]
  go_wp2
  go_end0
  exact ⟨rfl, rfl⟩
def ren : Ren := ⟨fun | 169 => 24 | n => n, fun | 70 => 38 | 9 => 9 | 0 => 0 | 72 => 41 | 37 => 39 | 127 => 63 | 3 => 3 | 5 => 5 | n => n, fun | n => n⟩
theorem lays : Lays.n169 Tryd.prog ren := { mixed := (by kernel_rfl), f169 := Tryd.func24.trans (congrArg some (by kernel_rfl)), t0 := Tryd.underlying0, a0 := Tryd.isAgg0, z0 := Tryd.sizeOf0, v0 := Tryd.zeroValue0, t3 := Tryd.underlying3, a3 := Tryd.isAgg3, z3 := Tryd.sizeOf3, v3 := Tryd.zeroValue3, t9 := Tryd.underlying9, a9 := Tryd.isAgg9, z9 := Tryd.sizeOf9, v9 := Tryd.zeroValue9, t37 := Tryd.underlying39, a37 := Tryd.isAgg39, z37 := Tryd.sizeOf39, v37 := Tryd.zeroValue39, t70 := Tryd.underlying38, a70 := Tryd.isAgg38, z70 := Tryd.sizeOf38, v70 := Tryd.zeroValue38, t72 := Tryd.underlying41, a72 := Tryd.isAgg41, z72 := Tryd.sizeOf41, v72 := Tryd.zeroValue41, t127 := Tryd.underlying63, a127 := Tryd.isAgg63, z127 := Tryd.sizeOf63, v127 := Tryd.zeroValue63 }
theorem extra : Builder.Extra Tryd.prog ren := { sizeBuilder := (by kernel_rfl), liesBuilder := (by kernel_rfl), t5 := Tryd.underlying5, a5 := Tryd.isAgg5, z5 := Tryd.sizeOf5, v5 := Tryd.zeroValue5, infoByte := (by kernel_rfl), cellsByte := (by kernel_rfl), sizeByte := (by kernel_rfl), neB5 := (by decide) }
end Bld
noncomputable def s_strings_Builder_copyCheck : Spec Kd := sCopy 41 5
noncomputable def M_strings_Builder_copyCheck (F : Nat) (x : Unit × List UInt8 × Unit) : Option (Unit × (Unit × List UInt8 × Unit)) := some ((), x)
theorem mo_strings_Builder_copyCheck {F F' : Nat} (h : F ≤ F') : ∀ v, Le (M_strings_Builder_copyCheck F v) (M_strings_Builder_copyCheck F' v) := fun _ => Le.refl _
theorem c_strings_Builder_copyCheck (F : Nat) : Ctr TT Tryd.prog 39 (conOf TT s_strings_Builder_copyCheck (M_strings_Builder_copyCheck F)) := ctr_copy Tryd.func39 (by kernel_rfl) (by kernel_rfl) 5 Bld.copy_fresh Bld.copy_used

noncomputable def s_strings_Builder_String : Spec Kd := sBStr 41 5
noncomputable def M_strings_Builder_String (F : Nat) (x : Unit × List UInt8 × Unit) : Option (List UInt8 × (Unit × Unit × Unit)) := some (x.2.1, ((), (), ()))
theorem mo_strings_Builder_String {F F' : Nat} (h : F ≤ F') : ∀ v, Le (M_strings_Builder_String F v) (M_strings_Builder_String F' v) := fun _ => Le.refl _
theorem c_strings_Builder_String (F : Nat) : Ctr TT Tryd.prog 24 (conOf TT s_strings_Builder_String (M_strings_Builder_String F)) := ctr_bstr (ρ := Bld.ren) Bld.lays Bld.extra Tryd.func24 (by kernel_rfl) (by kernel_rfl) rfl

namespace Spl
open Go.Proofs Go.Shelf Go.RowKit
def r_ren : Ren := ⟨fun | 138 => 66 | 143 => 67 | 146 => 33 | 195 => 72 | 197 => 73 | 217 => 68 | 218 => 74 | 219 => 75 | 221 => 55 | 224 => 80 | 225 => 79 | 260 => 78 | 266 => 76 | 267 => 81 | 268 => 65 | 314 => 82 | n => n, fun | 0 => 0 | 3 => 3 | 4 => 4 | 5 => 5 | 9 => 9 | 21 => 21 | 31 => 34 | 46 => 59 | 51 => 72 | 105 => 92 | 119 => 94 | 138 => 96 | 139 => 97 | 146 => 98 | n => n, fun | 1 => 0 | 3 => 1 | 4 => 2 | n => n⟩
theorem r_lays : Lays.n146 Tryd.prog r_ren := { mixed := (by kernel_rfl), f138 := Tryd.func66.trans (congrArg some (by kernel_rfl)), f143 := Tryd.func67.trans (congrArg some (by kernel_rfl)), f146 := Tryd.func33.trans (congrArg some (by kernel_rfl)), f195 := Tryd.func72.trans (congrArg some (by kernel_rfl)), f197 := Tryd.func73.trans (congrArg some (by kernel_rfl)), f217 := Tryd.func68.trans (congrArg some (by kernel_rfl)), f218 := Tryd.func74.trans (congrArg some (by kernel_rfl)), f219 := Tryd.func75.trans (congrArg some (by kernel_rfl)), f221 := Tryd.func55.trans (congrArg some (by kernel_rfl)), f224 := Tryd.func80.trans (congrArg some (by kernel_rfl)), f225 := Tryd.func79.trans (congrArg some (by kernel_rfl)), f260 := Tryd.func78.trans (congrArg some (by kernel_rfl)), f266 := Tryd.func76.trans (congrArg some (by kernel_rfl)), f267 := Tryd.func81.trans (congrArg some (by kernel_rfl)), f268 := Tryd.func65.trans (congrArg some (by kernel_rfl)), f314 := Tryd.func82.trans (congrArg some (by kernel_rfl)), t0 := Tryd.underlying0, a0 := Tryd.isAgg0, z0 := Tryd.sizeOf0, v0 := Tryd.zeroValue0, t3 := Tryd.underlying3, a3 := Tryd.isAgg3, z3 := Tryd.sizeOf3, v3 := Tryd.zeroValue3, t4 := Tryd.underlying4, a4 := Tryd.isAgg4, z4 := Tryd.sizeOf4, v4 := Tryd.zeroValue4, t5 := Tryd.underlying5, a5 := Tryd.isAgg5, z5 := Tryd.sizeOf5, v5 := Tryd.zeroValue5, t9 := Tryd.underlying9, a9 := Tryd.isAgg9, z9 := Tryd.sizeOf9, v9 := Tryd.zeroValue9, t21 := Tryd.underlying21, a21 := Tryd.isAgg21, z21 := Tryd.sizeOf21, v21 := Tryd.zeroValue21, t31 := Tryd.underlying34, a31 := Tryd.isAgg34, z31 := Tryd.sizeOf34, v31 := Tryd.zeroValue34, t46 := Tryd.underlying59, a46 := Tryd.isAgg59, z46 := Tryd.sizeOf59, v46 := Tryd.zeroValue59, t51 := Tryd.underlying72, a51 := Tryd.isAgg72, z51 := Tryd.sizeOf72, v51 := Tryd.zeroValue72, t105 := Tryd.underlying92, a105 := Tryd.isAgg92, z105 := Tryd.sizeOf92, v105 := Tryd.zeroValue92, t119 := Tryd.underlying94, a119 := Tryd.isAgg94, z119 := Tryd.sizeOf94, t138 := Tryd.underlying96, a138 := Tryd.isAgg96, z138 := Tryd.sizeOf96, v138 := Tryd.zeroValue96, t139 := Tryd.underlying97, a139 := Tryd.isAgg97, z139 := Tryd.sizeOf97, v139 := Tryd.zeroValue97, t146 := Tryd.underlying98, a146 := Tryd.isAgg98, z146 := Tryd.sizeOf98, v146 := Tryd.zeroValue98, g1 := (by kernel_rfl), g3 := (by kernel_rfl), g4 := (by kernel_rfl) }
theorem r_i9 : (Tryd.prog.info? (r_ren.t 9)).map (fun i => (i.zero, i.size, i.bytes)) = some (some (.string ByteArray.empty), 1, 16) := by kernel_rfl
end Spl
noncomputable def s_strings_Split : Spec Kd := sSplit
noncomputable def M_strings_Split (F : Nat) (x : List UInt8 × List UInt8) : Option (List (List UInt8)) := MSplit x
theorem mo_strings_Split {F F' : Nat} (h : F ≤ F') : ∀ v, Le (M_strings_Split F v) (M_strings_Split F' v) := fun _ => Le.refl _
theorem c_strings_Split (F : Nat) : Ctr TT Tryd.prog 33 (conOf TT s_strings_Split (M_strings_Split F)) := ctr_split (ρ := Spl.r_ren) Spl.r_lays Spl.r_i9 Tryd.func33 (by kernel_rfl) (by kernel_rfl) rfl

namespace Ixb
open Go.Proofs Go.Shelf Go.RowKit
def r_ren : Ren := ⟨fun | 217 => 68 | 266 => 76 | n => n, fun | 3 => 3 | 5 => 5 | 9 => 9 | n => n, fun n => n⟩
theorem r_lays : Lays.n217 Tryd.prog r_ren := { mixed := (by kernel_rfl), f217 := Tryd.func68.trans (congrArg some (by kernel_rfl)), f266 := Tryd.func76.trans (congrArg some (by kernel_rfl)), t3 := Tryd.underlying3, a3 := Tryd.isAgg3, z3 := Tryd.sizeOf3, v3 := Tryd.zeroValue3, t5 := Tryd.underlying5, a5 := Tryd.isAgg5, z5 := Tryd.sizeOf5, v5 := Tryd.zeroValue5, t9 := Tryd.underlying9, a9 := Tryd.isAgg9, z9 := Tryd.sizeOf9, v9 := Tryd.zeroValue9 }
end Ixb
noncomputable def s_internal_stringslite_IndexByte : Spec Kd := sIdxB
noncomputable def M_internal_stringslite_IndexByte (F : Nat) (x : List UInt8 × Int) : Option Int := MIdxB x
theorem mo_internal_stringslite_IndexByte {F F' : Nat} (h : F ≤ F') : ∀ v, Le (M_internal_stringslite_IndexByte F v) (M_internal_stringslite_IndexByte F' v) := fun _ => Le.refl _
theorem c_internal_stringslite_IndexByte (F : Nat) : Ctr TT Tryd.prog 68 (conOf TT s_internal_stringslite_IndexByte (M_internal_stringslite_IndexByte F)) := ctr_idxB (ρ := Ixb.r_ren) Ixb.r_lays Tryd.func68 (by kernel_rfl) (by kernel_rfl) rfl
noncomputable def s_strings_Builder_WriteByte : Spec Kd := { params := [(.pin 41 [(.argp 0), (.row 5 .u8)]), (.a (.int .u8))], ret := (.one (.a .nili)), pins := [[(.argp 0), (.row 5 .u8)]], pl := { nt := 17, cuts := [(2, [(11, ⟨[.tmp 0 (.a (.ptr 1 0)), .box 1 (.cells 41 [(.argp 1), (.rowp 1000065)]), .box 1000065 (.row 5 .u8)], [], [.cellSelf 1 0, .cellRow 1 1 1000065 5 .u8]⟩)])] }, rfrz := [], ts := [4] }
noncomputable def e_strings_Builder_WriteByte (F : Nat) : Env El := (envS 39 (conOf TT s_strings_Builder_copyCheck (M_strings_Builder_copyCheck F)) envN)
/-- (*strings.Builder).WriteByte -/
noncomputable def M_strings_Builder_WriteByte (F : Nat) (x : ((Unit) × (List (El .u8)) × Unit) × (Int)) : Option ((Unit) × ((Unit) × (List (El .u8)) × Unit)) :=
  (M_strings_Builder_copyCheck F ((), x.1.2.1, ())).bind fun v0 =>
    (if decide ((v0.2.2.1.length + [UInt8.ofNat x.2.toNat].length) * 1 ≤ 140737488355328) = true then
          some ((), ((), (), ()), v0.2.2.1 ++ [UInt8.ofNat x.2.toNat], ())
        else none).bind
      fun v1 => some ((), (), v1.2.2.1, ())
theorem t_strings_Builder_WriteByte (x : ((Unit) × (List (El .u8)) × Unit) × (Int)) (F : Nat) : fnRun TT Tryd.prog (e_strings_Builder_WriteByte F) s_strings_Builder_WriteByte (bodyOf 23) F x = M_strings_Builder_WriteByte F x := by kernel_rfl
theorem c_strings_Builder_WriteByte (F : Nat) : Ctr TT Tryd.prog 23 (conOf TT s_strings_Builder_WriteByte (M_strings_Builder_WriteByte F)) :=
  ctr_of (code := bodyOf 23) Tryd.func23 (by kernel_rfl) (by kernel_rfl) (by kernel_rfl) (by kernel_rfl) (envS_ok envN_ok (c_strings_Builder_copyCheck F)) hm (by kernel_rfl) (fun x r h => ⟨F, (t_strings_Builder_WriteByte x F).trans h⟩)
theorem mo_strings_Builder_WriteByte {F F' : Nat} (h : F ≤ F') : ∀ v, Le (M_strings_Builder_WriteByte F v) (M_strings_Builder_WriteByte F' v) := by
  intro v
  unfold M_strings_Builder_WriteByte
  with_reducible repeat (first | (intro v) | exact Le.refl _ | exact h | exact mo_strings_Builder_copyCheck h _ | apply Le.bind | apply Le.ite | apply Le.loop | apply Le.sumC)
noncomputable def s_strings_IndexByte : Spec Kd := { params := [(.a .str), (.a (.int .u8))], ret := (.one (.a (.int .i64))), pins := [], pl := { nt := 8 }, rfrz := [], ts := [4] }
noncomputable def e_strings_IndexByte (F : Nat) : Env El := (envS 68 (conOf TT s_internal_stringslite_IndexByte (M_internal_stringslite_IndexByte F)) envN)
/-- strings.IndexByte -/
noncomputable def M_strings_IndexByte (F : Nat) (x : (List UInt8) × (Int)) : Option (Int) :=
  (M_internal_stringslite_IndexByte F (x.1, x.2)).bind fun v0 => some v0
theorem t_strings_IndexByte (x : (List UInt8) × (Int)) (F : Nat) : fnRun TT Tryd.prog (e_strings_IndexByte F) s_strings_IndexByte (bodyOf 58) F x = M_strings_IndexByte F x := by kernel_rfl
theorem c_strings_IndexByte (F : Nat) : Ctr TT Tryd.prog 58 (conOf TT s_strings_IndexByte (M_strings_IndexByte F)) :=
  ctr_of (code := bodyOf 58) Tryd.func58 (by kernel_rfl) (by kernel_rfl) (by kernel_rfl) (by kernel_rfl) (envS_ok envN_ok (c_internal_stringslite_IndexByte F)) hm (by kernel_rfl) (fun x r h => ⟨F, (t_strings_IndexByte x F).trans h⟩)
theorem mo_strings_IndexByte {F F' : Nat} (h : F ≤ F') : ∀ v, Le (M_strings_IndexByte F v) (M_strings_IndexByte F' v) := by
  intro v
  unfold M_strings_IndexByte
  with_reducible repeat (first | (intro v) | exact Le.refl _ | exact h | exact mo_internal_stringslite_IndexByte h _ | apply Le.bind | apply Le.ite | apply Le.loop | apply Le.sumC)

end Go.Vm
