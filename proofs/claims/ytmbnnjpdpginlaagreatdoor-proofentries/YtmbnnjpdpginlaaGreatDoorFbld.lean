/- Models of functions of the program, and that each keeps its contract: for all arguments of its shape. No condition. -/
import Derived.Test.YtmbnnjpdpginlaaGreatDoorKt
import Derived.Test.YtmbnnjpdpginlaaGreatDoorV5
import Derived.Test.YtmbnnjpdpginlaaGreatDoorV6
namespace Go.Vm
open Go.Proofs
set_option linter.unusedVariables false

namespace Bld
open Go.Proofs Go.Shelf Go.RowKit
theorem bx72 : ∃ j, Tryz.prog.info? 60 = some j ∧ j.size = 2 := by
  have h : (Tryz.prog.info? 60).map (·.size) = some 2 := by kernel_rfl
  exact Option.map_eq_some_iff.1 h
theorem blies : liesAt Tryz.prog Tryz.prog.depth 60 (2 / Tryz.prog.cellsOf 60) 0 60 1 = true := by kernel_rfl
set_option maxHeartbeats 1000000 in
set_option maxRecDepth 100000 in
theorem copy_used (b : Nat) (w : World) (h0 : w.cell? ⟨b, 0, none⟩ = some (.pointer (some ⟨b, 0, none⟩))) :
    Calls Tryz.prog 64 #[.pointer (some ⟨b, 0, none⟩)] w fun e w' => e = .returned (.tuple #[]) ∧ w' = w := by
  obtain ⟨j, hj, _⟩ := bx72
  go_enter Tryz.func64, Tryz.ntmps64
  go_wp2
  rw [Lib.run_neq_ptr_same w _ Tryz.underlying58 hj]
  go_wp2
  go_end0
  exact ⟨rfl, rfl⟩
set_option maxHeartbeats 1000000 in
set_option maxRecDepth 100000 in
theorem copy_fresh (b : Nat) (w : World) (h0 : w.cell? ⟨b, 0, none⟩ = some (.pointer none)) (hsh : w.shape? b = some (60, 2)) (hfz : w.frozen? ⟨b, 0, none⟩ = false) :
    Calls Tryz.prog 64 #[.pointer (some ⟨b, 0, none⟩)] w fun e w' => e = .returned (.tuple #[]) ∧ w' = w.setCell ⟨b, 0, none⟩ (.pointer (some ⟨b, 0, none⟩)) := by
  obtain ⟨j, hj, hjs⟩ := bx72
  go_enter Tryz.func64, Tryz.ntmps64
  go_wp2
  rw [Lib.run_to_unsafe w ⟨b, 0, none⟩ Tryz.underlying58 Tryz.underlying114 hj (by rw [hjs]; decide) hsh (Nat.zero_lt_succ 1)]
  simp only [Result.andThen]
  rw [Oper.upon_value]
  go_wp2
  rw [run_callFunc_extern Tryz.func92 (by kernel_rfl) (by kernel_rfl) (by kernel_rfl) (e := Extern.AbiNoEscape.same) (by kernel_rfl)]
  rw [Lib.run_noEscape]
  simp only [Result.andThen]
  rw [Oper.upon_value]
  go_wp2
  rw [Lib.run_from_unsafe w ⟨b, 0, none⟩ Tryz.underlying114 Tryz.underlying58 hj hsh blies]
  simp only [Result.andThen]
  rw [Oper.upon_value]
  go_wp2
  go_end0
  exact ⟨rfl, rfl⟩
def ren : Ren := ⟨fun | 169 => 31 | n => n, fun | 70 => 58 | 9 => 9 | 0 => 0 | 72 => 60 | 37 => 50 | 127 => 97 | 3 => 3 | 5 => 5 | n => n, fun | n => n⟩
theorem lays : Lays.n169 Tryz.prog ren := { mixed := (by kernel_rfl), f169 := Tryz.func31.trans (congrArg some (by kernel_rfl)), t0 := Tryz.underlying0, a0 := Tryz.isAgg0, z0 := Tryz.sizeOf0, v0 := Tryz.zeroValue0, t3 := Tryz.underlying3, a3 := Tryz.isAgg3, z3 := Tryz.sizeOf3, v3 := Tryz.zeroValue3, t9 := Tryz.underlying9, a9 := Tryz.isAgg9, z9 := Tryz.sizeOf9, v9 := Tryz.zeroValue9, t37 := Tryz.underlying50, a37 := Tryz.isAgg50, z37 := Tryz.sizeOf50, v37 := Tryz.zeroValue50, t70 := Tryz.underlying58, a70 := Tryz.isAgg58, z70 := Tryz.sizeOf58, v70 := Tryz.zeroValue58, t72 := Tryz.underlying60, a72 := Tryz.isAgg60, z72 := Tryz.sizeOf60, v72 := Tryz.zeroValue60, t127 := Tryz.underlying97, a127 := Tryz.isAgg97, z127 := Tryz.sizeOf97, v127 := Tryz.zeroValue97 }
theorem extra : Builder.Extra Tryz.prog ren := { sizeBuilder := (by kernel_rfl), liesBuilder := (by kernel_rfl), t5 := Tryz.underlying5, a5 := Tryz.isAgg5, z5 := Tryz.sizeOf5, v5 := Tryz.zeroValue5, infoByte := (by kernel_rfl), cellsByte := (by kernel_rfl), sizeByte := (by kernel_rfl), neB5 := (by decide) }
end Bld
noncomputable def s_strings_Builder_copyCheck : Spec Kd := sCopy 60 5
noncomputable def M_strings_Builder_copyCheck (F : Nat) (x : Unit × List UInt8 × Unit) : Option (Unit × (Unit × List UInt8 × Unit)) := some ((), x)
theorem mo_strings_Builder_copyCheck {F F' : Nat} (h : F ≤ F') : ∀ v, Le (M_strings_Builder_copyCheck F v) (M_strings_Builder_copyCheck F' v) := fun _ => Le.refl _
theorem c_strings_Builder_copyCheck (F : Nat) : Ctr TT Tryz.prog 64 (conOf TT s_strings_Builder_copyCheck (M_strings_Builder_copyCheck F)) := ctr_copy Tryz.func64 (by kernel_rfl) (by kernel_rfl) 5 Bld.copy_fresh Bld.copy_used

noncomputable def s_strings_Builder_String : Spec Kd := sBStr 60 5
noncomputable def M_strings_Builder_String (F : Nat) (x : Unit × List UInt8 × Unit) : Option (List UInt8 × (Unit × Unit × Unit)) := some (x.2.1, ((), (), ()))
theorem mo_strings_Builder_String {F F' : Nat} (h : F ≤ F') : ∀ v, Le (M_strings_Builder_String F v) (M_strings_Builder_String F' v) := fun _ => Le.refl _
theorem c_strings_Builder_String (F : Nat) : Ctr TT Tryz.prog 31 (conOf TT s_strings_Builder_String (M_strings_Builder_String F)) := ctr_bstr (ρ := Bld.ren) Bld.lays Bld.extra Tryz.func31 (by kernel_rfl) (by kernel_rfl) rfl

namespace Spl
open Go.Proofs Go.Shelf Go.RowKit
def r_ren : Ren := ⟨fun | 138 => 147 | 143 => 148 | 146 => 137 | 195 => 150 | 197 => 151 | 217 => 149 | 218 => 152 | 219 => 153 | 221 => 142 | 224 => 157 | 225 => 156 | 260 => 155 | 266 => 154 | 267 => 158 | 268 => 146 | 314 => 159 | n => n, fun | 0 => 0 | 3 => 3 | 4 => 4 | 5 => 5 | 9 => 9 | 21 => 21 | 31 => 38 | 46 => 95 | 51 => 112 | 105 => 155 | 119 => 157 | 138 => 159 | 139 => 160 | 146 => 161 | n => n, fun | 1 => 0 | 3 => 1 | 4 => 2 | n => n⟩
theorem r_lays : Lays.n146 Tryz.prog r_ren := { mixed := (by kernel_rfl), f138 := Tryz.func147.trans (congrArg some (by kernel_rfl)), f143 := Tryz.func148.trans (congrArg some (by kernel_rfl)), f146 := Tryz.func137.trans (congrArg some (by kernel_rfl)), f195 := Tryz.func150.trans (congrArg some (by kernel_rfl)), f197 := Tryz.func151.trans (congrArg some (by kernel_rfl)), f217 := Tryz.func149.trans (congrArg some (by kernel_rfl)), f218 := Tryz.func152.trans (congrArg some (by kernel_rfl)), f219 := Tryz.func153.trans (congrArg some (by kernel_rfl)), f221 := Tryz.func142.trans (congrArg some (by kernel_rfl)), f224 := Tryz.func157.trans (congrArg some (by kernel_rfl)), f225 := Tryz.func156.trans (congrArg some (by kernel_rfl)), f260 := Tryz.func155.trans (congrArg some (by kernel_rfl)), f266 := Tryz.func154.trans (congrArg some (by kernel_rfl)), f267 := Tryz.func158.trans (congrArg some (by kernel_rfl)), f268 := Tryz.func146.trans (congrArg some (by kernel_rfl)), f314 := Tryz.func159.trans (congrArg some (by kernel_rfl)), t0 := Tryz.underlying0, a0 := Tryz.isAgg0, z0 := Tryz.sizeOf0, v0 := Tryz.zeroValue0, t3 := Tryz.underlying3, a3 := Tryz.isAgg3, z3 := Tryz.sizeOf3, v3 := Tryz.zeroValue3, t4 := Tryz.underlying4, a4 := Tryz.isAgg4, z4 := Tryz.sizeOf4, v4 := Tryz.zeroValue4, t5 := Tryz.underlying5, a5 := Tryz.isAgg5, z5 := Tryz.sizeOf5, v5 := Tryz.zeroValue5, t9 := Tryz.underlying9, a9 := Tryz.isAgg9, z9 := Tryz.sizeOf9, v9 := Tryz.zeroValue9, t21 := Tryz.underlying21, a21 := Tryz.isAgg21, z21 := Tryz.sizeOf21, v21 := Tryz.zeroValue21, t31 := Tryz.underlying38, a31 := Tryz.isAgg38, z31 := Tryz.sizeOf38, v31 := Tryz.zeroValue38, t46 := Tryz.underlying95, a46 := Tryz.isAgg95, z46 := Tryz.sizeOf95, v46 := Tryz.zeroValue95, t51 := Tryz.underlying112, a51 := Tryz.isAgg112, z51 := Tryz.sizeOf112, v51 := Tryz.zeroValue112, t105 := Tryz.underlying155, a105 := Tryz.isAgg155, z105 := Tryz.sizeOf155, v105 := Tryz.zeroValue155, t119 := Tryz.underlying157, a119 := Tryz.isAgg157, z119 := Tryz.sizeOf157, t138 := Tryz.underlying159, a138 := Tryz.isAgg159, z138 := Tryz.sizeOf159, v138 := Tryz.zeroValue159, t139 := Tryz.underlying160, a139 := Tryz.isAgg160, z139 := Tryz.sizeOf160, v139 := Tryz.zeroValue160, t146 := Tryz.underlying161, a146 := Tryz.isAgg161, z146 := Tryz.sizeOf161, v146 := Tryz.zeroValue161, g1 := (by kernel_rfl), g3 := (by kernel_rfl), g4 := (by kernel_rfl) }
theorem r_i9 : (Tryz.prog.info? (r_ren.t 9)).map (fun i => (i.zero, i.size, i.bytes)) = some (some (.string ByteArray.empty), 1, 16) := by kernel_rfl
end Spl
noncomputable def s_strings_Split : Spec Kd := sSplit
noncomputable def M_strings_Split (F : Nat) (x : List UInt8 × List UInt8) : Option (List (List UInt8)) := MSplit x
theorem mo_strings_Split {F F' : Nat} (h : F ≤ F') : ∀ v, Le (M_strings_Split F v) (M_strings_Split F' v) := fun _ => Le.refl _
theorem c_strings_Split (F : Nat) : Ctr TT Tryz.prog 137 (conOf TT s_strings_Split (M_strings_Split F)) := ctr_split (ρ := Spl.r_ren) Spl.r_lays Spl.r_i9 Tryz.func137 (by kernel_rfl) (by kernel_rfl) rfl

namespace Ixb
open Go.Proofs Go.Shelf Go.RowKit
def r_ren : Ren := ⟨fun | 217 => 149 | 266 => 154 | n => n, fun | 3 => 3 | 5 => 5 | 9 => 9 | n => n, fun n => n⟩
theorem r_lays : Lays.n217 Tryz.prog r_ren := { mixed := (by kernel_rfl), f217 := Tryz.func149.trans (congrArg some (by kernel_rfl)), f266 := Tryz.func154.trans (congrArg some (by kernel_rfl)), t3 := Tryz.underlying3, a3 := Tryz.isAgg3, z3 := Tryz.sizeOf3, v3 := Tryz.zeroValue3, t5 := Tryz.underlying5, a5 := Tryz.isAgg5, z5 := Tryz.sizeOf5, v5 := Tryz.zeroValue5, t9 := Tryz.underlying9, a9 := Tryz.isAgg9, z9 := Tryz.sizeOf9, v9 := Tryz.zeroValue9 }
end Ixb
noncomputable def s_internal_stringslite_IndexByte : Spec Kd := sIdxB
noncomputable def M_internal_stringslite_IndexByte (F : Nat) (x : List UInt8 × Int) : Option Int := MIdxB x
theorem mo_internal_stringslite_IndexByte {F F' : Nat} (h : F ≤ F') : ∀ v, Le (M_internal_stringslite_IndexByte F v) (M_internal_stringslite_IndexByte F' v) := fun _ => Le.refl _
theorem c_internal_stringslite_IndexByte (F : Nat) : Ctr TT Tryz.prog 149 (conOf TT s_internal_stringslite_IndexByte (M_internal_stringslite_IndexByte F)) := ctr_idxB (ρ := Ixb.r_ren) Ixb.r_lays Tryz.func149 (by kernel_rfl) (by kernel_rfl) rfl
noncomputable def s_strings_Builder_WriteByte : Spec Kd := { params := [(.pin 60 [(.argp 0), (.row 5 .u8)]), (.a (.int .u8))], ret := (.one (.a .nili)), pins := [[(.argp 0), (.row 5 .u8)]], pl := { nt := 17, cuts := [(2, [(11, ⟨[.tmp 0 (.a (.ptr 1 0)), .box 1 (.cells 60 [(.argp 1), (.rowp 1000065)]), .box 1000065 (.row 5 .u8)], [], [.cellSelf 1 0, .cellRow 1 1 1000065 5 .u8]⟩)])] }, rfrz := [], ts := [4] }
noncomputable def e_strings_Builder_WriteByte (F : Nat) : Env El := (envS 64 (conOf TT s_strings_Builder_copyCheck (M_strings_Builder_copyCheck F)) envN)
/-- (*strings.Builder).WriteByte -/
noncomputable def M_strings_Builder_WriteByte (F : Nat) (x : ((Unit) × (List (El .u8)) × Unit) × (Int)) : Option ((Unit) × ((Unit) × (List (El .u8)) × Unit)) :=
  (M_strings_Builder_copyCheck F ((), x.1.2.1, ())).bind fun v0 =>
    (if decide ((v0.2.2.1.length + [UInt8.ofNat x.2.toNat].length) * 1 ≤ 140737488355328) = true then
          some ((), ((), (), ()), v0.2.2.1 ++ [UInt8.ofNat x.2.toNat], ())
        else none).bind
      fun v1 => some ((), (), v1.2.2.1, ())
theorem t_strings_Builder_WriteByte (x : ((Unit) × (List (El .u8)) × Unit) × (Int)) (F : Nat) : fnRun TT Tryz.prog (e_strings_Builder_WriteByte F) s_strings_Builder_WriteByte (bodyOf 125) F x = M_strings_Builder_WriteByte F x := by kernel_rfl
theorem c_strings_Builder_WriteByte (F : Nat) : Ctr TT Tryz.prog 125 (conOf TT s_strings_Builder_WriteByte (M_strings_Builder_WriteByte F)) :=
  ctr_of (code := bodyOf 125) Tryz.func125 (by kernel_rfl) (by kernel_rfl) (by kernel_rfl) (by kernel_rfl) (envS_ok envN_ok (c_strings_Builder_copyCheck F)) hm (by kernel_rfl) (fun x r h => ⟨F, (t_strings_Builder_WriteByte x F).trans h⟩)
theorem mo_strings_Builder_WriteByte {F F' : Nat} (h : F ≤ F') : ∀ v, Le (M_strings_Builder_WriteByte F v) (M_strings_Builder_WriteByte F' v) := by
  intro v
  unfold M_strings_Builder_WriteByte
  with_reducible repeat (first | (intro v) | exact Le.refl _ | exact h | exact mo_strings_Builder_copyCheck h _ | apply Le.bind | apply Le.ite | apply Le.loop | apply Le.sumC)
noncomputable def s_strings_IndexByte : Spec Kd := { params := [(.a .str), (.a (.int .u8))], ret := (.one (.a (.int .i64))), pins := [], pl := { nt := 8 }, rfrz := [], ts := [4] }
noncomputable def e_strings_IndexByte (F : Nat) : Env El := (envS 149 (conOf TT s_internal_stringslite_IndexByte (M_internal_stringslite_IndexByte F)) envN)
/-- strings.IndexByte -/
noncomputable def M_strings_IndexByte (F : Nat) (x : (List UInt8) × (Int)) : Option (Int) :=
  (M_internal_stringslite_IndexByte F x).bind fun v0 => some v0
theorem t_strings_IndexByte (x : (List UInt8) × (Int)) (F : Nat) : fnRun TT Tryz.prog (e_strings_IndexByte F) s_strings_IndexByte (bodyOf 145) F x = M_strings_IndexByte F x := by kernel_rfl
theorem c_strings_IndexByte (F : Nat) : Ctr TT Tryz.prog 145 (conOf TT s_strings_IndexByte (M_strings_IndexByte F)) :=
  ctr_of (code := bodyOf 145) Tryz.func145 (by kernel_rfl) (by kernel_rfl) (by kernel_rfl) (by kernel_rfl) (envS_ok envN_ok (c_internal_stringslite_IndexByte F)) hm (by kernel_rfl) (fun x r h => ⟨F, (t_strings_IndexByte x F).trans h⟩)
theorem mo_strings_IndexByte {F F' : Nat} (h : F ≤ F') : ∀ v, Le (M_strings_IndexByte F v) (M_strings_IndexByte F' v) := by
  intro v
  unfold M_strings_IndexByte
  with_reducible repeat (first | (intro v) | exact Le.refl _ | exact h | exact mo_internal_stringslite_IndexByte h _ | apply Le.bind | apply Le.ite | apply Le.loop | apply Le.sumC)
noncomputable def s_strings_Builder_WriteString : Spec Kd := { params := [(.pin 60 [(.argp 0), (.row 5 .u8)]), (.a .str)], ret := (.tup [(.a (.int .i64)), (.a .nili)]), pins := [[(.argp 0), (.row 5 .u8)]], pl := { nt := 19, cuts := [(2, [(10, ⟨[.tmp 0 (.a (.ptr 1 0)), .tmp 1 (.a .str), .box 1 (.cells 60 [(.argp 1), (.rowp 1000065)]), .box 1000065 (.row 5 .u8)], [], [.cellSelf 1 0, .cellRow 1 1 1000065 5 .u8]⟩)])] }, rfrz := [], ts := [4, 5] }
noncomputable def e_strings_Builder_WriteString (F : Nat) : Env El := (envS 64 (conOf TT s_strings_Builder_copyCheck (M_strings_Builder_copyCheck F)) envN)
/-- (*strings.Builder).WriteString -/
noncomputable def M_strings_Builder_WriteString (F : Nat) (x : ((Unit) × (List (El .u8)) × Unit) × (List UInt8)) : Option (((Int) × (Unit)) × ((Unit) × (List (El .u8)) × Unit)) :=
  (M_strings_Builder_copyCheck F ((), x.1.2.1, ())).bind fun v0 =>
    (if decide ((v0.2.2.1.length + x.2.length) * 1 ≤ 140737488355328) = true then some ((), x.2, ((), (), ()), v0.2.2.1 ++ x.2, ()) else none).bind fun v1 =>
      some (((↑v1.2.1.length : Int), ()), (), v1.2.2.2.1, ())
theorem t_strings_Builder_WriteString (x : ((Unit) × (List (El .u8)) × Unit) × (List UInt8)) (F : Nat) : fnRun TT Tryz.prog (e_strings_Builder_WriteString F) s_strings_Builder_WriteString (bodyOf 29) F x = M_strings_Builder_WriteString F x := by kernel_rfl
theorem c_strings_Builder_WriteString (F : Nat) : Ctr TT Tryz.prog 29 (conOf TT s_strings_Builder_WriteString (M_strings_Builder_WriteString F)) :=
  ctr_of (code := bodyOf 29) Tryz.func29 (by kernel_rfl) (by kernel_rfl) (by kernel_rfl) (by kernel_rfl) (envS_ok envN_ok (c_strings_Builder_copyCheck F)) hm (by kernel_rfl) (fun x r h => ⟨F, (t_strings_Builder_WriteString x F).trans h⟩)
theorem mo_strings_Builder_WriteString {F F' : Nat} (h : F ≤ F') : ∀ v, Le (M_strings_Builder_WriteString F v) (M_strings_Builder_WriteString F' v) := by
  intro v
  unfold M_strings_Builder_WriteString
  with_reducible repeat (first | (intro v) | exact Le.refl _ | exact h | exact mo_strings_Builder_copyCheck h _ | apply Le.bind | apply Le.ite | apply Le.loop | apply Le.sumC)

end Go.Vm
