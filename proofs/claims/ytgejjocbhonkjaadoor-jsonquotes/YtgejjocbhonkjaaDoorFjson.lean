/- Models of functions of the program, and that each keeps its contract: for all arguments of its shape. No condition. -/
import Derived.Test.YtgejjocbhonkjaaDoorKt
import Derived.Test.YtgejjocbhonkjaaDoorFjval
import Derived.Test.YtgejjocbhonkjaaDoorFjlay
import Derived.Test.YtgejjocbhonkjaaDoorV9
namespace Go.Vm
open Go.Proofs
set_option linter.unusedVariables false
noncomputable def s_json_parse : Spec Kd := { params := [(.a .str)], ret := (.tup [(.a (.any .jv)), (.a (.int .i64))]), pins := [], pl := { nt := 35, joins := [(800022, (.norm, ⟨[.tmp 4 (.a (.ptr 704 0)), .tmp 5 (.a (.any .jv)), .box 704 (.cells 143 [.str, (.int .i64), (.int .i64), (.int .i64)])], [], []⟩), [])] }, rfrz := [], ts := [2, 3], rco := [.tmpAny 2 .jv] }
noncomputable def e_json_parse (F : Nat) : Env El := (envS 100 (conOf TT s_json_reader_fail (M_json_reader_fail F)) (envS 99 (conOf TT s_json_reader_peek (M_json_reader_peek F)) (envS 98 (conOf TT s_json_reader_value (M_json_reader_value F)) envN)))
/-- concierge/json.parse -/
noncomputable def M_json_parse (F : Nat) (x : (List UInt8)) : Option ((El .jv) × (Int)) :=
  if decide (400 < (↑x.length : Int)) = true then some (JV.nil, 5)
  else
    (M_json_reader_value F (x, 0, 0, 0, ())).bind fun (v0 : JV × List UInt8 × Int × Int × Int × Unit) =>
      (M_json_reader_peek F (v0.2.1, v0.2.2.1, v0.2.2.2.1, v0.2.2.2.2.1, ())).bind fun (v1 : Int × List UInt8 × Int × Int × Int × Unit) =>
        (if decide (v1.2.2.1 < (↑x.length : Int)) = true then
              (M_json_reader_fail F ((v1.2.1, v1.2.2.1, v1.2.2.2.1, v1.2.2.2.2.1, ()), 3)).bind fun (v2 : Unit × List UInt8 × Int × Int × Int × Unit) =>
                some ((), v0.1, (v2.2.1, v2.2.2.1, v2.2.2.2.1, v2.2.2.2.2.1, ()), ())
            else some ((), v0.1, (v1.2.1, v1.2.2.1, v1.2.2.2.1, v1.2.2.2.2.1, ()), ())).bind
          fun (v3 : Unit × JV × (List UInt8 × Int × Int × Int × Unit) × Unit) =>
          if (!decide (v3.2.2.1.2.2.2.1 = 0)) = true then some (JV.nil, v3.2.2.1.2.2.2.1) else some (v3.2.1, 0)
theorem t_json_parse (x : (List UInt8)) (F : Nat) : fnRun TT Tryd.prog (e_json_parse F) s_json_parse (bodyOf 65) F x = M_json_parse F x := by kernel_rfl
theorem c_json_parse (F : Nat) : Ctr TT Tryd.prog 65 (conOf TT s_json_parse (M_json_parse F)) :=
  ctr_of (code := bodyOf 65) Tryd.func65 (by kernel_rfl) (by kernel_rfl) (by kernel_rfl) (by kernel_rfl) (envS_ok (envS_ok (envS_ok envN_ok (c_json_reader_value F)) (c_json_reader_peek F)) (c_json_reader_fail F)) hm (by kernel_rfl) (fun x r h => ⟨F, (t_json_parse x F).trans h⟩)
theorem mo_json_parse {F F' : Nat} (h : F ≤ F') : ∀ v, Le (M_json_parse F v) (M_json_parse F' v) := by
  intro v
  unfold M_json_parse
  with_reducible repeat (first | (intro v) | exact Le.refl _ | exact h | exact mo_json_reader_value h _ | exact mo_json_reader_peek h _ | exact mo_json_reader_fail h _ | apply Le.bind | apply Le.ite | apply Le.loop | apply Le.sumC)
noncomputable def s_json_Form : Spec Kd := { params := [(.a .str)], ret := (.tup [(.a .str), (.a (.int .i64))]), pins := [], pl := { nt := 17 }, rfrz := [], ts := [2, 3] }
noncomputable def e_json_Form (F : Nat) : Env El := (envS 66 (conOf TT s_json_lay (M_json_lay F)) (envS 65 (conOf TT s_json_parse (M_json_parse F)) envN))
/-- concierge/json.Form -/
noncomputable def M_json_Form (F : Nat) (x : (List UInt8)) : Option ((List UInt8) × (Int)) :=
  (M_json_parse F x).bind fun (v0 : JV × Int) =>
    if (!decide (v0.2 = 0)) = true then some ([], v0.2) else (M_json_lay F ([], v0.1)).bind fun (v1 : List UInt8) => some (v1, 0)
theorem t_json_Form (x : (List UInt8)) (F : Nat) : fnRun TT Tryd.prog (e_json_Form F) s_json_Form (bodyOf 31) F x = M_json_Form F x := by kernel_rfl
theorem c_json_Form (F : Nat) : Ctr TT Tryd.prog 31 (conOf TT s_json_Form (M_json_Form F)) :=
  ctr_of (code := bodyOf 31) Tryd.func31 (by kernel_rfl) (by kernel_rfl) (by kernel_rfl) (by kernel_rfl) (envS_ok (envS_ok envN_ok (c_json_parse F)) (c_json_lay F)) hm (by kernel_rfl) (fun x r h => ⟨F, (t_json_Form x F).trans h⟩)
theorem mo_json_Form {F F' : Nat} (h : F ≤ F') : ∀ v, Le (M_json_Form F v) (M_json_Form F' v) := by
  intro v
  unfold M_json_Form
  with_reducible repeat (first | (intro v) | exact Le.refl _ | exact h | exact mo_json_parse h _ | exact mo_json_lay h _ | apply Le.bind | apply Le.ite | apply Le.loop | apply Le.sumC)
noncomputable def s_json_Kind : Spec Kd := { params := [(.a .str)], ret := (.one (.a (.int .i64))), pins := [], pl := { nt := 29 }, rfrz := [], ts := [2] }
noncomputable def e_json_Kind (F : Nat) : Env El := (envS 65 (conOf TT s_json_parse (M_json_parse F)) envN)
/-- concierge/json.Kind -/
noncomputable def M_json_Kind (F : Nat) (x : (List UInt8)) : Option (Int) :=
  (M_json_parse F x).bind fun (v0 : JV × Int) =>
    if v0.1.isNull = true then some 1
    else
      if isSo v0.1.bool? = true then v0.1.bool?.bind fun (v1 : Bool) => some 2
      else
        if isSo v0.1.int? = true then v0.1.int?.bind fun (v2 : Int) => some 3
        else
          if isSo v0.1.str? = true then v0.1.str?.bind fun (v3 : List UInt8) => some 4
          else
            if isSo v0.1.list? = true then v0.1.list?.bind fun (v4 : List JV) => some 5
            else if isSo v0.1.obj? = true then v0.1.obj?.bind fun (v5 : List (List UInt8 × JV × Unit)) => some 6 else some 0
theorem t_json_Kind (x : (List UInt8)) (F : Nat) : fnRun TT Tryd.prog (e_json_Kind F) s_json_Kind (bodyOf 61) F x = M_json_Kind F x := by kernel_rfl
theorem c_json_Kind (F : Nat) : Ctr TT Tryd.prog 61 (conOf TT s_json_Kind (M_json_Kind F)) :=
  ctr_of (code := bodyOf 61) Tryd.func61 (by kernel_rfl) (by kernel_rfl) (by kernel_rfl) (by kernel_rfl) (envS_ok envN_ok (c_json_parse F)) hm (by kernel_rfl) (fun x r h => ⟨F, (t_json_Kind x F).trans h⟩)
theorem mo_json_Kind {F F' : Nat} (h : F ≤ F') : ∀ v, Le (M_json_Kind F v) (M_json_Kind F' v) := by
  intro v
  unfold M_json_Kind
  with_reducible repeat (first | (intro v) | exact Le.refl _ | exact h | exact mo_json_parse h _ | apply Le.bind | apply Le.ite | apply Le.loop | apply Le.sumC)
noncomputable def s_json_Text : Spec Kd := { params := [(.a .str)], ret := (.tup [(.a .str), (.a .bool)]), pins := [], pl := { nt := 20 }, rfrz := [], ts := [2, 3] }
noncomputable def e_json_Text (F : Nat) : Env El := (envS 65 (conOf TT s_json_parse (M_json_parse F)) envN)
/-- concierge/json.Text -/
noncomputable def M_json_Text (F : Nat) (x : (List UInt8)) : Option ((List UInt8) × (Bool)) :=
  (M_json_parse F x).bind fun (v0 : JV × Int) => if isSo v0.1.str? = true then v0.1.str?.bind fun (v1 : List UInt8) => some (v1, true) else some ([], false)
theorem t_json_Text (x : (List UInt8)) (F : Nat) : fnRun TT Tryd.prog (e_json_Text F) s_json_Text (bodyOf 30) F x = M_json_Text F x := by kernel_rfl
theorem c_json_Text (F : Nat) : Ctr TT Tryd.prog 30 (conOf TT s_json_Text (M_json_Text F)) :=
  ctr_of (code := bodyOf 30) Tryd.func30 (by kernel_rfl) (by kernel_rfl) (by kernel_rfl) (by kernel_rfl) (envS_ok envN_ok (c_json_parse F)) hm (by kernel_rfl) (fun x r h => ⟨F, (t_json_Text x F).trans h⟩)
theorem mo_json_Text {F F' : Nat} (h : F ≤ F') : ∀ v, Le (M_json_Text F v) (M_json_Text F' v) := by
  intro v
  unfold M_json_Text
  with_reducible repeat (first | (intro v) | exact Le.refl _ | exact h | exact mo_json_parse h _ | apply Le.bind | apply Le.ite | apply Le.loop | apply Le.sumC)

namespace Vld
open Go.Proofs Go.Shelf Go.RowKit
def r_ren : Ren := ⟨fun | 196 => 63 | 259 => 96 | n => n, fun | 0 => 0 | 3 => 3 | 4 => 4 | 5 => 5 | 9 => 9 | 12 => 12 | 46 => 111 | 53 => 170 | 119 => 136 | 138 => 138 | 139 => 139 | n => n, fun | 3 => 0 | 4 => 1 | n => n⟩
theorem r_lays : Lays.n196 Tryd.prog r_ren := { mixed := (by kernel_rfl), f196 := Tryd.func63.trans (congrArg some (by kernel_rfl)), f259 := Tryd.func96.trans (congrArg some (by kernel_rfl)), t0 := Tryd.underlying0, a0 := Tryd.isAgg0, z0 := Tryd.sizeOf0, v0 := Tryd.zeroValue0, t3 := Tryd.underlying3, a3 := Tryd.isAgg3, z3 := Tryd.sizeOf3, v3 := Tryd.zeroValue3, t4 := Tryd.underlying4, a4 := Tryd.isAgg4, z4 := Tryd.sizeOf4, v4 := Tryd.zeroValue4, t5 := Tryd.underlying5, a5 := Tryd.isAgg5, z5 := Tryd.sizeOf5, v5 := Tryd.zeroValue5, t9 := Tryd.underlying9, a9 := Tryd.isAgg9, z9 := Tryd.sizeOf9, v9 := Tryd.zeroValue9, t12 := Tryd.underlying12, a12 := Tryd.isAgg12, z12 := Tryd.sizeOf12, v12 := Tryd.zeroValue12, t46 := Tryd.underlying111, a46 := Tryd.isAgg111, z46 := Tryd.sizeOf111, v46 := Tryd.zeroValue111, t53 := Tryd.underlying170, a53 := Tryd.isAgg170, z53 := Tryd.sizeOf170, v53 := Tryd.zeroValue170, t119 := Tryd.underlying136, a119 := Tryd.isAgg136, z119 := Tryd.sizeOf136, t138 := Tryd.underlying138, a138 := Tryd.isAgg138, z138 := Tryd.sizeOf138, v138 := Tryd.zeroValue138, t139 := Tryd.underlying139, a139 := Tryd.isAgg139, z139 := Tryd.sizeOf139, v139 := Tryd.zeroValue139, g3 := (by kernel_rfl), g4 := (by kernel_rfl) }
end Vld
noncomputable def s_unicode_utf8_ValidString : Spec Kd := sValid
noncomputable def M_unicode_utf8_ValidString (F : Nat) (x : List UInt8) : Option Bool := MValid x
theorem mo_unicode_utf8_ValidString {F F' : Nat} (h : F ≤ F') : ∀ v, Le (M_unicode_utf8_ValidString F v) (M_unicode_utf8_ValidString F' v) := fun _ => Le.refl _
theorem c_unicode_utf8_ValidString (F : Nat) : Ctr TT Tryd.prog 63 (conOf TT s_unicode_utf8_ValidString (M_unicode_utf8_ValidString F)) := ctr_valid (kt := kt) (ρ := Vld.r_ren) Vld.r_lays (fun w h => h.more) Tryd.func63 (by kernel_rfl) (by kernel_rfl) rfl
noncomputable def s_json_Quote : Spec Kd := { params := [(.a .str)], ret := (.tup [(.a .str), (.a .bool)]), pins := [], pl := { nt := 15, cuts := [(1, [(8, ⟨[.tmp 0 (.a .str), .tmp 11 (.a .bool)], [832], []⟩)])] }, rfrz := [], ts := [2, 3] }
noncomputable def e_json_Quote (F : Nat) : Env El := (envS 64 (conOf TT s_json_quote (M_json_quote F)) (envS 63 (conOf TT s_unicode_utf8_ValidString (M_unicode_utf8_ValidString F)) envN))
/-- concierge/json.Quote -/
noncomputable def M_json_Quote (F : Nat) (x : (List UInt8)) : Option ((List UInt8) × (Bool)) :=
  (if decide (400 < (↑x.length : Int)) = false then (M_unicode_utf8_ValidString F x).bind fun (v0 : Bool) => some (x, !v0, ()) else some (x, true, ())).bind
    fun (v1 : List UInt8 × Bool × Unit) => if v1.2.1 = true then some ([], false) else (M_json_quote F ([], v1.1)).bind fun (v2 : List UInt8) => some (v2, true)
theorem t_json_Quote (x : (List UInt8)) (F : Nat) : fnRun TT Tryd.prog (e_json_Quote F) s_json_Quote (bodyOf 28) F x = M_json_Quote F x := by kernel_rfl
theorem c_json_Quote (F : Nat) : Ctr TT Tryd.prog 28 (conOf TT s_json_Quote (M_json_Quote F)) :=
  ctr_of (code := bodyOf 28) Tryd.func28 (by kernel_rfl) (by kernel_rfl) (by kernel_rfl) (by kernel_rfl) (envS_ok (envS_ok envN_ok (c_unicode_utf8_ValidString F)) (c_json_quote F)) hm (by kernel_rfl) (fun x r h => ⟨F, (t_json_Quote x F).trans h⟩)
theorem mo_json_Quote {F F' : Nat} (h : F ≤ F') : ∀ v, Le (M_json_Quote F v) (M_json_Quote F' v) := by
  intro v
  unfold M_json_Quote
  with_reducible repeat (first | (intro v) | exact Le.refl _ | exact h | exact mo_unicode_utf8_ValidString h _ | exact mo_json_quote h _ | apply Le.bind | apply Le.ite | apply Le.loop | apply Le.sumC)

end Go.Vm
