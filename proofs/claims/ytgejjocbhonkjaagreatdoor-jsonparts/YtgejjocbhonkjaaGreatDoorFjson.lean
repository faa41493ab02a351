/- Models of functions of the program, and that each keeps its contract: for all arguments of its shape. No condition. -/
import Derived.Test.YtgejjocbhonkjaaGreatDoorKt
import Derived.Test.YtgejjocbhonkjaaGreatDoorFjval
import Derived.Test.YtgejjocbhonkjaaGreatDoorFjlay
namespace Go.Vm
open Go.Proofs
set_option linter.unusedVariables false
noncomputable def s_json_parse : Spec Kd := { params := [(.a .str)], ret := (.tup [(.a (.any .jv)), (.a (.int .i64))]), pins := [], pl := { nt := 35, joins := [(800022, (.norm, ⟨[.tmp 4 (.a (.ptr 704 0)), .tmp 5 (.a (.any .jv)), .box 704 (.cells 110 [.str, (.int .i64), (.int .i64), (.int .i64)])], [], []⟩), [])] }, rfrz := [], ts := [2, 3], rco := [.tmpAny 2 .jv] }
noncomputable def e_json_parse (F : Nat) : Env El := (envS 79 (conOf TT s_json_reader_fail (M_json_reader_fail F)) (envS 78 (conOf TT s_json_reader_peek (M_json_reader_peek F)) (envS 77 (conOf TT s_json_reader_value (M_json_reader_value F)) envN)))
/-- concierge/json.parse -/
noncomputable def M_json_parse (F : Nat) (x : (List UInt8)) : Option ((El .jv) × (Int)) :=
  if decide (400 < (↑x.length : Int)) = true then some (JV.nil, 5)
  else
    (M_json_reader_value F (x, 0, 0, 0, ())).bind fun (v0 : JV × List UInt8 × Int × Int × Int × Unit) =>
      (M_json_reader_peek F (v0.2.1, v0.2.2.1, v0.2.2.2.1, v0.2.2.2.2.1, ())).bind fun (v1 : Int × List UInt8 × Int × Int × Int × Unit) =>
        (if decide (v1.2.2.1 < (↑x.length : Int)) = true then
              (M_json_reader_fail F ((v1.2.1, v1.2.2.1, v1.2.2.2.1, v1.2.2.2.2.1, ()), 3)).bind fun (v2 : Unit × List UInt8 × Int × Int × Int × Unit) =>
                some ((), v0.1, (v2.2.1, v2.2.2.1, v2.2.2.2.1, v2.2.2.2.2.1, ()), ())
            else some ((), v0.1, (v1.2.1, v1.2.2.1, v1.2.2.2.1, v1.2.2.2.2.1, ()), ())).bind
          fun (v3 : Unit × JV × (List UInt8 × Int × Int × Int × Unit) × Unit) =>
          if (!decide (v3.2.2.1.2.2.2.1 = 0)) = true then some (JV.nil, v3.2.2.1.2.2.2.1) else some (v3.2.1, 0)
theorem t_json_parse (x : (List UInt8)) (F : Nat) : fnRun TT Tryz.prog (e_json_parse F) s_json_parse (bodyOf 42) F x = M_json_parse F x := by kernel_rfl
theorem c_json_parse (F : Nat) : Ctr TT Tryz.prog 42 (conOf TT s_json_parse (M_json_parse F)) :=
  ctr_of (code := bodyOf 42) Tryz.func42 (by kernel_rfl) (by kernel_rfl) (by kernel_rfl) (by kernel_rfl) (envS_ok (envS_ok (envS_ok envN_ok (c_json_reader_value F)) (c_json_reader_peek F)) (c_json_reader_fail F)) hm (by kernel_rfl) (fun x r h => ⟨F, (t_json_parse x F).trans h⟩)
theorem mo_json_parse {F F' : Nat} (h : F ≤ F') : ∀ v, Le (M_json_parse F v) (M_json_parse F' v) := by
  intro v
  unfold M_json_parse
  with_reducible repeat (first | (intro v) | exact Le.refl _ | exact h | exact mo_json_reader_value h _ | exact mo_json_reader_peek h _ | exact mo_json_reader_fail h _ | apply Le.bind | apply Le.ite | apply Le.loop | apply Le.sumC)
noncomputable def s_json_Form : Spec Kd := { params := [(.a .str)], ret := (.tup [(.a .str), (.a (.int .i64))]), pins := [], pl := { nt := 17 }, rfrz := [], ts := [2, 3] }
noncomputable def e_json_Form (F : Nat) : Env El := (envS 43 (conOf TT s_json_lay (M_json_lay F)) (envS 42 (conOf TT s_json_parse (M_json_parse F)) envN))
/-- concierge/json.Form -/
noncomputable def M_json_Form (F : Nat) (x : (List UInt8)) : Option ((List UInt8) × (Int)) :=
  (M_json_parse F x).bind fun (v0 : JV × Int) =>
    if (!decide (v0.2 = 0)) = true then some ([], v0.2) else (M_json_lay F ([], v0.1)).bind fun (v1 : List UInt8) => some (v1, 0)
theorem t_json_Form (x : (List UInt8)) (F : Nat) : fnRun TT Tryz.prog (e_json_Form F) s_json_Form (bodyOf 16) F x = M_json_Form F x := by kernel_rfl
theorem c_json_Form (F : Nat) : Ctr TT Tryz.prog 16 (conOf TT s_json_Form (M_json_Form F)) :=
  ctr_of (code := bodyOf 16) Tryz.func16 (by kernel_rfl) (by kernel_rfl) (by kernel_rfl) (by kernel_rfl) (envS_ok (envS_ok envN_ok (c_json_parse F)) (c_json_lay F)) hm (by kernel_rfl) (fun x r h => ⟨F, (t_json_Form x F).trans h⟩)
theorem mo_json_Form {F F' : Nat} (h : F ≤ F') : ∀ v, Le (M_json_Form F v) (M_json_Form F' v) := by
  intro v
  unfold M_json_Form
  with_reducible repeat (first | (intro v) | exact Le.refl _ | exact h | exact mo_json_parse h _ | exact mo_json_lay h _ | apply Le.bind | apply Le.ite | apply Le.loop | apply Le.sumC)
noncomputable def s_json_Kind : Spec Kd := { params := [(.a .str)], ret := (.one (.a (.int .i64))), pins := [], pl := { nt := 29 }, rfrz := [], ts := [2] }
noncomputable def e_json_Kind (F : Nat) : Env El := (envS 42 (conOf TT s_json_parse (M_json_parse F)) envN)
/-- concierge/json.Kind -/
noncomputable def M_json_Kind (F : Nat) (x : (List UInt8)) : Option (Int) :=
  (M_json_parse F x).bind fun (v0 : JV × Int) =>
    if v0.1.isNull = true then some 1
    else
      if isSo v0.1.bool? = true then v0.1.bool?.bind fun (v1 : Bool) => some 2
      else
        if isSo v0.1.int? = true then v0.1.int?.bind fun (v2 : Int) => some 3
        else
          if isSo v0.1.str? = true then v0.1.str?.bind fun (v3 : List UInt8) => some 4
          else
            if isSo v0.1.list? = true then v0.1.list?.bind fun (v4 : List JV) => some 5
            else if isSo v0.1.obj? = true then v0.1.obj?.bind fun (v5 : List (List UInt8 × JV × Unit)) => some 6 else some 0
theorem t_json_Kind (x : (List UInt8)) (F : Nat) : fnRun TT Tryz.prog (e_json_Kind F) s_json_Kind (bodyOf 20) F x = M_json_Kind F x := by kernel_rfl
theorem c_json_Kind (F : Nat) : Ctr TT Tryz.prog 20 (conOf TT s_json_Kind (M_json_Kind F)) :=
  ctr_of (code := bodyOf 20) Tryz.func20 (by kernel_rfl) (by kernel_rfl) (by kernel_rfl) (by kernel_rfl) (envS_ok envN_ok (c_json_parse F)) hm (by kernel_rfl) (fun x r h => ⟨F, (t_json_Kind x F).trans h⟩)
theorem mo_json_Kind {F F' : Nat} (h : F ≤ F') : ∀ v, Le (M_json_Kind F v) (M_json_Kind F' v) := by
  intro v
  unfold M_json_Kind
  with_reducible repeat (first | (intro v) | exact Le.refl _ | exact h | exact mo_json_parse h _ | apply Le.bind | apply Le.ite | apply Le.loop | apply Le.sumC)
noncomputable def s_json_Text : Spec Kd := { params := [(.a .str)], ret := (.tup [(.a .str), (.a .bool)]), pins := [], pl := { nt := 20 }, rfrz := [], ts := [2, 3] }
noncomputable def e_json_Text (F : Nat) : Env El := (envS 42 (conOf TT s_json_parse (M_json_parse F)) envN)
/-- concierge/json.Text -/
noncomputable def M_json_Text (F : Nat) (x : (List UInt8)) : Option ((List UInt8) × (Bool)) :=
  (M_json_parse F x).bind fun (v0 : JV × Int) => if isSo v0.1.str? = true then v0.1.str?.bind fun (v1 : List UInt8) => some (v1, true) else some ([], false)
theorem t_json_Text (x : (List UInt8)) (F : Nat) : fnRun TT Tryz.prog (e_json_Text F) s_json_Text (bodyOf 25) F x = M_json_Text F x := by kernel_rfl
theorem c_json_Text (F : Nat) : Ctr TT Tryz.prog 25 (conOf TT s_json_Text (M_json_Text F)) :=
  ctr_of (code := bodyOf 25) Tryz.func25 (by kernel_rfl) (by kernel_rfl) (by kernel_rfl) (by kernel_rfl) (envS_ok envN_ok (c_json_parse F)) hm (by kernel_rfl) (fun x r h => ⟨F, (t_json_Text x F).trans h⟩)
theorem mo_json_Text {F F' : Nat} (h : F ≤ F') : ∀ v, Le (M_json_Text F v) (M_json_Text F' v) := by
  intro v
  unfold M_json_Text
  with_reducible repeat (first | (intro v) | exact Le.refl _ | exact h | exact mo_json_parse h _ | apply Le.bind | apply Le.ite | apply Le.loop | apply Le.sumC)
noncomputable def s_json_Len : Spec Kd := { params := [(.a .str)], ret := (.one (.a (.int .i64))), pins := [], pl := { nt := 29 }, rfrz := [], ts := [2] }
noncomputable def e_json_Len (F : Nat) : Env El := (envS 42 (conOf TT s_json_parse (M_json_parse F)) envN)
/-- concierge/json.Len -/
noncomputable def M_json_Len (F : Nat) (x : (List UInt8)) : Option (Int) :=
  (M_json_parse F x).bind fun (v0 : JV × Int) =>
    if isSo v0.1.list? = true then v0.1.list?.bind fun (v1 : List JV) => some (↑v1.length : Int)
    else if isSo v0.1.obj? = true then v0.1.obj?.bind fun (v2 : List (List UInt8 × JV × Unit)) => some (↑v2.length : Int) else some 0
theorem t_json_Len (x : (List UInt8)) (F : Nat) : fnRun TT Tryz.prog (e_json_Len F) s_json_Len (bodyOf 21) F x = M_json_Len F x := by kernel_rfl
theorem c_json_Len (F : Nat) : Ctr TT Tryz.prog 21 (conOf TT s_json_Len (M_json_Len F)) :=
  ctr_of (code := bodyOf 21) Tryz.func21 (by kernel_rfl) (by kernel_rfl) (by kernel_rfl) (by kernel_rfl) (envS_ok envN_ok (c_json_parse F)) hm (by kernel_rfl) (fun x r h => ⟨F, (t_json_Len x F).trans h⟩)
theorem mo_json_Len {F F' : Nat} (h : F ≤ F') : ∀ v, Le (M_json_Len F v) (M_json_Len F' v) := by
  intro v
  unfold M_json_Len
  with_reducible repeat (first | (intro v) | exact Le.refl _ | exact h | exact mo_json_parse h _ | apply Le.bind | apply Le.ite | apply Le.loop | apply Le.sumC)
noncomputable def s_json_Names : Spec Kd := { params := [(.a .str)], ret := (.one (.a (.row 9 .str))), pins := [], pl := { nt := 33, orc := { rv := [2, 7, 26, 30, 32], gv := [] }, loops := [(0, ⟨[.tmp 7 (.a (.rowp 448)), .tmp 20 (.a (.slc .me)), .tmp 21 (.a (.int .i64)), .tmp 22 (.a (.int .i64)), .box 448 (.row 9 .str)], [], [.tmpRow 7 448 9 .str]⟩, (.exit 0, ⟨[.tmp 7 (.a (.rowp 448)), .box 448 (.row 9 .str)], [], [.tmpRow 7 448 9 .str]⟩), [])] }, rfrz := [], ts := [2] }
noncomputable def e_json_Names (F : Nat) : Env El := (envS 42 (conOf TT s_json_parse (M_json_parse F)) envN)
/-- concierge/json.Names -/
noncomputable def M_json_Names_l0 (F : Nat) (v2 : (Unit × List (List UInt8 × JV × Unit) × Int × Int × List (List UInt8) × Unit)) : Option ((Unit × List (List UInt8 × JV × Unit) × Int × Int × List (List UInt8) × Unit) ⊕ (Unit × List (List UInt8) × Unit)) :=
  if decide (v2.2.2.2.1 < v2.2.2.1) = true then
                (idx v2.2.1 v2.2.2.2.1).bind fun (v3 : List UInt8 × JV × Unit) =>
                  if decide ((v2.2.2.2.2.1.length + [v3.1].length) * 16 ≤ 140737488355328) = true then
                    some (Sum.inl ((), v2.2.1, v2.2.2.1, IntKind.i64.wrap (v2.2.2.2.1 + 1), v2.2.2.2.2.1 ++ [v3.1], ()))
                  else none
              else some (Sum.inr ((), v2.2.2.2.2.1, ()))
noncomputable def M_json_Names_l1 (F : Nat) (v5 : (Unit × List (List UInt8 × JV × Unit) × Int × Int × List (List UInt8) × Unit)) : Option ((Unit × List (List UInt8 × JV × Unit) × Int × Int × List (List UInt8) × Unit) ⊕ (Unit × List (List UInt8) × Unit)) :=
  if decide (v5.2.2.2.1 < v5.2.2.1) = true then
              (idx v5.2.1 v5.2.2.2.1).bind fun (v6 : List UInt8 × JV × Unit) =>
                if decide ((v5.2.2.2.2.1.length + [v6.1].length) * 16 ≤ 140737488355328) = true then
                  some (Sum.inl ((), v5.2.1, v5.2.2.1, IntKind.i64.wrap (v5.2.2.2.1 + 1), v5.2.2.2.2.1 ++ [v6.1], ()))
                else none
            else some (Sum.inr ((), v5.2.2.2.2.1, ()))
noncomputable def M_json_Names (F : Nat) (x : (List UInt8)) : Option (List (El .str)) :=
  (M_json_parse F x).bind fun (v0 : JV × Int) =>
    if isSo v0.1.obj? = true then
      v0.1.obj?.bind fun (v1 : List (List UInt8 × JV × Unit)) =>
        (loopM (M_json_Names_l0 F)
              F ((), v1, (↑v1.length : Int), 0, [], ())).bind
          fun (v4 : Unit × List (List UInt8) × Unit) => some v4.2.1
    else
      (loopM (M_json_Names_l1 F)
            F ((), [], 0, 0, [], ())).bind
        fun (v7 : Unit × List (List UInt8) × Unit) => some v7.2.1
theorem t_json_Names (x : (List UInt8)) (F : Nat) : fnRun TT Tryz.prog (e_json_Names F) s_json_Names (bodyOf 19) F x = M_json_Names F x := by kernel_rfl
theorem c_json_Names (F : Nat) : Ctr TT Tryz.prog 19 (conOf TT s_json_Names (M_json_Names F)) :=
  ctr_of (code := bodyOf 19) Tryz.func19 (by kernel_rfl) (by kernel_rfl) (by kernel_rfl) (by kernel_rfl) (envS_ok envN_ok (c_json_parse F)) hm (by kernel_rfl) (fun x r h => ⟨F, (t_json_Names x F).trans h⟩)
theorem mo_json_Names_l0 {F F' : Nat} (h : F ≤ F') : ∀ v, Le (M_json_Names_l0 F v) (M_json_Names_l0 F' v) := by
  intro v
  unfold M_json_Names_l0
  with_reducible repeat (first | (intro v) | exact Le.refl _ | exact h | exact mo_json_parse h _ | apply Le.bind | apply Le.ite | apply Le.loop | apply Le.sumC)
theorem mo_json_Names_l1 {F F' : Nat} (h : F ≤ F') : ∀ v, Le (M_json_Names_l1 F v) (M_json_Names_l1 F' v) := by
  intro v
  unfold M_json_Names_l1
  with_reducible repeat (first | (intro v) | exact Le.refl _ | exact h | exact mo_json_parse h _ | exact mo_json_Names_l0 h | exact mo_json_Names_l0 h _ | apply Le.bind | apply Le.ite | apply Le.loop | apply Le.sumC)
theorem mo_json_Names {F F' : Nat} (h : F ≤ F') : ∀ v, Le (M_json_Names F v) (M_json_Names F' v) := by
  intro v
  unfold M_json_Names
  with_reducible repeat (first | (intro v) | exact Le.refl _ | exact h | exact mo_json_parse h _ | exact mo_json_Names_l0 h | exact mo_json_Names_l0 h _ | exact mo_json_Names_l1 h | exact mo_json_Names_l1 h _ | apply Le.bind | apply Le.ite | apply Le.loop | apply Le.sumC)
noncomputable def s_json_Field : Spec Kd := { params := [(.a .str), (.a .str)], ret := (.tup [(.a .str), (.a .bool)]), pins := [], pl := { nt := 33 }, rfrz := [], ts := [4, 5] }
noncomputable def e_json_Field (F : Nat) : Env El := (envS 43 (conOf TT s_json_lay (M_json_lay F)) (envS 47 (conOf TT s_json_object_find (M_json_object_find F)) (envS 42 (conOf TT s_json_parse (M_json_parse F)) envN)))
/-- concierge/json.Field -/
noncomputable def M_json_Field (F : Nat) (x : (List UInt8) × (List UInt8)) : Option ((List UInt8) × (Bool)) :=
  (M_json_parse F x.1).bind fun (v0 : JV × Int) =>
    if isSo v0.1.obj? = true then
      v0.1.obj?.bind fun (v1 : List (List UInt8 × JV × Unit)) =>
        (M_json_object_find F (v1, x.2)).bind fun (v2 : Int) =>
          if decide (v2 < 0) = true then some ([], false)
          else (idx v1 v2).bind fun (v3 : List UInt8 × JV × Unit) => (M_json_lay F ([], v3.2.1)).bind fun (v4 : List UInt8) => some (v4, true)
    else
      (M_json_object_find F ([], x.2)).bind fun (v5 : Int) =>
        if decide (v5 < 0) = true then some ([], false)
        else (idx [] v5).bind fun (v6 : List UInt8 × JV × Unit) => (M_json_lay F ([], v6.2.1)).bind fun (v7 : List UInt8) => some (v7, true)
theorem t_json_Field (x : (List UInt8) × (List UInt8)) (F : Nat) : fnRun TT Tryz.prog (e_json_Field F) s_json_Field (bodyOf 22) F x = M_json_Field F x := by kernel_rfl
theorem c_json_Field (F : Nat) : Ctr TT Tryz.prog 22 (conOf TT s_json_Field (M_json_Field F)) :=
  ctr_of (code := bodyOf 22) Tryz.func22 (by kernel_rfl) (by kernel_rfl) (by kernel_rfl) (by kernel_rfl) (envS_ok (envS_ok (envS_ok envN_ok (c_json_parse F)) (c_json_object_find F)) (c_json_lay F)) hm (by kernel_rfl) (fun x r h => ⟨F, (t_json_Field x F).trans h⟩)
theorem mo_json_Field {F F' : Nat} (h : F ≤ F') : ∀ v, Le (M_json_Field F v) (M_json_Field F' v) := by
  intro v
  unfold M_json_Field
  with_reducible repeat (first | (intro v) | exact Le.refl _ | exact h | exact mo_json_parse h _ | exact mo_json_object_find h _ | exact mo_json_lay h _ | apply Le.bind | apply Le.ite | apply Le.loop | apply Le.sumC)
noncomputable def s_json_Item : Spec Kd := { params := [(.a .str), (.a (.int .i64))], ret := (.tup [(.a .str), (.a .bool)]), pins := [], pl := { nt := 34, cuts := [(3, [(8, ⟨[.tmp 1 (.a (.int .i64)), .tmp 8 (.a (.slc .jv)), .tmp 27 (.a .bool)], [2048], []⟩)])] }, rfrz := [], ts := [4, 5] }
noncomputable def e_json_Item (F : Nat) : Env El := (envS 43 (conOf TT s_json_lay (M_json_lay F)) (envS 42 (conOf TT s_json_parse (M_json_parse F)) envN))
/-- concierge/json.Item -/
noncomputable def M_json_Item (F : Nat) (x : (List UInt8) × (Int)) : Option ((List UInt8) × (Bool)) :=
  (M_json_parse F x.1).bind fun (v0 : JV × Int) =>
    if isSo v0.1.list? = true then
      v0.1.list?.bind fun (v1 : List JV) =>
        (if decide (x.2 < 0) = false then some (x.2, v1, decide ((↑v1.length : Int) ≤ x.2), ()) else some (x.2, v1, true, ())).bind
          fun (v2 : Int × List JV × Bool × Unit) =>
          if v2.2.2.1 = true then some ([], false)
          else (idx v2.2.1 v2.1).bind fun (v3 : JV) => (M_json_lay F ([], v3)).bind fun (v4 : List UInt8) => some (v4, true)
    else
      (if decide (x.2 < 0) = false then some (x.2, [], decide (0 ≤ x.2), ()) else some (x.2, [], true, ())).bind fun (v5 : Int × List JV × Bool × Unit) =>
        if v5.2.2.1 = true then some ([], false)
        else (idx v5.2.1 v5.1).bind fun (v6 : JV) => (M_json_lay F ([], v6)).bind fun (v7 : List UInt8) => some (v7, true)
theorem t_json_Item (x : (List UInt8) × (Int)) (F : Nat) : fnRun TT Tryz.prog (e_json_Item F) s_json_Item (bodyOf 23) F x = M_json_Item F x := by kernel_rfl
theorem c_json_Item (F : Nat) : Ctr TT Tryz.prog 23 (conOf TT s_json_Item (M_json_Item F)) :=
  ctr_of (code := bodyOf 23) Tryz.func23 (by kernel_rfl) (by kernel_rfl) (by kernel_rfl) (by kernel_rfl) (envS_ok (envS_ok envN_ok (c_json_parse F)) (c_json_lay F)) hm (by kernel_rfl) (fun x r h => ⟨F, (t_json_Item x F).trans h⟩)
theorem mo_json_Item {F F' : Nat} (h : F ≤ F') : ∀ v, Le (M_json_Item F v) (M_json_Item F' v) := by
  intro v
  unfold M_json_Item
  with_reducible repeat (first | (intro v) | exact Le.refl _ | exact h | exact mo_json_parse h _ | exact mo_json_lay h _ | apply Le.bind | apply Le.ite | apply Le.loop | apply Le.sumC)
noncomputable def s_json_Number : Spec Kd := { params := [(.a .str)], ret := (.tup [(.a (.int .i64)), (.a .bool)]), pins := [], pl := { nt := 20 }, rfrz := [], ts := [2, 3] }
noncomputable def e_json_Number (F : Nat) : Env El := (envS 42 (conOf TT s_json_parse (M_json_parse F)) envN)
/-- concierge/json.Number -/
noncomputable def M_json_Number (F : Nat) (x : (List UInt8)) : Option ((Int) × (Bool)) :=
  (M_json_parse F x).bind fun (v0 : JV × Int) => if isSo v0.1.int? = true then v0.1.int?.bind fun (v1 : Int) => some (v1, true) else some (0, false)
theorem t_json_Number (x : (List UInt8)) (F : Nat) : fnRun TT Tryz.prog (e_json_Number F) s_json_Number (bodyOf 24) F x = M_json_Number F x := by kernel_rfl
theorem c_json_Number (F : Nat) : Ctr TT Tryz.prog 24 (conOf TT s_json_Number (M_json_Number F)) :=
  ctr_of (code := bodyOf 24) Tryz.func24 (by kernel_rfl) (by kernel_rfl) (by kernel_rfl) (by kernel_rfl) (envS_ok envN_ok (c_json_parse F)) hm (by kernel_rfl) (fun x r h => ⟨F, (t_json_Number x F).trans h⟩)
theorem mo_json_Number {F F' : Nat} (h : F ≤ F') : ∀ v, Le (M_json_Number F v) (M_json_Number F' v) := by
  intro v
  unfold M_json_Number
  with_reducible repeat (first | (intro v) | exact Le.refl _ | exact h | exact mo_json_parse h _ | apply Le.bind | apply Le.ite | apply Le.loop | apply Le.sumC)

end Go.Vm
