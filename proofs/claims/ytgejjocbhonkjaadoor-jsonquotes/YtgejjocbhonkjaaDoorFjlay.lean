/- Models of functions of the program, and that each keeps its contract: for all arguments of its shape. No condition. -/
import Derived.Test.YtgejjocbhonkjaaDoorKt
import Derived.Test.YtgejjocbhonkjaaDoorFjquote
import Derived.Test.YtgejjocbhonkjaaDoorV7
namespace Go.Vm
open Go.Proofs
set_option linter.unusedVariables false

namespace Apt
open Go.Proofs Go.Shelf Go.RowKit
def r_ren : Ren := ⟨fun | 129 => 127 | 176 => 101 | 249 => 136 | 283 => 195 | 284 => 196 | 285 => 197 | 286 => 198 | 288 => 175 | 317 => 223 | 318 => 224 | 319 => 225 | 320 => 226 | 337 => 238 | 338 => 239 | n => n, fun | 0 => 0 | 2 => 2 | 3 => 3 | 4 => 4 | 5 => 5 | 9 => 9 | 20 => 20 | 37 => 34 | 46 => 111 | 51 => 115 | 53 => 170 | 171 => 212 | 173 => 214 | 212 => 232 | 213 => 233 | 232 => 250 | 233 => 251 | n => n, fun | 17 => 3 | 18 => 6 | 19 => 7 | n => n⟩
theorem r_lays : LaysM.n176 Tryd.prog r_ren := { mixed := (by kernel_rfl), f129 := Tryd.func127.trans (congrArg some (by kernel_rfl)), f176 := Tryd.func101.trans (congrArg some (by kernel_rfl)), f249 := Tryd.func136.trans (congrArg some (by kernel_rfl)), f283 := Tryd.func195.trans (congrArg some (by kernel_rfl)), f284 := Tryd.func196.trans (congrArg some (by kernel_rfl)), f285 := Tryd.func197.trans (congrArg some (by kernel_rfl)), f286 := Tryd.func198.trans (congrArg some (by kernel_rfl)), f288 := Tryd.func175.trans (congrArg some (by kernel_rfl)), f317 := Tryd.func223.trans (congrArg some (by kernel_rfl)), f318 := Tryd.func224.trans (congrArg some (by kernel_rfl)), f319 := Tryd.func225.trans (congrArg some (by kernel_rfl)), f320 := Tryd.func226.trans (congrArg some (by kernel_rfl)), f337 := Tryd.func238.trans (congrArg some (by kernel_rfl)), f338 := Tryd.func239.trans (congrArg some (by kernel_rfl)), t0 := Tryd.underlying0, a0 := Tryd.isAgg0, z0 := Tryd.sizeOf0, v0 := Tryd.zeroValue0, t2 := Tryd.underlying2, a2 := Tryd.isAgg2, z2 := Tryd.sizeOf2, v2 := Tryd.zeroValue2, t3 := Tryd.underlying3, a3 := Tryd.isAgg3, z3 := Tryd.sizeOf3, v3 := Tryd.zeroValue3, t4 := Tryd.underlying4, a4 := Tryd.isAgg4, z4 := Tryd.sizeOf4, v4 := Tryd.zeroValue4, t5 := Tryd.underlying5, a5 := Tryd.isAgg5, z5 := Tryd.sizeOf5, v5 := Tryd.zeroValue5, t9 := Tryd.underlying9, a9 := Tryd.isAgg9, z9 := Tryd.sizeOf9, v9 := Tryd.zeroValue9, t20 := Tryd.underlying20, a20 := Tryd.isAgg20, z20 := Tryd.sizeOf20, v20 := Tryd.zeroValue20, t37 := Tryd.underlying34, a37 := Tryd.isAgg34, z37 := Tryd.sizeOf34, v37 := Tryd.zeroValue34, t46 := Tryd.underlying111, a46 := Tryd.isAgg111, z46 := Tryd.sizeOf111, v46 := Tryd.zeroValue111, t51 := Tryd.underlying115, a51 := Tryd.isAgg115, z51 := Tryd.sizeOf115, v51 := Tryd.zeroValue115, t53 := Tryd.underlying170, a53 := Tryd.isAgg170, z53 := Tryd.sizeOf170, v53 := Tryd.zeroValue170, t171 := Tryd.underlying212, a171 := Tryd.isAgg212, z171 := Tryd.sizeOf212, v171 := Tryd.zeroValue212, t173 := Tryd.underlying214, a173 := Tryd.isAgg214, z173 := Tryd.sizeOf214, v173 := Tryd.zeroValue214, t212 := Tryd.underlying232, a212 := Tryd.isAgg232, z212 := Tryd.sizeOf232, v212 := Tryd.zeroValue232, t213 := Tryd.underlying233, a213 := Tryd.isAgg233, z213 := Tryd.sizeOf233, t232 := Tryd.underlying250, a232 := Tryd.isAgg250, z232 := Tryd.sizeOf250, v232 := Tryd.zeroValue250, t233 := Tryd.underlying251, a233 := Tryd.isAgg251, z233 := Tryd.sizeOf251, v233 := Tryd.zeroValue251, g17 := (by kernel_rfl), g18 := (by kernel_rfl), g19 := (by kernel_rfl), i0 := (by kernel_rfl), i2 := (by kernel_rfl), i3 := (by kernel_rfl), i4 := (by kernel_rfl), i5 := (by kernel_rfl), i9 := (by kernel_rfl), i20 := (by kernel_rfl), i37 := (by kernel_rfl), i46 := (by kernel_rfl), i51 := (by kernel_rfl), i53 := (by kernel_rfl), i171 := (by kernel_rfl), i173 := (by kernel_rfl), i212 := (by kernel_rfl), i232 := (by kernel_rfl), i233 := (by kernel_rfl), m17 := (by kernel_rfl), m18 := (by kernel_rfl), m19 := (by kernel_rfl) }
end Apt
noncomputable def s_strconv_AppendInt : Spec Kd := sAppInt 5
noncomputable def M_strconv_AppendInt (F : Nat) (x : List UInt8 × Int × Int) : Option (List UInt8) := MAppInt x
theorem mo_strconv_AppendInt {F F' : Nat} (h : F ≤ F') : ∀ v, Le (M_strconv_AppendInt F v) (M_strconv_AppendInt F' v) := fun _ => Le.refl _
theorem c_strconv_AppendInt (F : Nat) : Ctr TT Tryd.prog 101 (conOf TT s_strconv_AppendInt (M_strconv_AppendInt F)) := ctr_appInt (kt := kt) (ρ := Apt.r_ren) Apt.r_lays (fun w h => h.tab _ (List.mem_cons_self ..)) Tryd.func101 (by kernel_rfl) (by kernel_rfl) rfl
noncomputable def s_internal_strconv_AppendBool : Spec Kd := { params := [(.a (.row 5 .u8)), (.a .bool)], ret := (.one (.a (.row 5 .u8))), pins := [], pl := { nt := 10, orc := { rv := [4, 6, 7, 8, 9], gv := [] } }, rfrz := [], ts := [4] }
noncomputable def e_internal_strconv_AppendBool (F : Nat) : Env El := envN
/-- internal/strconv.AppendBool -/
noncomputable def M_internal_strconv_AppendBool (F : Nat) (x : (List (El .u8)) × (Bool)) : Option (List (El .u8)) :=
  if x.2 = true then if decide ((x.1.length + [116, 114, 117, 101].length) * 1 ≤ 140737488355328) = true then some (x.1 ++ [116, 114, 117, 101]) else none
  else if decide ((x.1.length + [102, 97, 108, 115, 101].length) * 1 ≤ 140737488355328) = true then some (x.1 ++ [102, 97, 108, 115, 101]) else none
theorem t_internal_strconv_AppendBool (x : (List (El .u8)) × (Bool)) (F : Nat) : fnRun TT Tryd.prog (e_internal_strconv_AppendBool F) s_internal_strconv_AppendBool (bodyOf 137) F x = M_internal_strconv_AppendBool F x := by kernel_rfl
theorem c_internal_strconv_AppendBool (F : Nat) : Ctr TT Tryd.prog 137 (conOf TT s_internal_strconv_AppendBool (M_internal_strconv_AppendBool F)) :=
  ctr_of (code := bodyOf 137) Tryd.func137 (by kernel_rfl) (by kernel_rfl) (by kernel_rfl) (by kernel_rfl) envN_ok hm (by kernel_rfl) (fun x r h => ⟨F, (t_internal_strconv_AppendBool x F).trans h⟩)
theorem mo_internal_strconv_AppendBool {F F' : Nat} (h : F ≤ F') : ∀ v, Le (M_internal_strconv_AppendBool F v) (M_internal_strconv_AppendBool F' v) := by
  intro v
  unfold M_internal_strconv_AppendBool
  with_reducible repeat (first | (intro v) | exact Le.refl _ | exact h | apply Le.bind | apply Le.ite | apply Le.loop | apply Le.sumC)
noncomputable def s_strconv_AppendBool : Spec Kd := { params := [(.a (.row 5 .u8)), (.a .bool)], ret := (.one (.a (.row 5 .u8))), pins := [], pl := { nt := 8, orc := { rv := [4, 7], gv := [5] } }, rfrz := [], ts := [4] }
noncomputable def e_strconv_AppendBool (F : Nat) : Env El := (envS 137 (conOf TT s_internal_strconv_AppendBool (M_internal_strconv_AppendBool F)) envN)
/-- strconv.AppendBool -/
noncomputable def M_strconv_AppendBool (F : Nat) (x : (List (El .u8)) × (Bool)) : Option (List (El .u8)) :=
  (M_internal_strconv_AppendBool F x).bind fun v0 => some v0
theorem t_strconv_AppendBool (x : (List (El .u8)) × (Bool)) (F : Nat) : fnRun TT Tryd.prog (e_strconv_AppendBool F) s_strconv_AppendBool (bodyOf 102) F x = M_strconv_AppendBool F x := by kernel_rfl
theorem c_strconv_AppendBool (F : Nat) : Ctr TT Tryd.prog 102 (conOf TT s_strconv_AppendBool (M_strconv_AppendBool F)) :=
  ctr_of (code := bodyOf 102) Tryd.func102 (by kernel_rfl) (by kernel_rfl) (by kernel_rfl) (by kernel_rfl) (envS_ok envN_ok (c_internal_strconv_AppendBool F)) hm (by kernel_rfl) (fun x r h => ⟨F, (t_strconv_AppendBool x F).trans h⟩)
theorem mo_strconv_AppendBool {F F' : Nat} (h : F ≤ F') : ∀ v, Le (M_strconv_AppendBool F v) (M_strconv_AppendBool F' v) := by
  intro v
  unfold M_strconv_AppendBool
  with_reducible repeat (first | (intro v) | exact Le.refl _ | exact h | exact mo_internal_strconv_AppendBool h _ | apply Le.bind | apply Le.ite | apply Le.loop | apply Le.sumC)
noncomputable def s_json_lay : Spec Kd := { params := [(.a (.row 5 .u8)), (.a (.any .jv))], ret := (.one (.a (.row 5 .u8))), pins := [], pl := { nt := 110, orc := { rv := [4, 27, 36, 45, 71, 73, 105, 107, 108, 109], gv := [25, 34, 43, 67, 95, 100] }, joins := [(2900091, (.norm, ⟨[.tmp 0 (.a (.rowp 1)), .tmp 18 (.a (.ptr 1152 0)), .tmp 83 (.a (.slc .me)), .tmp 84 (.a (.int .i64)), .tmp 85 (.a (.int .i64)), .box 1 (.row 5 .u8), .box 1152 (.cells 154 [.str, (.any .jv)])], [6272], [.tmpRow 0 1 5 .u8]⟩), []), (1800063, (.norm, ⟨[.tmp 0 (.a (.rowp 1)), .tmp 14 (.a (.any .jv)), .tmp 55 (.a (.slc .jv)), .tmp 56 (.a (.int .i64)), .tmp 57 (.a (.int .i64)), .box 1 (.row 5 .u8)], [6272], [.tmpRow 0 1 5 .u8]⟩), [])], loops := [(2, ⟨[.tmp 0 (.a (.rowp 1)), .tmp 83 (.a (.slc .me)), .tmp 84 (.a (.int .i64)), .tmp 85 (.a (.int .i64)), .box 1 (.row 5 .u8)], [6272], [.tmpRow 0 1 5 .u8]⟩, (.exit 2, ⟨[.tmp 0 (.a (.rowp 1)), .box 1 (.row 5 .u8)], [6272], [.tmpRow 0 1 5 .u8]⟩), []), (0, ⟨[.tmp 0 (.a (.rowp 1)), .tmp 55 (.a (.slc .jv)), .tmp 56 (.a (.int .i64)), .tmp 57 (.a (.int .i64)), .box 1 (.row 5 .u8)], [6272], [.tmpRow 0 1 5 .u8]⟩, (.exit 0, ⟨[.tmp 0 (.a (.rowp 1)), .box 1 (.row 5 .u8)], [6272], [.tmpRow 0 1 5 .u8]⟩), [])], frz := [(29, [1152])] }, rfrz := [], ts := [4] }
noncomputable def e_json_lay (F : Nat) (R : tyS El s_json_lay.params → Option (s_json_lay.R El)) : Env El := (envS 66 (conOf TT s_json_lay R) (envS 102 (conOf TT s_strconv_AppendBool (M_strconv_AppendBool F)) (envS 64 (conOf TT s_json_quote (M_json_quote F)) (envS 101 (conOf TT s_strconv_AppendInt (M_strconv_AppendInt F)) envN))))
/-- concierge/json.lay -/
noncomputable def Mb_json_lay_l0 (F : Nat) (R : (List (El .u8)) × (El .jv) → Option (List (El .u8))) (v7 : (Unit × List JV × Int × Int × List UInt8 × Unit)) : Option ((Unit × List JV × Int × Int × List UInt8 × Unit) ⊕ (Unit × List UInt8 × Unit)) :=
  if decide (v7.2.2.2.1 < v7.2.2.1) = true then
                      (idx v7.2.1 v7.2.2.2.1).bind fun (v8 : JV) =>
                        (if decide (0 < v7.2.2.2.1) = true then
                              if decide ((v7.2.2.2.2.1.length + [UInt8.ofNat 44].length) * 1 ≤ 140737488355328) = true then
                                some ((), v8, v7.2.1, v7.2.2.1, v7.2.2.2.1, v7.2.2.2.2.1 ++ [UInt8.ofNat 44], ())
                              else none
                            else some ((), v8, v7.2.1, v7.2.2.1, v7.2.2.2.1, v7.2.2.2.2.1, ())).bind
                          fun (v9 : Unit × JV × List JV × Int × Int × List UInt8 × Unit) =>
                          (R (v9.2.2.2.2.2.1, v9.2.1)).bind fun (v10 : List UInt8) =>
                            some (Sum.inl ((), v9.2.2.1, v9.2.2.2.1, IntKind.i64.wrap (v9.2.2.2.2.1 + 1), v10, ()))
                    else some (Sum.inr ((), v7.2.2.2.2.1, ()))
noncomputable def Mb_json_lay_l1 (F : Nat) (R : (List (El .u8)) × (El .jv) → Option (List (El .u8))) (v13 : (Unit × List (List UInt8 × JV × Unit) × Int × Int × List UInt8 × Unit)) : Option ((Unit × List (List UInt8 × JV × Unit) × Int × Int × List UInt8 × Unit) ⊕ (Unit × List UInt8 × Unit)) :=
  if decide (v13.2.2.2.1 < v13.2.2.1) = true then
                        (idx v13.2.1 v13.2.2.2.1).bind fun (v14 : List UInt8 × JV × Unit) =>
                          (if decide (0 < v13.2.2.2.1) = true then
                                if decide ((v13.2.2.2.2.1.length + [UInt8.ofNat 44].length) * 1 ≤ 140737488355328) = true then
                                  some ((), (), v13.2.1, v13.2.2.1, v13.2.2.2.1, v13.2.2.2.2.1 ++ [UInt8.ofNat 44], (v14.1, v14.2.1, ()), ())
                                else none
                              else some ((), (), v13.2.1, v13.2.2.1, v13.2.2.2.1, v13.2.2.2.2.1, (v14.1, v14.2.1, ()), ())).bind
                            fun (v15 : Unit × Unit × List (List UInt8 × JV × Unit) × Int × Int × List UInt8 × (List UInt8 × JV × Unit) × Unit) =>
                            (M_json_quote F (v15.2.2.2.2.2.1, v15.2.2.2.2.2.2.1.1)).bind fun (v16 : List UInt8) =>
                              if decide ((v16.length + [UInt8.ofNat 58].length) * 1 ≤ 140737488355328) = true then
                                (R (v16 ++ [UInt8.ofNat 58], v15.2.2.2.2.2.2.1.2.1)).bind fun (v17 : List UInt8) =>
                                  some (Sum.inl ((), v15.2.2.1, v15.2.2.2.1, IntKind.i64.wrap (v15.2.2.2.2.1 + 1), v17, ()))
                              else none
                      else some (Sum.inr ((), v13.2.2.2.2.1, ()))
noncomputable def Mb_json_lay (F : Nat) (R : (List (El .u8)) × (El .jv) → Option (List (El .u8))) (x : (List (El .u8)) × (El .jv)) : Option (List (El .u8)) :=
  if isSo x.2.int? = true then x.2.int?.bind fun (v0 : Int) => (M_strconv_AppendInt F (x.1, v0, 10)).bind fun (v1 : List UInt8) => some v1
  else
    if isSo x.2.str? = true then x.2.str?.bind fun (v2 : List UInt8) => (M_json_quote F (x.1, v2)).bind fun (v3 : List UInt8) => some v3
    else
      if isSo x.2.bool? = true then x.2.bool?.bind fun (v4 : Bool) => (M_strconv_AppendBool F (x.1, v4)).bind fun (v5 : List UInt8) => some v5
      else
        if isSo x.2.list? = true then
          x.2.list?.bind fun (v6 : List JV) =>
            if decide ((x.1.length + [UInt8.ofNat 91].length) * 1 ≤ 140737488355328) = true then
              (loopM (Mb_json_lay_l0 F R)
                    F ((), v6, (↑v6.length : Int), 0, x.1 ++ [UInt8.ofNat 91], ())).bind
                fun (v11 : Unit × List UInt8 × Unit) =>
                if decide ((v11.2.1.length + [UInt8.ofNat 93].length) * 1 ≤ 140737488355328) = true then some (v11.2.1 ++ [UInt8.ofNat 93]) else none
            else none
        else
          if isSo x.2.obj? = true then
            x.2.obj?.bind fun (v12 : List (List UInt8 × JV × Unit)) =>
              if decide ((x.1.length + [UInt8.ofNat 123].length) * 1 ≤ 140737488355328) = true then
                (loopM (Mb_json_lay_l1 F R)
                      F ((), v12, (↑v12.length : Int), 0, x.1 ++ [UInt8.ofNat 123], ())).bind
                  fun (v18 : Unit × List UInt8 × Unit) =>
                  if decide ((v18.2.1.length + [UInt8.ofNat 125].length) * 1 ≤ 140737488355328) = true then some (v18.2.1 ++ [UInt8.ofNat 125]) else none
              else none
          else if decide ((x.1.length + [110, 117, 108, 108].length) * 1 ≤ 140737488355328) = true then some (x.1 ++ [110, 117, 108, 108]) else none
noncomputable def Mr_json_lay (F : Nat) : Nat → ((List (El .u8)) × (El .jv)) → Option (List (El .u8))
  | 0, _ => none
  | d + 1, x => Mb_json_lay F (Mr_json_lay F d) x
noncomputable def M_json_lay (F : Nat) (x : (List (El .u8)) × (El .jv)) : Option (List (El .u8)) := Mr_json_lay F F x
theorem t_json_lay (x : (List (El .u8)) × (El .jv)) (F : Nat) (R : (List (El .u8)) × (El .jv) → Option (List (El .u8))) : fnRun TT Tryd.prog (e_json_lay F R) s_json_lay (bodyOf 66) F x = Mb_json_lay F R x := by kernel_rfl
theorem cr_json_lay (F : Nat) : ∀ d, Ctr TT Tryd.prog 66 (conOf TT s_json_lay (Mr_json_lay F d))
  | 0 => ctr_none _ _ _ _ (fun _ => rfl)
  | d + 1 => ctr_of (code := bodyOf 66) Tryd.func66 (by kernel_rfl) (by kernel_rfl) (by kernel_rfl) (by kernel_rfl) (envS_ok (envS_ok (envS_ok (envS_ok envN_ok (c_strconv_AppendInt F)) (c_json_quote F)) (c_strconv_AppendBool F)) (cr_json_lay F d)) hm (by kernel_rfl) (fun x r h => ⟨F, (t_json_lay x F (Mr_json_lay F d)).trans h⟩)
theorem c_json_lay (F : Nat) : Ctr TT Tryd.prog 66 (conOf TT s_json_lay (M_json_lay F)) := cr_json_lay F F
theorem mo_json_lay_l0 {F F' : Nat} (h : F ≤ F') {R R' : (List (El .u8)) × (El .jv) → Option (List (El .u8))} (hR : ∀ v, Le (R v) (R' v)) : ∀ v, Le (Mb_json_lay_l0 F R v) (Mb_json_lay_l0 F' R' v) := by
  intro v
  unfold Mb_json_lay_l0
  with_reducible repeat (first | (intro v) | exact Le.refl _ | exact h | exact hR _ | exact mo_strconv_AppendInt h _ | exact mo_json_quote h _ | exact mo_strconv_AppendBool h _ | apply Le.bind | apply Le.ite | apply Le.loop | apply Le.sumC)
theorem mo_json_lay_l1 {F F' : Nat} (h : F ≤ F') {R R' : (List (El .u8)) × (El .jv) → Option (List (El .u8))} (hR : ∀ v, Le (R v) (R' v)) : ∀ v, Le (Mb_json_lay_l1 F R v) (Mb_json_lay_l1 F' R' v) := by
  intro v
  unfold Mb_json_lay_l1
  with_reducible repeat (first | (intro v) | exact Le.refl _ | exact h | exact hR _ | exact mo_strconv_AppendInt h _ | exact mo_json_quote h _ | exact mo_strconv_AppendBool h _ | exact mo_json_lay_l0 h hR | exact mo_json_lay_l0 h hR _ | apply Le.bind | apply Le.ite | apply Le.loop | apply Le.sumC)
theorem mob_json_lay {F F' : Nat} (h : F ≤ F') {R R' : (List (El .u8)) × (El .jv) → Option (List (El .u8))} (hR : ∀ v, Le (R v) (R' v)) : ∀ v, Le (Mb_json_lay F R v) (Mb_json_lay F' R' v) := by
  intro v
  unfold Mb_json_lay
  with_reducible repeat (first | (intro v) | exact Le.refl _ | exact h | exact hR _ | exact mo_strconv_AppendInt h _ | exact mo_json_quote h _ | exact mo_strconv_AppendBool h _ | exact mo_json_lay_l0 h hR | exact mo_json_lay_l0 h hR _ | exact mo_json_lay_l1 h hR | exact mo_json_lay_l1 h hR _ | apply Le.bind | apply Le.ite | apply Le.loop | apply Le.sumC)
theorem mor_json_lay {F F' : Nat} (h : F ≤ F') : ∀ {d d' : Nat}, d ≤ d' → ∀ v, Le (Mr_json_lay F d v) (Mr_json_lay F' d' v)
  | 0, _, _, _ => ⟨fun _ h => by cases h⟩
  | _ + 1, 0, h', _ => by omega
  | d + 1, d' + 1, h', v => mob_json_lay h (mor_json_lay h (Nat.le_of_succ_le_succ h')) v
theorem mo_json_lay {F F' : Nat} (h : F ≤ F') (v : (List (El .u8)) × (El .jv)) : Le (M_json_lay F v) (M_json_lay F' v) := mor_json_lay h h v

end Go.Vm
