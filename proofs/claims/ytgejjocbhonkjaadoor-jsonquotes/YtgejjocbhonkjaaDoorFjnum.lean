/- Models of functions of the program, and that each keeps its contract: for all arguments of its shape. No condition. -/
import Derived.Test.YtgejjocbhonkjaaDoorKt
import Derived.Test.YtgejjocbhonkjaaDoorFjrd
import Derived.Test.YtgejjocbhonkjaaDoorV7
namespace Go.Vm
open Go.Proofs
set_option linter.unusedVariables false

namespace Ato
open Go.Proofs Go.Shelf Go.RowKit
def r_ren : Ren := ⟨fun | 129 => 127 | 171 => 237 | 172 => 173 | 205 => 236 | 243 => 246 | 244 => 193 | 245 => 194 | 246 => 249 | 247 => 218 | 279 => 219 | 280 => 220 | 281 => 221 | 282 => 222 | 283 => 195 | 284 => 196 | 285 => 197 | 286 => 198 | 287 => 234 | 316 => 235 | 317 => 223 | 318 => 224 | 319 => 225 | 320 => 226 | 321 => 244 | 322 => 245 | 337 => 238 | 338 => 239 | n => n, fun | 0 => 0 | 2 => 2 | 3 => 3 | 4 => 4 | 5 => 5 | 9 => 9 | 20 => 20 | 21 => 21 | 37 => 34 | 46 => 111 | 51 => 115 | 53 => 170 | 75 => 126 | 76 => 127 | 80 => 80 | 85 => 226 | 127 => 171 | 143 => 247 | 145 => 249 | 167 => 225 | 168 => 228 | 171 => 212 | 173 => 214 | 175 => 239 | 210 => 242 | 212 => 232 | 213 => 233 | 232 => 250 | 233 => 251 | n => n, fun | 15 => 4 | 16 => 5 | 17 => 3 | 18 => 6 | 19 => 7 | n => n⟩
theorem r_lays : LaysC.n172 Tryd.prog r_ren := { mixed := (by kernel_rfl), f129 := Tryd.func127.trans (congrArg some (by kernel_rfl)), f171 := Tryd.func237.trans (congrArg some (by kernel_rfl)), f172 := Tryd.func173.trans (congrArg some (by kernel_rfl)), f205 := Tryd.func236.trans (congrArg some (by kernel_rfl)), f243 := Tryd.func246.trans (congrArg some (by kernel_rfl)), f244 := Tryd.func193.trans (congrArg some (by kernel_rfl)), f245 := Tryd.func194.trans (congrArg some (by kernel_rfl)), f246 := Tryd.func249.trans (congrArg some (by kernel_rfl)), f247 := Tryd.func218.trans (congrArg some (by kernel_rfl)), f279 := Tryd.func219.trans (congrArg some (by kernel_rfl)), f280 := Tryd.func220.trans (congrArg some (by kernel_rfl)), f281 := Tryd.func221.trans (congrArg some (by kernel_rfl)), f282 := Tryd.func222.trans (congrArg some (by kernel_rfl)), f283 := Tryd.func195.trans (congrArg some (by kernel_rfl)), f284 := Tryd.func196.trans (congrArg some (by kernel_rfl)), f285 := Tryd.func197.trans (congrArg some (by kernel_rfl)), f286 := Tryd.func198.trans (congrArg some (by kernel_rfl)), f287 := Tryd.func234.trans (congrArg some (by kernel_rfl)), f316 := Tryd.func235.trans (congrArg some (by kernel_rfl)), f317 := Tryd.func223.trans (congrArg some (by kernel_rfl)), f318 := Tryd.func224.trans (congrArg some (by kernel_rfl)), f319 := Tryd.func225.trans (congrArg some (by kernel_rfl)), f320 := Tryd.func226.trans (congrArg some (by kernel_rfl)), f321 := Tryd.func244.trans (congrArg some (by kernel_rfl)), f322 := Tryd.func245.trans (congrArg some (by kernel_rfl)), f337 := Tryd.func238.trans (congrArg some (by kernel_rfl)), f338 := Tryd.func239.trans (congrArg some (by kernel_rfl)), t0 := Tryd.underlying0, a0 := Tryd.isAgg0, z0 := Tryd.sizeOf0, v0 := Tryd.zeroValue0, t2 := Tryd.underlying2, a2 := Tryd.isAgg2, z2 := Tryd.sizeOf2, v2 := Tryd.zeroValue2, t3 := Tryd.underlying3, a3 := Tryd.isAgg3, z3 := Tryd.sizeOf3, v3 := Tryd.zeroValue3, t4 := Tryd.underlying4, a4 := Tryd.isAgg4, z4 := Tryd.sizeOf4, v4 := Tryd.zeroValue4, t5 := Tryd.underlying5, a5 := Tryd.isAgg5, z5 := Tryd.sizeOf5, v5 := Tryd.zeroValue5, t9 := Tryd.underlying9, a9 := Tryd.isAgg9, z9 := Tryd.sizeOf9, v9 := Tryd.zeroValue9, t20 := Tryd.underlying20, a20 := Tryd.isAgg20, z20 := Tryd.sizeOf20, v20 := Tryd.zeroValue20, t21 := Tryd.underlying21, a21 := Tryd.isAgg21, z21 := Tryd.sizeOf21, v21 := Tryd.zeroValue21, t37 := Tryd.underlying34, a37 := Tryd.isAgg34, z37 := Tryd.sizeOf34, v37 := Tryd.zeroValue34, t46 := Tryd.underlying111, a46 := Tryd.isAgg111, z46 := Tryd.sizeOf111, v46 := Tryd.zeroValue111, t51 := Tryd.underlying115, a51 := Tryd.isAgg115, z51 := Tryd.sizeOf115, v51 := Tryd.zeroValue115, t53 := Tryd.underlying170, a53 := Tryd.isAgg170, z53 := Tryd.sizeOf170, v53 := Tryd.zeroValue170, t75 := Tryd.underlying126, a75 := Tryd.isAgg126, z75 := Tryd.sizeOf126, v75 := Tryd.zeroValue126, t76 := Tryd.underlying127, a76 := Tryd.isAgg127, z76 := Tryd.sizeOf127, v76 := Tryd.zeroValue127, t85 := Tryd.underlying226, a85 := Tryd.isAgg226, z85 := Tryd.sizeOf226, v85 := Tryd.zeroValue226, t127 := Tryd.underlying171, a127 := Tryd.isAgg171, z127 := Tryd.sizeOf171, v127 := Tryd.zeroValue171, t143 := Tryd.underlying247, a143 := Tryd.isAgg247, z143 := Tryd.sizeOf247, v143 := Tryd.zeroValue247, t145 := Tryd.underlying249, a145 := Tryd.isAgg249, z145 := Tryd.sizeOf249, v145 := Tryd.zeroValue249, t167 := Tryd.underlying225, a167 := Tryd.isAgg225, z167 := Tryd.sizeOf225, v167 := Tryd.zeroValue225, t168 := Tryd.underlying228, a168 := Tryd.isAgg228, z168 := Tryd.sizeOf228, v168 := Tryd.zeroValue228, t171 := Tryd.underlying212, a171 := Tryd.isAgg212, z171 := Tryd.sizeOf212, v171 := Tryd.zeroValue212, t173 := Tryd.underlying214, a173 := Tryd.isAgg214, z173 := Tryd.sizeOf214, v173 := Tryd.zeroValue214, t175 := Tryd.underlying239, a175 := Tryd.isAgg239, z175 := Tryd.sizeOf239, v175 := Tryd.zeroValue239, t210 := Tryd.underlying242, a210 := Tryd.isAgg242, z210 := Tryd.sizeOf242, v210 := Tryd.zeroValue242, t212 := Tryd.underlying232, a212 := Tryd.isAgg232, z212 := Tryd.sizeOf232, v212 := Tryd.zeroValue232, t213 := Tryd.underlying233, a213 := Tryd.isAgg233, z213 := Tryd.sizeOf233, t232 := Tryd.underlying250, a232 := Tryd.isAgg250, z232 := Tryd.sizeOf250, v232 := Tryd.zeroValue250, t233 := Tryd.underlying251, a233 := Tryd.isAgg251, z233 := Tryd.sizeOf251, v233 := Tryd.zeroValue251, g15 := (by kernel_rfl), g16 := (by kernel_rfl), g17 := (by kernel_rfl), g18 := (by kernel_rfl), g19 := (by kernel_rfl), t80 := Tryd.underlying80, a80 := Tryd.isAgg80, z80 := Tryd.sizeOf80, v80 := Tryd.zeroValue80, i0 := (by kernel_rfl), i2 := (by kernel_rfl), i3 := (by kernel_rfl), i4 := (by kernel_rfl), i5 := (by kernel_rfl), i9 := (by kernel_rfl), i20 := (by kernel_rfl), i21 := (by kernel_rfl), i37 := (by kernel_rfl), i46 := (by kernel_rfl), i51 := (by kernel_rfl), i53 := (by kernel_rfl), i75 := (by kernel_rfl), i76 := (by kernel_rfl), i80 := (by kernel_rfl), i85 := (by kernel_rfl), i127 := (by kernel_rfl), i143 := (by kernel_rfl), i145 := (by kernel_rfl), i167 := (by kernel_rfl), i168 := (by kernel_rfl), i171 := (by kernel_rfl), i173 := (by kernel_rfl), i175 := (by kernel_rfl), i210 := (by kernel_rfl), i212 := (by kernel_rfl), i232 := (by kernel_rfl), i233 := (by kernel_rfl), m15 := (by kernel_rfl), m16 := (by kernel_rfl), m17 := (by kernel_rfl), m18 := (by kernel_rfl), m19 := (by kernel_rfl), c0 := (by kernel_rfl), c2 := (by kernel_rfl), c3 := (by kernel_rfl), c4 := (by kernel_rfl), c5 := (by kernel_rfl), c9 := (by kernel_rfl), c20 := (by kernel_rfl), c21 := (by kernel_rfl), c37 := (by kernel_rfl), c46 := (by kernel_rfl), c51 := (by kernel_rfl), c53 := (by kernel_rfl), c75 := (by kernel_rfl), c76 := (by kernel_rfl), c80 := (by kernel_rfl), c85 := (by kernel_rfl), c127 := (by kernel_rfl), c143 := (by kernel_rfl), c145 := (by kernel_rfl), c167 := (by kernel_rfl), c168 := (by kernel_rfl), c171 := (by kernel_rfl), c173 := (by kernel_rfl), c175 := (by kernel_rfl), c210 := (by kernel_rfl), c212 := (by kernel_rfl), c213 := (by kernel_rfl), c232 := (by kernel_rfl), c233 := (by kernel_rfl) }
end Ato
noncomputable def s_strconv_Atoi : Spec Kd := sAtoi
noncomputable def M_strconv_Atoi (F : Nat) (x : List UInt8) : Option (Int × Bool) := MAtoi x
theorem mo_strconv_Atoi {F F' : Nat} (h : F ≤ F') : ∀ v, Le (M_strconv_Atoi F v) (M_strconv_Atoi F' v) := fun _ => Le.refl _
theorem c_strconv_Atoi (F : Nat) : Ctr TT Tryd.prog 173 (conOf TT s_strconv_Atoi (M_strconv_Atoi F)) := ctr_atoi (kt := kt) (ρ := Ato.r_ren) Ato.r_lays (fun w h => h.err 4 (List.mem_cons_self ..)) rfl Tryd.func173 (by kernel_rfl) (by kernel_rfl) rfl
noncomputable def s_json_reader_number : Spec Kd := { params := [(.pin 143 [.str, (.int .i64), (.int .i64), (.int .i64)])], ret := (.one (.a (.any .jv))), pins := [[.str, (.int .i64), (.int .i64), (.int .i64)]], pl := { nt := 85, joins := [(400017, (.norm, ⟨[.tmp 0 (.a (.ptr 1 0)), .tmp 3 (.a (.int .i64)), .box 1 (.cells 143 [.str, (.int .i64), (.int .i64), (.int .i64)])], [], []⟩), [])], loops := [(0, ⟨[.tmp 0 (.a (.ptr 1 0)), .tmp 3 (.a (.int .i64)), .tmp 4 (.a (.int .i64)), .box 1 (.cells 143 [.str, (.int .i64), (.int .i64), (.int .i64)])], [], []⟩, (.exit 0, ⟨[.tmp 0 (.a (.ptr 1 0)), .tmp 3 (.a (.int .i64)), .box 1 (.cells 143 [.str, (.int .i64), (.int .i64), (.int .i64)])], [], []⟩), [])], cuts := [(5, [(16, ⟨[.tmp 0 (.a (.ptr 1 0)), .tmp 3 (.a (.int .i64)), .tmp 4 (.a (.int .i64)), .tmp 36 (.a .bool), .box 1 (.cells 143 [.str, (.int .i64), (.int .i64), (.int .i64)])], [], []⟩), (9, ⟨[.tmp 0 (.a (.ptr 1 0)), .tmp 3 (.a (.int .i64)), .tmp 4 (.a (.int .i64)), .tmp 45 (.a .bool), .box 1 (.cells 143 [.str, (.int .i64), (.int .i64), (.int .i64)])], [], []⟩), (6, ⟨[.tmp 0 (.a (.ptr 1 0)), .tmp 3 (.a (.int .i64)), .tmp 4 (.a (.int .i64)), .tmp 51 (.a .bool), .box 1 (.cells 143 [.str, (.int .i64), (.int .i64), (.int .i64)])], [], []⟩)])], ends := [(8, ⟨[.tmp 0 (.a (.ptr 1 0)), .tmp 3 (.a (.int .i64)), .tmp 5 (.a (.int .i64)), .tmp 6 (.a (.any .er)), .box 1 (.cells 143 [.str, (.int .i64), (.int .i64), (.int .i64)])], [], []⟩)] }, rfrz := [], ts := [2], rco := [.tmpAny 2 .jv] }
noncomputable def e_json_reader_number (F : Nat) : Env El := (envS 100 (conOf TT s_json_reader_fail (M_json_reader_fail F)) (envS 173 (conOf TT s_strconv_Atoi (M_strconv_Atoi F)) envN))
/-- (*concierge/json.reader).number -/
noncomputable def M_json_reader_number_l0 (F : Nat) (v2 : (Unit × Int × Int × (List UInt8 × Int × Int × Int × Unit) × Unit)) : Option ((Unit × Int × Int × (List UInt8 × Int × Int × Int × Unit) × Unit) ⊕ (Unit × Int × (List UInt8 × Int × Int × Int × Unit) × Unit)) :=
  (if decide (v2.2.1 < (↑v2.2.2.2.1.1.length : Int)) = true then
                  (idx v2.2.2.2.1.1 v2.2.1).bind fun v3 =>
                    some ((), v2.2.1, v2.2.2.1, decide (48 ≤ (↑v3.toNat : Int)), (v2.2.2.2.1.1, v2.2.2.2.1.2.1, v2.2.2.2.1.2.2.1, v2.2.2.2.1.2.2.2.1, ()), ())
                else some ((), v2.2.1, v2.2.2.1, false, (v2.2.2.2.1.1, v2.2.2.2.1.2.1, v2.2.2.2.1.2.2.1, v2.2.2.2.1.2.2.2.1, ()), ())).bind
              fun v4 =>
              (if v4.2.2.2.1 = true then
                    (idx v4.2.2.2.2.1.1 v4.2.1).bind fun v5 =>
                      some
                        ((), v4.2.1, v4.2.2.1, decide ((↑v5.toNat : Int) ≤ 57),
                          (v4.2.2.2.2.1.1, v4.2.2.2.2.1.2.1, v4.2.2.2.2.1.2.2.1, v4.2.2.2.2.1.2.2.2.1, ()), ())
                  else some ((), v4.2.1, v4.2.2.1, false, (v4.2.2.2.2.1.1, v4.2.2.2.2.1.2.1, v4.2.2.2.2.1.2.2.1, v4.2.2.2.2.1.2.2.2.1, ()), ())).bind
                fun v6 =>
                (if v6.2.2.2.1 = true then
                      some
                        ((), v6.2.1, v6.2.2.1, decide (IntKind.i64.wrap (v6.2.1 - v6.2.2.1) < 15),
                          (v6.2.2.2.2.1.1, v6.2.2.2.2.1.2.1, v6.2.2.2.2.1.2.2.1, v6.2.2.2.2.1.2.2.2.1, ()), ())
                    else some ((), v6.2.1, v6.2.2.1, false, (v6.2.2.2.2.1.1, v6.2.2.2.2.1.2.1, v6.2.2.2.2.1.2.2.1, v6.2.2.2.2.1.2.2.2.1, ()), ())).bind
                  fun v7 =>
                  if v7.2.2.2.1 = true then
                    (idx v7.2.2.2.2.1.1 v7.2.2.1).bind fun v8 =>
                      if decide ((↑v8.toNat : Int) = 48) = true then
                        some (Sum.inr ((), IntKind.i64.wrap (v7.2.1 + 1), (v7.2.2.2.2.1.1, v7.2.2.2.2.1.2.1, v7.2.2.2.2.1.2.2.1, v7.2.2.2.2.1.2.2.2.1, ()), ()))
                      else
                        some
                          (Sum.inl
                            ((), IntKind.i64.wrap (v7.2.1 + 1), v7.2.2.1, (v7.2.2.2.2.1.1, v7.2.2.2.2.1.2.1, v7.2.2.2.2.1.2.2.1, v7.2.2.2.2.1.2.2.2.1, ()), ()))
                  else some (Sum.inr ((), v7.2.1, (v7.2.2.2.2.1.1, v7.2.2.2.2.1.2.1, v7.2.2.2.2.1.2.2.1, v7.2.2.2.2.1.2.2.2.1, ()), ()))
noncomputable def M_json_reader_number (F : Nat) (x : ((List UInt8) × (Int) × (Int) × (Int) × Unit)) : Option ((El .jv) × ((List UInt8) × (Int) × (Int) × (Int) × Unit)) :=
  (idx x.1 x.2.1).bind fun v0 =>
    (if decide ((↑v0.toNat : Int) = 45) = true then some ((), IntKind.i64.wrap (x.2.1 + 1), (x.1, x.2.1, x.2.2.1, x.2.2.2.1, ()), ())
        else some ((), x.2.1, (x.1, x.2.1, x.2.2.1, x.2.2.2.1, ()), ())).bind
      fun v1 =>
      (loopM (M_json_reader_number_l0 F)
            F ((), v1.2.1, v1.2.1, (v1.2.2.1.1, v1.2.2.1.2.1, v1.2.2.1.2.2.1, v1.2.2.1.2.2.2.1, ()), ())).bind
        fun v9 =>
        ((sub v9.2.2.1.1 v9.2.2.1.2.1 v9.2.1).bind fun v10 =>
              (M_strconv_Atoi F v10).bind fun v11 => some ((), v9.2.1, v11.1, v11.2, (v9.2.2.1.1, v9.2.2.1.2.1, v9.2.2.1.2.2.1, v9.2.2.1.2.2.2.1, ()), ())).bind
          fun v12 =>
          if (!!v12.2.2.2.1) = true then
            (M_json_reader_fail F ((v12.2.2.2.2.1.1, v12.2.2.2.2.1.2.1, v12.2.2.2.2.1.2.2.1, v12.2.2.2.2.1.2.2.2.1, ()), 3)).bind fun v13 =>
              some (JV.nil, v13.2.1, v13.2.2.1, v13.2.2.2.1, v13.2.2.2.2.1, ())
          else some (JV.int v12.2.2.1, v12.2.2.2.2.1.1, v12.2.1, v12.2.2.2.2.1.2.2.1, v12.2.2.2.2.1.2.2.2.1, ())
theorem t_json_reader_number (x : ((List UInt8) × (Int) × (Int) × (Int) × Unit)) (F : Nat) : fnRun TT Tryd.prog (e_json_reader_number F) s_json_reader_number (bodyOf 134) F x = M_json_reader_number F x := by kernel_rfl
theorem c_json_reader_number (F : Nat) : Ctr TT Tryd.prog 134 (conOf TT s_json_reader_number (M_json_reader_number F)) :=
  ctr_of (code := bodyOf 134) Tryd.func134 (by kernel_rfl) (by kernel_rfl) (by kernel_rfl) (by kernel_rfl) (envS_ok (envS_ok envN_ok (c_strconv_Atoi F)) (c_json_reader_fail F)) hm (by kernel_rfl) (fun x r h => ⟨F, (t_json_reader_number x F).trans h⟩)
theorem mo_json_reader_number_l0 {F F' : Nat} (h : F ≤ F') : ∀ v, Le (M_json_reader_number_l0 F v) (M_json_reader_number_l0 F' v) := by
  intro v
  unfold M_json_reader_number_l0
  with_reducible repeat (first | (intro v) | exact Le.refl _ | exact h | exact mo_strconv_Atoi h _ | exact mo_json_reader_fail h _ | apply Le.bind | apply Le.ite | apply Le.loop | apply Le.sumC)
theorem mo_json_reader_number {F F' : Nat} (h : F ≤ F') : ∀ v, Le (M_json_reader_number F v) (M_json_reader_number F' v) := by
  intro v
  unfold M_json_reader_number
  with_reducible repeat (first | (intro v) | exact Le.refl _ | exact h | exact mo_strconv_Atoi h _ | exact mo_json_reader_fail h _ | exact mo_json_reader_number_l0 h | exact mo_json_reader_number_l0 h _ | apply Le.bind | apply Le.ite | apply Le.loop | apply Le.sumC)

end Go.Vm
