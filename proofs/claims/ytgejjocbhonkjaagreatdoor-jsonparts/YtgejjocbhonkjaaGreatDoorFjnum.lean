/- Models of functions of the program, and that each keeps its contract: for all arguments of its shape. No condition. -/
import Derived.Test.YtgejjocbhonkjaaGreatDoorKt
import Derived.Test.YtgejjocbhonkjaaGreatDoorFjrd
import Derived.Test.YtgejjocbhonkjaaGreatDoorV7
namespace Go.Vm
open Go.Proofs
set_option linter.unusedVariables false

namespace Ato
open Go.Proofs Go.Shelf Go.RowKit
def r_ren : Ren := ⟨fun | 129 => 188 | 171 => 210 | 172 => 144 | 205 => 209 | 243 => 220 | 244 => 168 | 245 => 169 | 246 => 225 | 247 => 190 | 279 => 191 | 280 => 192 | 281 => 193 | 282 => 194 | 283 => 170 | 284 => 171 | 285 => 172 | 286 => 173 | 287 => 207 | 316 => 208 | 317 => 195 | 318 => 196 | 319 => 197 | 320 => 198 | 321 => 218 | 322 => 219 | 337 => 211 | 338 => 212 | n => n, fun | 0 => 0 | 2 => 2 | 3 => 3 | 4 => 4 | 5 => 5 | 9 => 9 | 20 => 20 | 21 => 21 | 37 => 75 | 46 => 121 | 51 => 122 | 53 => 158 | 75 => 147 | 76 => 155 | 80 => 99 | 85 => 190 | 127 => 166 | 143 => 213 | 145 => 215 | 167 => 189 | 168 => 192 | 171 => 171 | 173 => 174 | 175 => 205 | 210 => 208 | 212 => 196 | 213 => 197 | 232 => 216 | 233 => 217 | n => n, fun | 15 => 2 | 16 => 3 | 17 => 1 | 18 => 4 | 19 => 5 | n => n⟩
theorem r_lays : LaysC.n172 Tryz.prog r_ren := { mixed := (by kernel_rfl), f129 := Tryz.func188.trans (congrArg some (by kernel_rfl)), f171 := Tryz.func210.trans (congrArg some (by kernel_rfl)), f172 := Tryz.func144.trans (congrArg some (by kernel_rfl)), f205 := Tryz.func209.trans (congrArg some (by kernel_rfl)), f243 := Tryz.func220.trans (congrArg some (by kernel_rfl)), f244 := Tryz.func168.trans (congrArg some (by kernel_rfl)), f245 := Tryz.func169.trans (congrArg some (by kernel_rfl)), f246 := Tryz.func225.trans (congrArg some (by kernel_rfl)), f247 := Tryz.func190.trans (congrArg some (by kernel_rfl)), f279 := Tryz.func191.trans (congrArg some (by kernel_rfl)), f280 := Tryz.func192.trans (congrArg some (by kernel_rfl)), f281 := Tryz.func193.trans (congrArg some (by kernel_rfl)), f282 := Tryz.func194.trans (congrArg some (by kernel_rfl)), f283 := Tryz.func170.trans (congrArg some (by kernel_rfl)), f284 := Tryz.func171.trans (congrArg some (by kernel_rfl)), f285 := Tryz.func172.trans (congrArg some (by kernel_rfl)), f286 := Tryz.func173.trans (congrArg some (by kernel_rfl)), f287 := Tryz.func207.trans (congrArg some (by kernel_rfl)), f316 := Tryz.func208.trans (congrArg some (by kernel_rfl)), f317 := Tryz.func195.trans (congrArg some (by kernel_rfl)), f318 := Tryz.func196.trans (congrArg some (by kernel_rfl)), f319 := Tryz.func197.trans (congrArg some (by kernel_rfl)), f320 := Tryz.func198.trans (congrArg some (by kernel_rfl)), f321 := Tryz.func218.trans (congrArg some (by kernel_rfl)), f322 := Tryz.func219.trans (congrArg some (by kernel_rfl)), f337 := Tryz.func211.trans (congrArg some (by kernel_rfl)), f338 := Tryz.func212.trans (congrArg some (by kernel_rfl)), t0 := Tryz.underlying0, a0 := Tryz.isAgg0, z0 := Tryz.sizeOf0, v0 := Tryz.zeroValue0, t2 := Tryz.underlying2, a2 := Tryz.isAgg2, z2 := Tryz.sizeOf2, v2 := Tryz.zeroValue2, t3 := Tryz.underlying3, a3 := Tryz.isAgg3, z3 := Tryz.sizeOf3, v3 := Tryz.zeroValue3, t4 := Tryz.underlying4, a4 := Tryz.isAgg4, z4 := Tryz.sizeOf4, v4 := Tryz.zeroValue4, t5 := Tryz.underlying5, a5 := Tryz.isAgg5, z5 := Tryz.sizeOf5, v5 := Tryz.zeroValue5, t9 := Tryz.underlying9, a9 := Tryz.isAgg9, z9 := Tryz.sizeOf9, v9 := Tryz.zeroValue9, t20 := Tryz.underlying20, a20 := Tryz.isAgg20, z20 := Tryz.sizeOf20, v20 := Tryz.zeroValue20, t21 := Tryz.underlying21, a21 := Tryz.isAgg21, z21 := Tryz.sizeOf21, v21 := Tryz.zeroValue21, t37 := Tryz.underlying75, a37 := Tryz.isAgg75, z37 := Tryz.sizeOf75, v37 := Tryz.zeroValue75, t46 := Tryz.underlying121, a46 := Tryz.isAgg121, z46 := Tryz.sizeOf121, v46 := Tryz.zeroValue121, t51 := Tryz.underlying122, a51 := Tryz.isAgg122, z51 := Tryz.sizeOf122, v51 := Tryz.zeroValue122, t53 := Tryz.underlying158, a53 := Tryz.isAgg158, z53 := Tryz.sizeOf158, v53 := Tryz.zeroValue158, t75 := Tryz.underlying147, a75 := Tryz.isAgg147, z75 := Tryz.sizeOf147, v75 := Tryz.zeroValue147, t76 := Tryz.underlying155, a76 := Tryz.isAgg155, z76 := Tryz.sizeOf155, v76 := Tryz.zeroValue155, t85 := Tryz.underlying190, a85 := Tryz.isAgg190, z85 := Tryz.sizeOf190, v85 := Tryz.zeroValue190, t127 := Tryz.underlying166, a127 := Tryz.isAgg166, z127 := Tryz.sizeOf166, v127 := Tryz.zeroValue166, t143 := Tryz.underlying213, a143 := Tryz.isAgg213, z143 := Tryz.sizeOf213, v143 := Tryz.zeroValue213, t145 := Tryz.underlying215, a145 := Tryz.isAgg215, z145 := Tryz.sizeOf215, v145 := Tryz.zeroValue215, t167 := Tryz.underlying189, a167 := Tryz.isAgg189, z167 := Tryz.sizeOf189, v167 := Tryz.zeroValue189, t168 := Tryz.underlying192, a168 := Tryz.isAgg192, z168 := Tryz.sizeOf192, v168 := Tryz.zeroValue192, t171 := Tryz.underlying171, a171 := Tryz.isAgg171, z171 := Tryz.sizeOf171, v171 := Tryz.zeroValue171, t173 := Tryz.underlying174, a173 := Tryz.isAgg174, z173 := Tryz.sizeOf174, v173 := Tryz.zeroValue174, t175 := Tryz.underlying205, a175 := Tryz.isAgg205, z175 := Tryz.sizeOf205, v175 := Tryz.zeroValue205, t210 := Tryz.underlying208, a210 := Tryz.isAgg208, z210 := Tryz.sizeOf208, v210 := Tryz.zeroValue208, t212 := Tryz.underlying196, a212 := Tryz.isAgg196, z212 := Tryz.sizeOf196, v212 := Tryz.zeroValue196, t213 := Tryz.underlying197, a213 := Tryz.isAgg197, z213 := Tryz.sizeOf197, t232 := Tryz.underlying216, a232 := Tryz.isAgg216, z232 := Tryz.sizeOf216, v232 := Tryz.zeroValue216, t233 := Tryz.underlying217, a233 := Tryz.isAgg217, z233 := Tryz.sizeOf217, v233 := Tryz.zeroValue217, g15 := (by kernel_rfl), g16 := (by kernel_rfl), g17 := (by kernel_rfl), g18 := (by kernel_rfl), g19 := (by kernel_rfl), t80 := Tryz.underlying99, a80 := Tryz.isAgg99, z80 := Tryz.sizeOf99, v80 := Tryz.zeroValue99, i0 := (by kernel_rfl), i2 := (by kernel_rfl), i3 := (by kernel_rfl), i4 := (by kernel_rfl), i5 := (by kernel_rfl), i9 := (by kernel_rfl), i20 := (by kernel_rfl), i21 := (by kernel_rfl), i37 := (by kernel_rfl), i46 := (by kernel_rfl), i51 := (by kernel_rfl), i53 := (by kernel_rfl), i75 := (by kernel_rfl), i76 := (by kernel_rfl), i80 := (by kernel_rfl), i85 := (by kernel_rfl), i127 := (by kernel_rfl), i143 := (by kernel_rfl), i145 := (by kernel_rfl), i167 := (by kernel_rfl), i168 := (by kernel_rfl), i171 := (by kernel_rfl), i173 := (by kernel_rfl), i175 := (by kernel_rfl), i210 := (by kernel_rfl), i212 := (by kernel_rfl), i232 := (by kernel_rfl), i233 := (by kernel_rfl), m15 := (by kernel_rfl), m16 := (by kernel_rfl), m17 := (by kernel_rfl), m18 := (by kernel_rfl), m19 := (by kernel_rfl), c0 := (by kernel_rfl), c2 := (by kernel_rfl), c3 := (by kernel_rfl), c4 := (by kernel_rfl), c5 := (by kernel_rfl), c9 := (by kernel_rfl), c20 := (by kernel_rfl), c21 := (by kernel_rfl), c37 := (by kernel_rfl), c46 := (by kernel_rfl), c51 := (by kernel_rfl), c53 := (by kernel_rfl), c75 := (by kernel_rfl), c76 := (by kernel_rfl), c80 := (by kernel_rfl), c85 := (by kernel_rfl), c127 := (by kernel_rfl), c143 := (by kernel_rfl), c145 := (by kernel_rfl), c167 := (by kernel_rfl), c168 := (by kernel_rfl), c171 := (by kernel_rfl), c173 := (by kernel_rfl), c175 := (by kernel_rfl), c210 := (by kernel_rfl), c212 := (by kernel_rfl), c213 := (by kernel_rfl), c232 := (by kernel_rfl), c233 := (by kernel_rfl) }
end Ato
noncomputable def s_strconv_Atoi : Spec Kd := sAtoi
noncomputable def M_strconv_Atoi (F : Nat) (x : List UInt8) : Option (Int × Bool) := MAtoi x
theorem mo_strconv_Atoi {F F' : Nat} (h : F ≤ F') : ∀ v, Le (M_strconv_Atoi F v) (M_strconv_Atoi F' v) := fun _ => Le.refl _
theorem c_strconv_Atoi (F : Nat) : Ctr TT Tryz.prog 144 (conOf TT s_strconv_Atoi (M_strconv_Atoi F)) := ctr_atoi (kt := kt) (ρ := Ato.r_ren) Ato.r_lays (fun w h => h.err 2 (List.mem_cons_self ..)) rfl Tryz.func144 (by kernel_rfl) (by kernel_rfl) rfl
noncomputable def s_json_reader_number : Spec Kd := { params := [(.pin 110 [.str, (.int .i64), (.int .i64), (.int .i64)])], ret := (.one (.a (.any .jv))), pins := [[.str, (.int .i64), (.int .i64), (.int .i64)]], pl := { nt := 85, joins := [(400017, (.norm, ⟨[.tmp 0 (.a (.ptr 1 0)), .tmp 3 (.a (.int .i64)), .box 1 (.cells 110 [.str, (.int .i64), (.int .i64), (.int .i64)])], [], []⟩), [])], loops := [(0, ⟨[.tmp 0 (.a (.ptr 1 0)), .tmp 3 (.a (.int .i64)), .tmp 4 (.a (.int .i64)), .box 1 (.cells 110 [.str, (.int .i64), (.int .i64), (.int .i64)])], [], []⟩, (.exit 0, ⟨[.tmp 0 (.a (.ptr 1 0)), .tmp 3 (.a (.int .i64)), .box 1 (.cells 110 [.str, (.int .i64), (.int .i64), (.int .i64)])], [], []⟩), [])], cuts := [(5, [(16, ⟨[.tmp 0 (.a (.ptr 1 0)), .tmp 3 (.a (.int .i64)), .tmp 4 (.a (.int .i64)), .tmp 36 (.a .bool), .box 1 (.cells 110 [.str, (.int .i64), (.int .i64), (.int .i64)])], [], []⟩), (9, ⟨[.tmp 0 (.a (.ptr 1 0)), .tmp 3 (.a (.int .i64)), .tmp 4 (.a (.int .i64)), .tmp 45 (.a .bool), .box 1 (.cells 110 [.str, (.int .i64), (.int .i64), (.int .i64)])], [], []⟩), (6, ⟨[.tmp 0 (.a (.ptr 1 0)), .tmp 3 (.a (.int .i64)), .tmp 4 (.a (.int .i64)), .tmp 51 (.a .bool), .box 1 (.cells 110 [.str, (.int .i64), (.int .i64), (.int .i64)])], [], []⟩)])], ends := [(8, ⟨[.tmp 0 (.a (.ptr 1 0)), .tmp 3 (.a (.int .i64)), .tmp 5 (.a (.int .i64)), .tmp 6 (.a (.any .er)), .box 1 (.cells 110 [.str, (.int .i64), (.int .i64), (.int .i64)])], [], []⟩)] }, rfrz := [], ts := [2], rco := [.tmpAny 2 .jv] }
noncomputable def e_json_reader_number (F : Nat) : Env El := (envS 79 (conOf TT s_json_reader_fail (M_json_reader_fail F)) (envS 144 (conOf TT s_strconv_Atoi (M_strconv_Atoi F)) envN))
/-- (*concierge/json.reader).number -/
noncomputable def M_json_reader_number_l0 (F : Nat) (v2 : (Unit × Int × Int × (List UInt8 × Int × Int × Int × Unit) × Unit)) : Option ((Unit × Int × Int × (List UInt8 × Int × Int × Int × Unit) × Unit) ⊕ (Unit × Int × (List UInt8 × Int × Int × Int × Unit) × Unit)) :=
  (if decide (v2.2.1 < (↑v2.2.2.2.1.1.length : Int)) = true then
                  (idx v2.2.2.2.1.1 v2.2.1).bind fun v3 =>
                    some ((), v2.2.1, v2.2.2.1, decide (48 ≤ (↑v3.toNat : Int)), (v2.2.2.2.1.1, v2.2.2.2.1.2.1, v2.2.2.2.1.2.2.1, v2.2.2.2.1.2.2.2.1, ()), ())
                else some ((), v2.2.1, v2.2.2.1, false, (v2.2.2.2.1.1, v2.2.2.2.1.2.1, v2.2.2.2.1.2.2.1, v2.2.2.2.1.2.2.2.1, ()), ())).bind
              fun v4 =>
              (if v4.2.2.2.1 = true then
                    (idx v4.2.2.2.2.1.1 v4.2.1).bind fun v5 =>
                      some
                        ((), v4.2.1, v4.2.2.1, decide ((↑v5.toNat : Int) ≤ 57),
                          (v4.2.2.2.2.1.1, v4.2.2.2.2.1.2.1, v4.2.2.2.2.1.2.2.1, v4.2.2.2.2.1.2.2.2.1, ()), ())
                  else some ((), v4.2.1, v4.2.2.1, false, (v4.2.2.2.2.1.1, v4.2.2.2.2.1.2.1, v4.2.2.2.2.1.2.2.1, v4.2.2.2.2.1.2.2.2.1, ()), ())).bind
                fun v6 =>
                (if v6.2.2.2.1 = true then
                      some
                        ((), v6.2.1, v6.2.2.1, decide (IntKind.i64.wrap (v6.2.1 - v6.2.2.1) < 15),
                          (v6.2.2.2.2.1.1, v6.2.2.2.2.1.2.1, v6.2.2.2.2.1.2.2.1, v6.2.2.2.2.1.2.2.2.1, ()), ())
                    else some ((), v6.2.1, v6.2.2.1, false, (v6.2.2.2.2.1.1, v6.2.2.2.2.1.2.1, v6.2.2.2.2.1.2.2.1, v6.2.2.2.2.1.2.2.2.1, ()), ())).bind
                  fun v7 =>
                  if v7.2.2.2.1 = true then
                    (idx v7.2.2.2.2.1.1 v7.2.2.1).bind fun v8 =>
                      if decide ((↑v8.toNat : Int) = 48) = true then
                        some (Sum.inr ((), IntKind.i64.wrap (v7.2.1 + 1), (v7.2.2.2.2.1.1, v7.2.2.2.2.1.2.1, v7.2.2.2.2.1.2.2.1, v7.2.2.2.2.1.2.2.2.1, ()), ()))
                      else
                        some
                          (Sum.inl
                            ((), IntKind.i64.wrap (v7.2.1 + 1), v7.2.2.1, (v7.2.2.2.2.1.1, v7.2.2.2.2.1.2.1, v7.2.2.2.2.1.2.2.1, v7.2.2.2.2.1.2.2.2.1, ()), ()))
                  else some (Sum.inr ((), v7.2.1, (v7.2.2.2.2.1.1, v7.2.2.2.2.1.2.1, v7.2.2.2.2.1.2.2.1, v7.2.2.2.2.1.2.2.2.1, ()), ()))
noncomputable def M_json_reader_number (F : Nat) (x : ((List UInt8) × (Int) × (Int) × (Int) × Unit)) : Option ((El .jv) × ((List UInt8) × (Int) × (Int) × (Int) × Unit)) :=
  (idx x.1 x.2.1).bind fun v0 =>
    (if decide ((↑v0.toNat : Int) = 45) = true then some ((), IntKind.i64.wrap (x.2.1 + 1), (x.1, x.2.1, x.2.2.1, x.2.2.2.1, ()), ())
        else some ((), x.2.1, (x.1, x.2.1, x.2.2.1, x.2.2.2.1, ()), ())).bind
      fun v1 =>
      (loopM (M_json_reader_number_l0 F)
            F ((), v1.2.1, v1.2.1, (v1.2.2.1.1, v1.2.2.1.2.1, v1.2.2.1.2.2.1, v1.2.2.1.2.2.2.1, ()), ())).bind
        fun v9 =>
        ((sub v9.2.2.1.1 v9.2.2.1.2.1 v9.2.1).bind fun v10 =>
              (M_strconv_Atoi F v10).bind fun v11 => some ((), v9.2.1, v11.1, v11.2, (v9.2.2.1.1, v9.2.2.1.2.1, v9.2.2.1.2.2.1, v9.2.2.1.2.2.2.1, ()), ())).bind
          fun v12 =>
          if (!!v12.2.2.2.1) = true then
            (M_json_reader_fail F ((v12.2.2.2.2.1.1, v12.2.2.2.2.1.2.1, v12.2.2.2.2.1.2.2.1, v12.2.2.2.2.1.2.2.2.1, ()), 3)).bind fun v13 =>
              some (JV.nil, v13.2.1, v13.2.2.1, v13.2.2.2.1, v13.2.2.2.2.1, ())
          else some (JV.int v12.2.2.1, v12.2.2.2.2.1.1, v12.2.1, v12.2.2.2.2.1.2.2.1, v12.2.2.2.2.1.2.2.2.1, ())
theorem t_json_reader_number (x : ((List UInt8) × (Int) × (Int) × (Int) × Unit)) (F : Nat) : fnRun TT Tryz.prog (e_json_reader_number F) s_json_reader_number (bodyOf 116) F x = M_json_reader_number F x := by kernel_rfl
theorem c_json_reader_number (F : Nat) : Ctr TT Tryz.prog 116 (conOf TT s_json_reader_number (M_json_reader_number F)) :=
  ctr_of (code := bodyOf 116) Tryz.func116 (by kernel_rfl) (by kernel_rfl) (by kernel_rfl) (by kernel_rfl) (envS_ok (envS_ok envN_ok (c_strconv_Atoi F)) (c_json_reader_fail F)) hm (by kernel_rfl) (fun x r h => ⟨F, (t_json_reader_number x F).trans h⟩)
theorem mo_json_reader_number_l0 {F F' : Nat} (h : F ≤ F') : ∀ v, Le (M_json_reader_number_l0 F v) (M_json_reader_number_l0 F' v) := by
  intro v
  unfold M_json_reader_number_l0
  with_reducible repeat (first | (intro v) | exact Le.refl _ | exact h | exact mo_strconv_Atoi h _ | exact mo_json_reader_fail h _ | apply Le.bind | apply Le.ite | apply Le.loop | apply Le.sumC)
theorem mo_json_reader_number {F F' : Nat} (h : F ≤ F') : ∀ v, Le (M_json_reader_number F v) (M_json_reader_number F' v) := by
  intro v
  unfold M_json_reader_number
  with_reducible repeat (first | (intro v) | exact Le.refl _ | exact h | exact mo_strconv_Atoi h _ | exact mo_json_reader_fail h _ | exact mo_json_reader_number_l0 h | exact mo_json_reader_number_l0 h _ | apply Le.bind | apply Le.ite | apply Le.loop | apply Le.sumC)

end Go.Vm
