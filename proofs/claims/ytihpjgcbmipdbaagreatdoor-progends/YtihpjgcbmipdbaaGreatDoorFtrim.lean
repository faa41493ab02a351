import Derived.Test.YtihpjgcbmipdbaaGreatDoorKt
import Derived.Test.YtihpjgcbmipdbaaGreatDoorV11
/- Models of functions of the program, and that each keeps its contract: for all arguments of its shape. No condition. -/
namespace Go.Vm
open Go.Proofs
set_option linter.unusedVariables false
noncomputable def s_unicode_utf8_ValidRune : Spec Kd := { params := [(.a (.int .i32))], ret := (.one (.a .bool)), pins := [], pl := { nt := 17, cuts := [(3, [(6, ⟨[.tmp 16 (.a .bool)], [], []⟩)]), (1, [(6, ⟨[.tmp 0 (.a (.int .i32)), .tmp 9 (.a .bool)], [], []⟩)])] }, rfrz := [], ts := [2] }
noncomputable def e_unicode_utf8_ValidRune (F : Nat) : Env El := envN
noncomputable def M_unicode_utf8_ValidRune (F : Nat) (x : (Int)) : Option (Bool) :=
 (if decide (0 ≤ x) = true then some (x, decide (x < 55296), ()) else some (x, false, ())).bind fun v0 =>
  if v0.2.1 = true then some true
  else
   (if decide (57343 < v0.1) = true then some (decide (v0.1 ≤ 1114111), ()) else some (false, ())).bind fun v1 => if v1.1 = true then some true else some false
theorem t_unicode_utf8_ValidRune (x : (Int)) (F : Nat) : fnRun TT Tryz.prog (e_unicode_utf8_ValidRune F) s_unicode_utf8_ValidRune (bodyOf 235) F x = M_unicode_utf8_ValidRune F x := by kernel_rfl
theorem c_unicode_utf8_ValidRune (F : Nat) : Ctr TT Tryz.prog 235 (conOf TT s_unicode_utf8_ValidRune (M_unicode_utf8_ValidRune F)) :=
 ctr_of (code := bodyOf 235) Tryz.func235 (by kernel_rfl) (by kernel_rfl) (by kernel_rfl) (by kernel_rfl) envN_ok hm (by kernel_rfl) (fun x r h => ⟨F, (t_unicode_utf8_ValidRune x F).trans h⟩)
noncomputable def s_sign_among : Spec Kd := { params := [(.a (.int .i32)), (.a (.int .i32)), (.a (.int .i32)), (.a (.int .i32))], ret := (.one (.a .bool)), pins := [], pl := { nt := 22, cuts := [(1, [(8, ⟨[.tmp 0 (.a (.int .i32)), .tmp 3 (.a (.int .i32)), .tmp 16 (.a .bool)], [], []⟩), (5, ⟨[.tmp 21 (.a .bool)], [], []⟩)])] }, rfrz := [], ts := [8] }
noncomputable def e_sign_among (F : Nat) : Env El := envN
noncomputable def M_sign_among (F : Nat) (x : (Int) × (Int) × (Int) × (Int)) : Option (Bool) :=
 (if decide (x.2.1 ≤ x.1) = true then some (x.1, x.2.2.2, decide (x.1 ≤ x.2.2.1), ()) else some (x.1, x.2.2.2, false, ())).bind fun v0 =>
  (if v0.2.2.1 = true then some (!decide (v0.1 = v0.2.1), ()) else some (false, ())).bind fun v1 => some v1.1
theorem t_sign_among (x : (Int) × (Int) × (Int) × (Int)) (F : Nat) : fnRun TT Tryz.prog (e_sign_among F) s_sign_among (bodyOf 190) F x = M_sign_among F x := by kernel_rfl
theorem c_sign_among (F : Nat) : Ctr TT Tryz.prog 190 (conOf TT s_sign_among (M_sign_among F)) :=
 ctr_of (code := bodyOf 190) Tryz.func190 (by kernel_rfl) (by kernel_rfl) (by kernel_rfl) (by kernel_rfl) envN_ok hm (by kernel_rfl) (fun x r h => ⟨F, (t_sign_among x F).trans h⟩)
noncomputable def s_sign_control : Spec Kd := { params := [(.a (.int .i32))], ret := (.one (.a .bool)), pins := [], pl := { nt := 18, cuts := [(1, [(6, ⟨[.tmp 0 (.a (.int .i32)), .tmp 8 (.a .bool)], [], []⟩), (4, ⟨[.tmp 0 (.a (.int .i32)), .tmp 12 (.a .bool)], [], []⟩), (5, ⟨[.tmp 17 (.a .bool)], [], []⟩)])] }, rfrz := [], ts := [2] }
noncomputable def e_sign_control (F : Nat) : Env El := (envS 235 (conOf TT s_unicode_utf8_ValidRune (M_unicode_utf8_ValidRune F)) (envS 190 (conOf TT s_sign_among (M_sign_among F)) envN))
noncomputable def M_sign_control (F : Nat) (x : (Int)) : Option (Bool) :=
 (if decide (x < 32) = false then (M_sign_among F (x, 127, 159, 0)).bind fun v0 => some (x, v0, ()) else some (x, true, ())).bind fun v1 =>
  (if v1.2.1 = false then some (v1.1, decide (v1.1 = 65533), ()) else some (v1.1, true, ())).bind fun v2 =>
   (if v2.2.1 = false then (M_unicode_utf8_ValidRune F v2.1).bind fun v3 => some (!v3, ()) else some (true, ())).bind fun v4 => some v4.1
theorem t_sign_control (x : (Int)) (F : Nat) : fnRun TT Tryz.prog (e_sign_control F) s_sign_control (bodyOf 188) F x = M_sign_control F x := by kernel_rfl
theorem c_sign_control (F : Nat) : Ctr TT Tryz.prog 188 (conOf TT s_sign_control (M_sign_control F)) :=
 ctr_of (code := bodyOf 188) Tryz.func188 (by kernel_rfl) (by kernel_rfl) (by kernel_rfl) (by kernel_rfl) (envS_ok (envS_ok envN_ok (c_sign_among F)) (c_unicode_utf8_ValidRune F)) hm (by kernel_rfl) (fun x r h => ⟨F, (t_sign_control x F).trans h⟩)
noncomputable def s_sign_blank : Spec Kd := { params := [(.a (.int .i32))], ret := (.one (.a .bool)), pins := [], pl := { nt := 17, cuts := [(1, [(6, ⟨[.tmp 0 (.a (.int .i32)), .tmp 8 (.a .bool)], [], []⟩), (4, ⟨[.tmp 0 (.a (.int .i32)), .tmp 12 (.a .bool)], [], []⟩), (4, ⟨[.tmp 16 (.a .bool)], [], []⟩)])] }, rfrz := [], ts := [2] }
noncomputable def e_sign_blank (F : Nat) : Env El := (envS 190 (conOf TT s_sign_among (M_sign_among F)) envN)
noncomputable def M_sign_blank (F : Nat) (x : (Int)) : Option (Bool) :=
 (if decide (x = 32) = false then some (x, decide (x = 160), ()) else some (x, true, ())).bind fun v0 =>
  (if v0.2.1 = false then (M_sign_among F (v0.1, 8192, 8202, 0)).bind fun v1 => some (v0.1, v1, ()) else some (v0.1, true, ())).bind fun v2 =>
   (if v2.2.1 = false then some (decide (v2.1 = 12288), ()) else some (true, ())).bind fun v3 => some v3.1
theorem t_sign_blank (x : (Int)) (F : Nat) : fnRun TT Tryz.prog (e_sign_blank F) s_sign_blank (bodyOf 189) F x = M_sign_blank F x := by kernel_rfl
theorem c_sign_blank (F : Nat) : Ctr TT Tryz.prog 189 (conOf TT s_sign_blank (M_sign_blank F)) :=
 ctr_of (code := bodyOf 189) Tryz.func189 (by kernel_rfl) (by kernel_rfl) (by kernel_rfl) (by kernel_rfl) (envS_ok envN_ok (c_sign_among F)) hm (by kernel_rfl) (fun x r h => ⟨F, (t_sign_blank x F).trans h⟩)
noncomputable def s_sign_letter : Spec Kd := { params := [(.a (.int .i32))], ret := (.one (.a .bool)), pins := [], pl := { nt := 21, cuts := [(1, [(6, ⟨[.tmp 0 (.a (.int .i32)), .tmp 8 (.a .bool)], [], []⟩), (8, ⟨[.tmp 0 (.a (.int .i32)), .tmp 16 (.a .bool)], [], []⟩), (4, ⟨[.tmp 20 (.a .bool)], [], []⟩)])] }, rfrz := [], ts := [2] }
noncomputable def e_sign_letter (F : Nat) : Env El := (envS 190 (conOf TT s_sign_among (M_sign_among F)) envN)
noncomputable def M_sign_letter (F : Nat) (x : (Int)) : Option (Bool) :=
 ((M_sign_among F (x, 65, 90, 0)).bind fun v0 =>
    if v0 = false then (M_sign_among F (x, 97, 122, 0)).bind fun v1 => some (x, v1, ()) else some (x, true, ())).bind
  fun v2 =>
  (if v2.2.1 = false then
     (M_sign_among F (v2.1, 192, 591, 215)).bind fun v3 => if v3 = true then some (v2.1, !decide (v2.1 = 247), ()) else some (v2.1, false, ())
    else some (v2.1, true, ())).bind
   fun v4 => (if v4.2.1 = false then (M_sign_among F (v4.1, 913, 969, 930)).bind fun v5 => some (v5, ()) else some (true, ())).bind fun v6 => some v6.1
theorem t_sign_letter (x : (Int)) (F : Nat) : fnRun TT Tryz.prog (e_sign_letter F) s_sign_letter (bodyOf 191) F x = M_sign_letter F x := by kernel_rfl
theorem c_sign_letter (F : Nat) : Ctr TT Tryz.prog 191 (conOf TT s_sign_letter (M_sign_letter F)) :=
 ctr_of (code := bodyOf 191) Tryz.func191 (by kernel_rfl) (by kernel_rfl) (by kernel_rfl) (by kernel_rfl) (envS_ok envN_ok (c_sign_among F)) hm (by kernel_rfl) (fun x r h => ⟨F, (t_sign_letter x F).trans h⟩)
noncomputable def s_sign_Sort : Spec Kd := { params := [(.a (.int .i32))], ret := (.one (.a (.int .i64))), pins := [], pl := { nt := 15 }, rfrz := [], ts := [2] }
noncomputable def e_sign_Sort (F : Nat) : Env El := (envS 191 (conOf TT s_sign_letter (M_sign_letter F)) (envS 190 (conOf TT s_sign_among (M_sign_among F)) (envS 189 (conOf TT s_sign_blank (M_sign_blank F)) (envS 188 (conOf TT s_sign_control (M_sign_control F)) envN))))
noncomputable def M_sign_Sort (F : Nat) (x : (Int)) : Option (Int) :=
 (M_sign_control F x).bind fun v0 =>
  if v0 = true then some 0
  else
   (M_sign_blank F x).bind fun v1 =>
    if v1 = true then some 1
    else (M_sign_among F (x, 48, 57, 0)).bind fun v2 => if v2 = true then some 2 else (M_sign_letter F x).bind fun v3 => if v3 = true then some 3 else some 4
theorem t_sign_Sort (x : (Int)) (F : Nat) : fnRun TT Tryz.prog (e_sign_Sort F) s_sign_Sort (bodyOf 124) F x = M_sign_Sort F x := by kernel_rfl
theorem c_sign_Sort (F : Nat) : Ctr TT Tryz.prog 124 (conOf TT s_sign_Sort (M_sign_Sort F)) :=
 ctr_of (code := bodyOf 124) Tryz.func124 (by kernel_rfl) (by kernel_rfl) (by kernel_rfl) (by kernel_rfl) (envS_ok (envS_ok (envS_ok (envS_ok envN_ok (c_sign_control F)) (c_sign_blank F)) (c_sign_among F)) (c_sign_letter F)) hm (by kernel_rfl) (fun x r h => ⟨F, (t_sign_Sort x F).trans h⟩)
noncomputable def s_conciergeref04_Sort : Spec Kd := { params := [(.a (.int .i64))], ret := (.one (.a (.int .i64))), pins := [], pl := { nt := 95, cuts := [(7, [(6, ⟨[.tmp 0 (.a (.int .i64)), .tmp 58 (.a .bool)], [], []⟩), (8, ⟨[.tmp 0 (.a (.int .i64)), .tmp 66 (.a .bool)], [], []⟩), (16, ⟨[.tmp 0 (.a (.int .i64)), .tmp 82 (.a .bool)], [], []⟩), (12, ⟨[.tmp 94 (.a .bool)], [], []⟩)]), (5, [(6, ⟨[.tmp 0 (.a (.int .i64)), .tmp 52 (.a .bool)], [], []⟩)]), (3, [(6, ⟨[.tmp 0 (.a (.int .i64)), .tmp 34 (.a .bool)], [], []⟩), (8, ⟨[.tmp 0 (.a (.int .i64)), .tmp 42 (.a .bool)], [], []⟩), (4, ⟨[.tmp 0 (.a (.int .i64)), .tmp 46 (.a .bool)], [], []⟩)]), (1, [(10, ⟨[.tmp 0 (.a (.int .i64)), .tmp 12 (.a .bool)], [], []⟩), (4, ⟨[.tmp 0 (.a (.int .i64)), .tmp 16 (.a .bool)], [], []⟩), (4, ⟨[.tmp 0 (.a (.int .i64)), .tmp 20 (.a .bool)], [], []⟩), (8, ⟨[.tmp 0 (.a (.int .i64)), .tmp 28 (.a .bool)], [], []⟩)])] }, rfrz := [], ts := [2] }
noncomputable def e_conciergeref04_Sort (F : Nat) : Env El := envN
noncomputable def M_conciergeref04_Sort (F : Nat) (x : (Int)) : Option (Int) :=
 (if decide (x < 32) = false then if decide (127 ≤ x) = true then some (x, decide (x ≤ 159), ()) else some (x, false, ()) else some (x, true, ())).bind fun v0 =>
  (if v0.2.1 = false then some (v0.1, decide (v0.1 = 65533), ()) else some (v0.1, true, ())).bind fun v1 =>
   (if v1.2.1 = false then some (v1.1, decide (1114111 < v1.1), ()) else some (v1.1, true, ())).bind fun v2 =>
    (if v2.2.1 = false then if decide (55296 ≤ v2.1) = true then some (v2.1, decide (v2.1 ≤ 57343), ()) else some (v2.1, false, ())
      else some (v2.1, true, ())).bind
     fun v3 =>
     if v3.2.1 = true then some 0
     else
      (if decide (v3.1 = 32) = false then some (v3.1, decide (v3.1 = 160), ()) else some (v3.1, true, ())).bind fun v4 =>
       (if v4.2.1 = false then if decide (8192 ≤ v4.1) = true then some (v4.1, decide (v4.1 ≤ 8202), ()) else some (v4.1, false, ())
         else some (v4.1, true, ())).bind
        fun v5 =>
        (if v5.2.1 = false then some (v5.1, decide (v5.1 = 12288), ()) else some (v5.1, true, ())).bind fun v6 =>
         if v6.2.1 = true then some 1
         else
          (if decide (48 ≤ v6.1) = true then some (v6.1, decide (v6.1 ≤ 57), ()) else some (v6.1, false, ())).bind fun v7 =>
           if v7.2.1 = true then some 2
           else
            (if decide (65 ≤ v7.1) = true then some (v7.1, decide (v7.1 ≤ 90), ()) else some (v7.1, false, ())).bind fun v8 =>
             (if v8.2.1 = false then if decide (97 ≤ v8.1) = true then some (v8.1, decide (v8.1 ≤ 122), ()) else some (v8.1, false, ())
               else some (v8.1, true, ())).bind
              fun v9 =>
              (if v9.2.1 = false then
                 if decide (192 ≤ v9.1) = true then
                  if decide (v9.1 ≤ 591) = true then
                   if (!decide (v9.1 = 215)) = true then some (v9.1, !decide (v9.1 = 247), ()) else some (v9.1, false, ())
                  else some (v9.1, false, ())
                 else some (v9.1, false, ())
                else some (v9.1, true, ())).bind
               fun v10 =>
               (if v10.2.1 = false then
                  if decide (913 ≤ v10.1) = true then if decide (v10.1 ≤ 969) = true then some (!decide (v10.1 = 930), ()) else some (false, ())
                  else some (false, ())
                 else some (true, ())).bind
                fun v11 => if v11.1 = true then some 3 else some 4
theorem t_conciergeref04_Sort (x : (Int)) (F : Nat) : fnRun TT Tryz.prog (e_conciergeref04_Sort F) s_conciergeref04_Sort (bodyOf 133) F x = M_conciergeref04_Sort F x := by kernel_rfl
theorem c_conciergeref04_Sort (F : Nat) : Ctr TT Tryz.prog 133 (conOf TT s_conciergeref04_Sort (M_conciergeref04_Sort F)) :=
 ctr_of (code := bodyOf 133) Tryz.func133 (by kernel_rfl) (by kernel_rfl) (by kernel_rfl) (by kernel_rfl) envN_ok hm (by kernel_rfl) (fun x r h => ⟨F, (t_conciergeref04_Sort x F).trans h⟩)
end Go.Vm
/- Models of functions of the program, and that each keeps its contract: for all arguments of its shape. No condition. -/
namespace Go.Vm
open Go.Proofs
set_option linter.unusedVariables false
namespace Trm
open Go.Proofs Go.Shelf Go.RowKit
def r_ren : Ren := ⟨fun | 119 => 235 | 120 => 297 | 137 => 200 | 151 => 280 | 152 => 296 | 160 => 199 | 197 => 230 | 217 => 250 | 224 => 268 | 225 => 267 | 227 => 245 | 228 => 279 | 231 => 243 | 232 => 244 | 233 => 246 | 234 => 247 | 235 => 248 | 236 => 249 | 260 => 266 | 266 => 282 | 271 => 281 | n => n, fun | 0 => 0 | 3 => 3 | 4 => 4 | 5 => 5 | 9 => 9 | 21 => 21 | 46 => 228 | 105 => 231 | 116 => 242 | 117 => 243 | 119 => 270 | 124 => 246 | 138 => 272 | 139 => 273 | n => n, fun | 3 => 1 | 4 => 2 | n => n⟩
theorem r_lays : Lays.n160 Tryz.prog r_ren := { mixed := (by kernel_rfl), f119 := Tryz.func235.trans (congrArg some (by kernel_rfl)), f120 := Tryz.func297.trans (congrArg some (by kernel_rfl)), f137 := Tryz.func200.trans (congrArg some (by kernel_rfl)), f151 := Tryz.func280.trans (congrArg some (by kernel_rfl)), f152 := Tryz.func296.trans (congrArg some (by kernel_rfl)), f160 := Tryz.func199.trans (congrArg some (by kernel_rfl)), f197 := Tryz.func230.trans (congrArg some (by kernel_rfl)), f217 := Tryz.func250.trans (congrArg some (by kernel_rfl)), f224 := Tryz.func268.trans (congrArg some (by kernel_rfl)), f225 := Tryz.func267.trans (congrArg some (by kernel_rfl)), f227 := Tryz.func245.trans (congrArg some (by kernel_rfl)), f228 := Tryz.func279.trans (congrArg some (by kernel_rfl)), f231 := Tryz.func243.trans (congrArg some (by kernel_rfl)), f232 := Tryz.func244.trans (congrArg some (by kernel_rfl)), f233 := Tryz.func246.trans (congrArg some (by kernel_rfl)), f234 := Tryz.func247.trans (congrArg some (by kernel_rfl)), f235 := Tryz.func248.trans (congrArg some (by kernel_rfl)), f236 := Tryz.func249.trans (congrArg some (by kernel_rfl)), f260 := Tryz.func266.trans (congrArg some (by kernel_rfl)), f266 := Tryz.func282.trans (congrArg some (by kernel_rfl)), f271 := Tryz.func281.trans (congrArg some (by kernel_rfl)), t0 := Tryz.underlying0, a0 := Tryz.isAgg0, z0 := Tryz.sizeOf0, v0 := Tryz.zeroValue0, t3 := Tryz.underlying3, a3 := Tryz.isAgg3, z3 := Tryz.sizeOf3, v3 := Tryz.zeroValue3, t4 := Tryz.underlying4, a4 := Tryz.isAgg4, z4 := Tryz.sizeOf4, v4 := Tryz.zeroValue4, t5 := Tryz.underlying5, a5 := Tryz.isAgg5, z5 := Tryz.sizeOf5, v5 := Tryz.zeroValue5, t9 := Tryz.underlying9, a9 := Tryz.isAgg9, z9 := Tryz.sizeOf9, v9 := Tryz.zeroValue9, t21 := Tryz.underlying21, a21 := Tryz.isAgg21, z21 := Tryz.sizeOf21, v21 := Tryz.zeroValue21, t46 := Tryz.underlying228, a46 := Tryz.isAgg228, z46 := Tryz.sizeOf228, v46 := Tryz.zeroValue228, t105 := Tryz.underlying231, a105 := Tryz.isAgg231, z105 := Tryz.sizeOf231, v105 := Tryz.zeroValue231, t116 := Tryz.underlying242, a116 := Tryz.isAgg242, z116 := Tryz.sizeOf242, t117 := Tryz.underlying243, a117 := Tryz.isAgg243, z117 := Tryz.sizeOf243, v117 := Tryz.zeroValue243, t119 := Tryz.underlying270, a119 := Tryz.isAgg270, z119 := Tryz.sizeOf270, t124 := Tryz.underlying246, a124 := Tryz.isAgg246, z124 := Tryz.sizeOf246, v124 := Tryz.zeroValue246, t138 := Tryz.underlying272, a138 := Tryz.isAgg272, z138 := Tryz.sizeOf272, v138 := Tryz.zeroValue272, t139 := Tryz.underlying273, a139 := Tryz.isAgg273, z139 := Tryz.sizeOf273, v139 := Tryz.zeroValue273, g3 := (by kernel_rfl), g4 := (by kernel_rfl) }
theorem r_116 : (Tryz.prog.info? (r_ren.t 116)).map (fun i => (i.zero, i.size)) = some (some (.agg (Array.replicate 256 (.bool false))), 256) := by kernel_rfl
end Trm
noncomputable def s_strings_Trim : Spec Kd := sTrim
noncomputable def M_strings_Trim (F : Nat) (x : List UInt8 × List UInt8) : Option (List UInt8) := MTrim x
theorem c_strings_Trim (F : Nat) : Ctr TT Tryz.prog 199 (conOf TT s_strings_Trim (M_strings_Trim F)) := ctr_trim (kt := kt) (ρ := Trm.r_ren) Trm.r_lays Trm.r_116 Tryz.func199 (by kernel_rfl) (by kernel_rfl) rfl
end Go.Vm
