/- Models of functions of the program, and that each keeps its contract: for all arguments of its shape. No condition. -/
import Derived.Test.YtocgjbdimjlfhaaGreatDoorKt
import Derived.Test.YtocgjbdimjlfhaaGreatDoorFphr
import Derived.Test.YtocgjbdimjlfhaaGreatDoorFref22
namespace Go.Vm
open Go.Proofs
set_option linter.unusedVariables false
noncomputable def s_conciergelaw18_Small : Spec Kd := { params := [(.a (.slc .rd)), (.a (.int .i64))], ret := (.one (.a .bool)), pins := [], pl := { nt := 55, loops := [(0, ⟨[.tmp 12 (.a (.slc .rd)), .tmp 13 (.a (.int .i64)), .tmp 14 (.a (.int .i64))], [], []⟩, (.exit 0, ⟨[], [], []⟩), [(.ret, ⟨[.tmp 4 (.a .bool)], [], []⟩)])], cuts := [(7, [(10, ⟨[.tmp 7 (.a (.ptr 448 0)), .tmp 12 (.a (.slc .rd)), .tmp 13 (.a (.int .i64)), .tmp 14 (.a (.int .i64)), .tmp 29 (.a .bool), .box 448 (.cells 66 [(.int .i64), .str, (.int .i64), (.int .i64), (.int .i64), (.int .i64), .str, (.int .i64), (.int .i64), (.int .i64), .str, .str, .str, .str])], [], []⟩), (6, ⟨[.tmp 7 (.a (.ptr 448 0)), .tmp 12 (.a (.slc .rd)), .tmp 13 (.a (.int .i64)), .tmp 14 (.a (.int .i64)), .tmp 35 (.a .bool), .box 448 (.cells 66 [(.int .i64), .str, (.int .i64), (.int .i64), (.int .i64), (.int .i64), .str, (.int .i64), (.int .i64), (.int .i64), .str, .str, .str, .str])], [], []⟩), (6, ⟨[.tmp 7 (.a (.ptr 448 0)), .tmp 12 (.a (.slc .rd)), .tmp 13 (.a (.int .i64)), .tmp 14 (.a (.int .i64)), .tmp 41 (.a .bool), .box 448 (.cells 66 [(.int .i64), .str, (.int .i64), (.int .i64), (.int .i64), (.int .i64), .str, (.int .i64), (.int .i64), (.int .i64), .str, .str, .str, .str])], [], []⟩), (6, ⟨[.tmp 7 (.a (.ptr 448 0)), .tmp 12 (.a (.slc .rd)), .tmp 13 (.a (.int .i64)), .tmp 14 (.a (.int .i64)), .tmp 47 (.a .bool), .box 448 (.cells 66 [(.int .i64), .str, (.int .i64), (.int .i64), (.int .i64), (.int .i64), .str, (.int .i64), (.int .i64), (.int .i64), .str, .str, .str, .str])], [], []⟩), (6, ⟨[.tmp 12 (.a (.slc .rd)), .tmp 13 (.a (.int .i64)), .tmp 14 (.a (.int .i64)), .tmp 53 (.a .bool)], [], []⟩)])] }, rfrz := [], ts := [4] }
noncomputable def e_conciergelaw18_Small (F : Nat) : Env El := envN
noncomputable def M_conciergelaw18_Small_l0 (F : Nat) (v0 : (List (Int × Int × List UInt8 × Int × Int × Int × Int × List UInt8 × Int × Int × Int × List UInt8 × List UInt8 × List UInt8 × List UInt8 × Unit) ×
     Int × Int × Unit)) : Option ((List (Int × Int × List UInt8 × Int × Int × Int × Int × List UInt8 × Int × Int × Int × List UInt8 × List UInt8 × List UInt8 × List UInt8 × Unit) ×
     Int × Int × Unit) ⊕ (Unit ⊕ Bool × Unit)) :=
 if decide (v0.2.2.1 < v0.2.1) = true then
      (idx v0.1 v0.2.2.1).bind fun v1 =>
       (if decide (100 < (↑v1.2.2.1.length : Int)) = false then
          some ((), v0.1, v0.2.1, v0.2.2.1, decide (100 < (↑v1.2.2.2.2.2.2.2.1.length : Int)), v1.2, ())
         else some ((), v0.1, v0.2.1, v0.2.2.1, true, v1.2, ())).bind
        fun v2 =>
        (if v2.2.2.2.2.1 = false then
           some ((), v2.2.1, v2.2.2.1, v2.2.2.2.1, decide (100 < (↑v2.2.2.2.2.2.1.2.2.2.2.2.2.2.2.2.2.1.length : Int)), v2.2.2.2.2.2.1, ())
          else some ((), v2.2.1, v2.2.2.1, v2.2.2.2.1, true, v2.2.2.2.2.2.1, ())).bind
         fun v3 =>
         (if v3.2.2.2.2.1 = false then
            some ((), v3.2.1, v3.2.2.1, v3.2.2.2.1, decide (100 < (↑v3.2.2.2.2.2.1.2.2.2.2.2.2.2.2.2.2.2.1.length : Int)), v3.2.2.2.2.2.1, ())
           else some ((), v3.2.1, v3.2.2.1, v3.2.2.2.1, true, v3.2.2.2.2.2.1, ())).bind
          fun v4 =>
          (if v4.2.2.2.2.1 = false then
             some ((), v4.2.1, v4.2.2.1, v4.2.2.2.1, decide (100 < (↑v4.2.2.2.2.2.1.2.2.2.2.2.2.2.2.2.2.2.2.1.length : Int)), v4.2.2.2.2.2.1, ())
            else some ((), v4.2.1, v4.2.2.1, v4.2.2.2.1, true, v4.2.2.2.2.2.1, ())).bind
           fun v5 =>
           (if v5.2.2.2.2.1 = false then
              some (v5.2.1, v5.2.2.1, v5.2.2.2.1, decide (100 < (↑v5.2.2.2.2.2.1.2.2.2.2.2.2.2.2.2.2.2.2.2.1.length : Int)), ())
             else some (v5.2.1, v5.2.2.1, v5.2.2.2.1, true, ())).bind
            fun v6 =>
            if v6.2.2.2.1 = true then some (Sum.inr (Sum.inr (false, ()))) else some (Sum.inl (v6.1, v6.2.1, IntKind.i64.wrap (v6.2.2.1 + 1), ()))
     else some (Sum.inr (Sum.inl ()))
noncomputable def M_conciergelaw18_Small (F : Nat) (x : (List (El .rd)) × (Int)) : Option (Bool) :=
 if decide (x.2 < (↑x.1.length : Int)) = true then some false
 else
  (loopM (M_conciergelaw18_Small_l0 F)
     F (x.1, (↑x.1.length : Int), 0, ())).bind
   fun v7 => sumC v7 (fun v8 => some true) fun v9 => some v9.1
theorem t_conciergelaw18_Small (x : (List (El .rd)) × (Int)) (F : Nat) : fnRun TT Tryz.prog (e_conciergelaw18_Small F) s_conciergelaw18_Small (bodyOf 50) F x = M_conciergelaw18_Small F x := by kernel_rfl
theorem c_conciergelaw18_Small (F : Nat) : Ctr TT Tryz.prog 50 (conOf TT s_conciergelaw18_Small (M_conciergelaw18_Small F)) :=
 ctr_of (code := bodyOf 50) Tryz.func50 (by kernel_rfl) (by kernel_rfl) (by kernel_rfl) (by kernel_rfl) envN_ok hm (by kernel_rfl) (fun x r h => ⟨F, (t_conciergelaw18_Small x F).trans h⟩)
noncomputable def s_conciergelaw22_awake : Spec Kd := { params := [], ret := (.one (.a .bool)), pins := [], pl := { nt := 16, cuts := [(1, [(8, ⟨[.tmp 8 (.a .bool)], [320], []⟩), (3, ⟨[.tmp 11 (.a .bool)], [320], []⟩), (4, ⟨[.tmp 15 (.a .bool)], [320], []⟩)])] }, rfrz := [], ts := [0] }
noncomputable def e_conciergelaw22_awake (F : Nat) : Env El := (envS 46 (conOf TT s_phrase_Check (M_phrase_Check F)) (envS 48 (conOf TT s_phrase_Name (M_phrase_Name F)) (envS 44 (conOf TT s_phrase_Gaps (M_phrase_Gaps F)) (envS 51 (conOf TT s_phrase_Fill (M_phrase_Fill F)) envN))))
noncomputable def M_conciergelaw22_awake (F : Nat) (x : Unit) : Option (Bool) :=
 ((M_phrase_Fill F
      ([112, 97, 105, 100, 32, 37, 123, 115, 117, 109, 125, 32, 102, 111, 114, 32, 37, 107], 0, [107, 49], 0, 0, 0, 0, [], 0, 0, 0, [], [], [],
        [123, 34, 115, 117, 109, 34, 58, 53, 125], ())).bind
    fun (v0 : List UInt8) =>
    if decide (v0 = [112, 97, 105, 100, 32, 53, 32, 102, 111, 114, 32, 107, 49]) = true then
     (M_phrase_Gaps F [37, 98, 37, 37]).bind fun (v1 : List (List UInt8)) => some (decide ((↑v1.length : Int) = 2), ())
    else some (false, ())).bind
  fun (v2 : Bool × Unit) =>
  (if v2.1 = true then (M_phrase_Name F [115, 117, 109]).bind fun (v3 : Bool) => some (v3, ()) else some (false, ())).bind fun (v4 : Bool × Unit) =>
   (if v4.1 = true then (M_phrase_Check F [37]).bind fun (v5 : Bool) => some (!v5, ()) else some (false, ())).bind fun (v6 : Bool × Unit) => some v6.1
theorem t_conciergelaw22_awake (x : Unit) (F : Nat) : fnRun TT Tryz.prog (e_conciergelaw22_awake F) s_conciergelaw22_awake (bodyOf 43) F x = M_conciergelaw22_awake F x := by kernel_rfl
theorem c_conciergelaw22_awake (F : Nat) : Ctr TT Tryz.prog 43 (conOf TT s_conciergelaw22_awake (M_conciergelaw22_awake F)) :=
 ctr_of (code := bodyOf 43) Tryz.func43 (by kernel_rfl) (by kernel_rfl) (by kernel_rfl) (by kernel_rfl) (envS_ok (envS_ok (envS_ok (envS_ok envN_ok (c_phrase_Fill F)) (c_phrase_Gaps F)) (c_phrase_Name F)) (c_phrase_Check F)) hm (by kernel_rfl) (fun x r h => ⟨F, (t_conciergelaw22_awake x F).trans h⟩)
noncomputable def s_conciergelaw22_PhraseFills : Spec Kd := { params := [(.a .str), (.agg [(.int .i64), .str, (.int .i64), (.int .i64), (.int .i64), (.int .i64), .str, (.int .i64), (.int .i64), (.int .i64), .str, .str, .str, .str])], ret := (.one (.a .bool)), pins := [], pl := { nt := 34, cuts := [(6, [(13, ⟨[.tmp 33 (.a .bool)], [], []⟩)]), (3, [(10, ⟨[.tmp 0 (.a .str), .tmp 3 (.a (.ptr 192 0)), .tmp 17 (.a .bool), .box 192 (.cells 66 [(.int .i64), .str, (.int .i64), (.int .i64), (.int .i64), (.int .i64), .str, (.int .i64), (.int .i64), (.int .i64), .str, .str, .str, .str])], [], []⟩)])] }, rfrz := [], ts := [4] }
noncomputable def e_conciergelaw22_PhraseFills (F : Nat) : Env El := (envS 53 (conOf TT s_conciergeref04_Right (M_conciergeref04_Right F)) (envS 52 (conOf TT s_conciergeref22_Fill (M_conciergeref22_Fill F)) (envS 51 (conOf TT s_phrase_Fill (M_phrase_Fill F)) (envS 50 (conOf TT s_conciergelaw18_Small (M_conciergelaw18_Small F)) (envS 43 (conOf TT s_conciergelaw22_awake (M_conciergelaw22_awake F)) envN)))))
noncomputable def M_conciergelaw22_PhraseFills (F : Nat) (x : (List UInt8) × ((Int) × (List UInt8) × (Int) × (Int) × (Int) × (Int) × (List UInt8) × (Int) × (Int) × (Int) × (List UInt8) × (List UInt8) × (List UInt8) × (List UInt8) × Unit)) : Option (Bool) :=
 (M_conciergelaw22_awake F ()).bind fun (v0 : Bool) =>
  if (!v0) = true then some false
  else
   (if decide (100 < (↑x.1.length : Int)) = false then (M_conciergelaw18_Small F ([(0, x.2)], 1)).bind fun (v1 : Bool) => some (x.1, (), !v1, x.2, ())
     else some (x.1, (), true, x.2, ())).bind
    fun
     (v2 :
      List UInt8 ×
       Unit ×
        Bool ×
         (Int × List UInt8 × Int × Int × Int × Int × List UInt8 × Int × Int × Int × List UInt8 × List UInt8 × List UInt8 × List UInt8 × Unit) ×
          Unit) =>
    if v2.2.2.1 = true then some true
    else
     (M_phrase_Fill F (v2.1, v2.2.2.2.1)).bind fun (v3 : List UInt8) =>
      ((M_conciergeref22_Fill F (v2.1, v2.2.2.2.1)).bind fun (v4 : List UInt8) =>
         if decide (v3 = v4) = true then
          if decide (v3 = []) = false then (M_conciergeref04_Right F (v3, 40)).bind fun (v5 : Bool) => some (v5, ()) else some (true, ())
         else some (false, ())).bind
       fun (v6 : Bool × Unit) => some v6.1
theorem t_conciergelaw22_PhraseFills (x : (List UInt8) × ((Int) × (List UInt8) × (Int) × (Int) × (Int) × (Int) × (List UInt8) × (Int) × (Int) × (Int) × (List UInt8) × (List UInt8) × (List UInt8) × (List UInt8) × Unit)) (F : Nat) : fnRun TT Tryz.prog (e_conciergelaw22_PhraseFills F) s_conciergelaw22_PhraseFills (bodyOf 12) F x = M_conciergelaw22_PhraseFills F x := by kernel_rfl
theorem c_conciergelaw22_PhraseFills (F : Nat) : Ctr TT Tryz.prog 12 (conOf TT s_conciergelaw22_PhraseFills (M_conciergelaw22_PhraseFills F)) :=
 ctr_of (code := bodyOf 12) Tryz.func12 (by kernel_rfl) (by kernel_rfl) (by kernel_rfl) (by kernel_rfl) (envS_ok (envS_ok (envS_ok (envS_ok (envS_ok envN_ok (c_conciergelaw22_awake F)) (c_conciergelaw18_Small F)) (c_phrase_Fill F)) (c_conciergeref22_Fill F)) (c_conciergeref04_Right F)) hm (by kernel_rfl) (fun x r h => ⟨F, (t_conciergelaw22_PhraseFills x F).trans h⟩)
end Go.Vm
