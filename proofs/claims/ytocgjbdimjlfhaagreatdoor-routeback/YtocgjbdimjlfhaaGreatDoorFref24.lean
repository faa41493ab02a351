/- Models of functions of the program, and that each keeps its contract: for all arguments of its shape. No condition. -/
import Derived.Test.YtocgjbdimjlfhaaGreatDoorKt
import Derived.Test.YtocgjbdimjlfhaaGreatDoorFref23
import Derived.Test.YtocgjbdimjlfhaaGreatDoorFref5
namespace Go.Vm
open Go.Proofs
set_option linter.unusedVariables false
noncomputable def s_conciergeref24_Parts : Spec Kd := { params := [(.a .str)], ret := (.one (.a (.row 9 .str))), pins := [], pl := { nt := 35, orc := { rv := [2, 3, 8, 25, 31, 34], gv := [] }, bjoins := [(1, (.norm, ⟨[.tmp 0 (.a .str), .tmp 3 (.a (.rowp 192)), .tmp 4 (.a (.int .i64)), .tmp 5 (.a (.int .i64)), .box 192 (.row 9 .str)], [], [.tmpRow 3 192 9 .str]⟩), [])], loops := [(0, ⟨[.tmp 0 (.a .str), .tmp 3 (.a (.rowp 192)), .tmp 4 (.a (.int .i64)), .tmp 5 (.a (.int .i64)), .box 192 (.row 9 .str)], [], [.tmpRow 3 192 9 .str]⟩, (.exit 0, ⟨[.tmp 3 (.a (.rowp 192)), .box 192 (.row 9 .str)], [], [.tmpRow 3 192 9 .str]⟩), [])], cuts := [(8, [(10, ⟨[.tmp 0 (.a .str), .tmp 3 (.a (.rowp 192)), .tmp 4 (.a (.int .i64)), .tmp 5 (.a (.int .i64)), .tmp 24 (.a .bool), .box 192 (.row 9 .str)], [], [.tmpRow 3 192 9 .str]⟩)])] }, rfrz := [], ts := [2] }
noncomputable def e_conciergeref24_Parts (F : Nat) : Env El := envN
noncomputable def M_conciergeref24_Parts_l0 (F : Nat) (v0 : (List UInt8 × Unit × Int × Int × List (List UInt8) × Unit)) : Option ((List UInt8 × Unit × Int × Int × List (List UInt8) × Unit) ⊕ (Unit × List (List UInt8) × Unit)) :=
  if decide (v0.2.2.2.1 ≤ (↑v0.1.length : Int)) = true then
            ((if decide (v0.2.2.2.1 = (↑v0.1.length : Int)) = false then
                      (idx v0.1 v0.2.2.2.1).bind fun v1 => some (v0.1, (), v0.2.2.1, v0.2.2.2.1, decide ((↑v1.toNat : Int) = 47), v0.2.2.2.2.1, ())
                    else some (v0.1, (), v0.2.2.1, v0.2.2.2.1, true, v0.2.2.2.2.1, ())).bind
                  fun v2 =>
                  if v2.2.2.2.2.1 = true then
                    (sub v2.1 v2.2.2.1 v2.2.2.2.1).bind fun v3 =>
                      if decide ((v2.2.2.2.2.2.1.length + [v3].length) * 16 ≤ 140737488355328) = true then
                        some (v2.1, (), IntKind.i64.wrap (v2.2.2.2.1 + 1), v2.2.2.2.1, v2.2.2.2.2.2.1 ++ [v3], ())
                      else none
                  else some (v2.1, (), v2.2.2.1, v2.2.2.2.1, v2.2.2.2.2.2.1, ())).bind
              fun v4 => some (Sum.inl (v4.1, (), v4.2.2.1, IntKind.i64.wrap (v4.2.2.2.1 + 1), v4.2.2.2.2.1, ()))
          else some (Sum.inr ((), v0.2.2.2.2.1, ()))
noncomputable def M_conciergeref24_Parts (F : Nat) (x : (List UInt8)) : Option (List (El .str)) :=
  if decide (x = [47]) = true then some []
  else
    (loopM (M_conciergeref24_Parts_l0 F)
          F (x, (), 1, 1, [], ())).bind
      fun v5 => some v5.2.1
theorem t_conciergeref24_Parts (x : (List UInt8)) (F : Nat) : fnRun TT Tryz.prog (e_conciergeref24_Parts F) s_conciergeref24_Parts (bodyOf 56) F x = M_conciergeref24_Parts F x := by kernel_rfl
theorem c_conciergeref24_Parts (F : Nat) : Ctr TT Tryz.prog 56 (conOf TT s_conciergeref24_Parts (M_conciergeref24_Parts F)) :=
  ctr_of (code := bodyOf 56) Tryz.func56 (by kernel_rfl) (by kernel_rfl) (by kernel_rfl) (by kernel_rfl) envN_ok hm (by kernel_rfl) (fun x r h => ⟨F, (t_conciergeref24_Parts x F).trans h⟩)
noncomputable def s_conciergeref24_form : Spec Kd := { params := [(.a .str)], ret := (.one (.a .bool)), pins := [], pl := { nt := 16, cuts := [(2, [(6, ⟨[.tmp 15 (.a .bool)], [], []⟩)])] }, rfrz := [], ts := [2] }
noncomputable def e_conciergeref24_form (F : Nat) : Env El := (envS 101 (conOf TT s_conciergeref05_Path (M_conciergeref05_Path F)) envN)
noncomputable def M_conciergeref24_form (F : Nat) (x : (List UInt8)) : Option (Bool) :=
  (M_conciergeref05_Path F x).bind fun v0 => (if v0.2 = true then some (decide (v0.1 = x), ()) else some (false, ())).bind fun v1 => some v1.1
theorem t_conciergeref24_form (x : (List UInt8)) (F : Nat) : fnRun TT Tryz.prog (e_conciergeref24_form F) s_conciergeref24_form (bodyOf 57) F x = M_conciergeref24_form F x := by kernel_rfl
theorem c_conciergeref24_form (F : Nat) : Ctr TT Tryz.prog 57 (conOf TT s_conciergeref24_form (M_conciergeref24_form F)) :=
  ctr_of (code := bodyOf 57) Tryz.func57 (by kernel_rfl) (by kernel_rfl) (by kernel_rfl) (by kernel_rfl) (envS_ok envN_ok (c_conciergeref05_Path F)) hm (by kernel_rfl) (fun x r h => ⟨F, (t_conciergeref24_form x F).trans h⟩)
noncomputable def s_conciergeref24_Pattern : Spec Kd := { params := [(.a .str)], ret := (.one (.a .bool)), pins := [], pl := { nt := 59, bjoins := [(1, (.norm, ⟨[.tmp 3 (.a (.slc .str)), .tmp 4 (.a (.int .i64))], [1216], []⟩), [(.ret, ⟨[.tmp 2 (.a .bool)], [1216], []⟩)])], loops := [(0, ⟨[.tmp 3 (.a (.slc .str)), .tmp 4 (.a (.int .i64))], [1216], []⟩, (.exit 0, ⟨[], [1216], []⟩), [(.ret, ⟨[.tmp 2 (.a .bool)], [1216], []⟩)])], cuts := [(8, [(14, ⟨[.tmp 3 (.a (.slc .str)), .tmp 4 (.a (.int .i64)), .tmp 58 (.a .bool)], [1216], []⟩)]), (7, [(19, ⟨[.tmp 3 (.a (.slc .str)), .tmp 4 (.a (.int .i64)), .tmp 44 (.a .bool)], [1216], []⟩)]), (1, [(8, ⟨[.tmp 0 (.a .str), .tmp 12 (.a .bool)], [1216], []⟩), (5, ⟨[.tmp 0 (.a .str), .tmp 17 (.a .bool)], [1216], []⟩)])] }, rfrz := [], ts := [2] }
noncomputable def e_conciergeref24_Pattern (F : Nat) : Env El := (envS 57 (conOf TT s_conciergeref24_form (M_conciergeref24_form F)) (envS 56 (conOf TT s_conciergeref24_Parts (M_conciergeref24_Parts F)) envN))
noncomputable def M_conciergeref24_Pattern_l0 (F : Nat) (v4 : (List (List UInt8) × Int × Unit)) : Option ((List (List UInt8) × Int × Unit) ⊕ (Unit ⊕ Bool × Unit)) :=
  if decide (v4.2.1 < (↑v4.1.length : Int)) = true then
                  (((idx v4.1 v4.2.1).bind fun v5 =>
                            if decide (v5 = [42]) = false then
                              (idx v4.1 v4.2.1).bind fun v6 =>
                                if decide (v6 = [42, 42]) = true then some (v4.1, v4.2.1, decide (v4.2.1 = IntKind.i64.wrap ((↑v4.1.length : Int) - 1)), ())
                                else some (v4.1, v4.2.1, false, ())
                            else some (v4.1, v4.2.1, true, ())).bind
                        fun v7 =>
                        if v7.2.2.1 = true then some (Sum.inl (v7.1, v7.2.1, ()))
                        else
                          ((idx v7.1 v7.2.1).bind fun v8 =>
                                if decide (v8 = []) = false then
                                  (idx v7.1 v7.2.1).bind fun v9 =>
                                    if decide ([47].length + v9.length ≤ 9223372036854775807) = true then
                                      (M_conciergeref24_form F ([47] ++ v9)).bind fun v10 => some (v7.1, v7.2.1, !v10, ())
                                    else none
                                else some (v7.1, v7.2.1, true, ())).bind
                            fun v11 => if v11.2.2.1 = true then some (Sum.inr (false, ())) else some (Sum.inl (v11.1, v11.2.1, ()))).bind
                    fun v12 => sumC v12 (fun v13 => some (Sum.inl (v13.1, IntKind.i64.wrap (v13.2.1 + 1), ()))) fun v14 => some (Sum.inr (Sum.inr (v14.1, ())))
                else some (Sum.inr (Sum.inl ()))
noncomputable def M_conciergeref24_Pattern (F : Nat) (x : (List UInt8)) : Option (Bool) :=
  (if decide ((↑x.length : Int) < 1) = false then some (x, decide (60 < (↑x.length : Int)), ()) else some (x, true, ())).bind fun v0 =>
    (if v0.2.1 = false then (idx v0.1 0).bind fun v1 => some (v0.1, !decide ((↑v1.toNat : Int) = 47), ()) else some (v0.1, true, ())).bind fun v2 =>
      if v2.2.1 = true then some false
      else
        (M_conciergeref24_Parts F v2.1).bind fun v3 =>
          (loopM (M_conciergeref24_Pattern_l0 F)
                F (v3, 0, ())).bind
            fun v15 => sumC v15 (fun v16 => some true) fun v17 => some v17.1
theorem t_conciergeref24_Pattern (x : (List UInt8)) (F : Nat) : fnRun TT Tryz.prog (e_conciergeref24_Pattern F) s_conciergeref24_Pattern (bodyOf 17) F x = M_conciergeref24_Pattern F x := by kernel_rfl
theorem c_conciergeref24_Pattern (F : Nat) : Ctr TT Tryz.prog 17 (conOf TT s_conciergeref24_Pattern (M_conciergeref24_Pattern F)) :=
  ctr_of (code := bodyOf 17) Tryz.func17 (by kernel_rfl) (by kernel_rfl) (by kernel_rfl) (by kernel_rfl) (envS_ok (envS_ok envN_ok (c_conciergeref24_Parts F)) (c_conciergeref24_form F)) hm (by kernel_rfl) (fun x r h => ⟨F, (t_conciergeref24_Pattern x F).trans h⟩)
noncomputable def s_conciergeref24_Fits : Spec Kd := { params := [(.a .str), (.a .str)], ret := (.one (.a .bool)), pins := [], pl := { nt := 62, loops := [(0, ⟨[.tmp 5 (.a (.slc .str)), .tmp 6 (.a (.slc .str)), .tmp 7 (.a (.int .i64))], [1088, 1216], []⟩, (.exit 0, ⟨[.tmp 5 (.a (.slc .str)), .tmp 6 (.a (.slc .str))], [1088, 1216], []⟩), [(.ret, ⟨[.tmp 4 (.a .bool)], [1088, 1216], []⟩)])], cuts := [(1, [(8, ⟨[.tmp 0 (.a .str), .tmp 1 (.a .str), .tmp 15 (.a .bool)], [1088, 1216], []⟩)])], ends := [(10, ⟨[.tmp 5 (.a (.slc .str)), .tmp 6 (.a (.slc .str)), .tmp 7 (.a (.int .i64)), .tmp 56 (.a .bool)], [1088, 1216], []⟩)] }, rfrz := [], ts := [4] }
noncomputable def e_conciergeref24_Fits (F : Nat) : Env El := (envS 56 (conOf TT s_conciergeref24_Parts (M_conciergeref24_Parts F)) (envS 57 (conOf TT s_conciergeref24_form (M_conciergeref24_form F)) (envS 17 (conOf TT s_conciergeref24_Pattern (M_conciergeref24_Pattern F)) envN)))
noncomputable def M_conciergeref24_Fits_l0 (F : Nat) (v5 : (List (List UInt8) × List (List UInt8) × Int × Unit)) : Option ((List (List UInt8) × List (List UInt8) × Int × Unit) ⊕ (List (List UInt8) × List (List UInt8) × Unit ⊕ Bool × Unit)) :=
  if decide (v5.2.2.1 < (↑v5.1.length : Int)) = true then
                  (idx v5.1 v5.2.2.1).bind fun v6 =>
                    if decide (v6 = [42, 42]) = true then some (Sum.inr (Sum.inr (decide (v5.2.2.1 < (↑v5.2.1.length : Int)), ())))
                    else
                      (if decide ((↑v5.2.1.length : Int) ≤ v5.2.2.1) = false then
                            (idx v5.1 v5.2.2.1).bind fun v7 =>
                              if (!decide (v7 = [42])) = true then
                                (idx v5.1 v5.2.2.1).bind fun v8 => (idx v5.2.1 v5.2.2.1).bind fun v9 => some (v5.1, v5.2.1, v5.2.2.1, !decide (v8 = v9), ())
                              else some (v5.1, v5.2.1, v5.2.2.1, false, ())
                          else some (v5.1, v5.2.1, v5.2.2.1, true, ())).bind
                        fun v10 =>
                        if v10.2.2.2.1 = true then some (Sum.inr (Sum.inr (false, ())))
                        else some (Sum.inl (v10.1, v10.2.1, IntKind.i64.wrap (v10.2.2.1 + 1), ()))
                else some (Sum.inr (Sum.inl (v5.1, v5.2.1, ())))
noncomputable def M_conciergeref24_Fits (F : Nat) (x : (List UInt8) × (List UInt8)) : Option (Bool) :=
  ((M_conciergeref24_Pattern F x.1).bind fun v0 =>
        if (!v0) = false then (M_conciergeref24_form F x.2).bind fun v1 => some (x.1, x.2, !v1, ()) else some (x.1, x.2, true, ())).bind
    fun v2 =>
    if v2.2.2.1 = true then some false
    else
      (M_conciergeref24_Parts F v2.1).bind fun v3 =>
        (M_conciergeref24_Parts F v2.2.1).bind fun v4 =>
          (loopM (M_conciergeref24_Fits_l0 F)
                F (v3, v4, 0, ())).bind
            fun v11 => sumC v11 (fun v12 => some (decide ((↑v12.1.length : Int) = (↑v12.2.1.length : Int)))) fun v13 => some v13.1
theorem t_conciergeref24_Fits (x : (List UInt8) × (List UInt8)) (F : Nat) : fnRun TT Tryz.prog (e_conciergeref24_Fits F) s_conciergeref24_Fits (bodyOf 19) F x = M_conciergeref24_Fits F x := by kernel_rfl
theorem c_conciergeref24_Fits (F : Nat) : Ctr TT Tryz.prog 19 (conOf TT s_conciergeref24_Fits (M_conciergeref24_Fits F)) :=
  ctr_of (code := bodyOf 19) Tryz.func19 (by kernel_rfl) (by kernel_rfl) (by kernel_rfl) (by kernel_rfl) (envS_ok (envS_ok (envS_ok envN_ok (c_conciergeref24_Pattern F)) (c_conciergeref24_form F)) (c_conciergeref24_Parts F)) hm (by kernel_rfl) (fun x r h => ⟨F, (t_conciergeref24_Fits x F).trans h⟩)
noncomputable def s_conciergeref24_method : Spec Kd := { params := [(.a .str)], ret := (.one (.a .bool)), pins := [], pl := { nt := 20, cuts := [(2, [(10, ⟨[.tmp 19 (.a .bool)], [], []⟩)])] }, rfrz := [], ts := [2] }
noncomputable def e_conciergeref24_method (F : Nat) : Env El := (envS 104 (conOf TT s_conciergeref05_Method (M_conciergeref05_Method F)) envN)
noncomputable def M_conciergeref24_method (F : Nat) (x : (List UInt8)) : Option (Bool) :=
  (M_conciergeref05_Method F x).bind fun v0 =>
    (if decide (x = [42]) = false then if v0.2 = true then some (decide (v0.1 = x), ()) else some (false, ()) else some (true, ())).bind fun v1 => some v1.1
theorem t_conciergeref24_method (x : (List UInt8)) (F : Nat) : fnRun TT Tryz.prog (e_conciergeref24_method F) s_conciergeref24_method (bodyOf 61) F x = M_conciergeref24_method F x := by kernel_rfl
theorem c_conciergeref24_method (F : Nat) : Ctr TT Tryz.prog 61 (conOf TT s_conciergeref24_method (M_conciergeref24_method F)) :=
  ctr_of (code := bodyOf 61) Tryz.func61 (by kernel_rfl) (by kernel_rfl) (by kernel_rfl) (by kernel_rfl) (envS_ok envN_ok (c_conciergeref05_Method F)) hm (by kernel_rfl) (fun x r h => ⟨F, (t_conciergeref24_method x F).trans h⟩)
noncomputable def s_conciergeref24_May : Spec Kd := { params := [(.a (.slc .rl))], ret := (.one (.a .bool)), pins := [], pl := { nt := 43, loops := [(0, ⟨[.tmp 0 (.a (.slc .rl)), .tmp 3 (.a (.int .i64))], [], []⟩, (.exit 0, ⟨[.tmp 0 (.a (.slc .rl))], [], []⟩), [(.ret, ⟨[.tmp 2 (.a .bool)], [], []⟩)])], cuts := [(6, [(8, ⟨[.tmp 42 (.a .bool)], [], []⟩)]), (4, [(16, ⟨[.tmp 0 (.a (.slc .rl)), .tmp 3 (.a (.int .i64)), .tmp 25 (.a .bool)], [], []⟩), (9, ⟨[.tmp 0 (.a (.slc .rl)), .tmp 3 (.a (.int .i64)), .tmp 34 (.a .bool)], [], []⟩)])] }, rfrz := [], ts := [2] }
noncomputable def e_conciergeref24_May (F : Nat) : Env El := (envS 62 (conOf TT s_conciergeref23_May (M_conciergeref23_May F)) (envS 17 (conOf TT s_conciergeref24_Pattern (M_conciergeref24_Pattern F)) (envS 61 (conOf TT s_conciergeref24_method (M_conciergeref24_method F)) envN)))
noncomputable def M_conciergeref24_May_l0 (F : Nat) (v0 : (List (List UInt8 × List UInt8 × List (Int × List UInt8 × Int × List UInt8 × Unit) × Unit) × Int × Unit)) : Option ((List (List UInt8 × List UInt8 × List (Int × List UInt8 × Int × List UInt8 × Unit) × Unit) × Int × Unit) ⊕ (List (List UInt8 × List UInt8 × List (Int × List UInt8 × Int × List UInt8 × Unit) × Unit) × Unit ⊕ Bool × Unit)) :=
  if decide (v0.2.1 < (↑v0.1.length : Int)) = true then
          ((idx v0.1 v0.2.1).bind fun (v1 : List UInt8 × List UInt8 × List (Int × List UInt8 × Int × List UInt8 × Unit) × Unit) =>
                (M_conciergeref24_method F v1.1).bind fun (v2 : Bool) =>
                  if (!v2) = false then
                    (idx v0.1 v0.2.1).bind fun (v3 : List UInt8 × List UInt8 × List (Int × List UInt8 × Int × List UInt8 × Unit) × Unit) =>
                      (M_conciergeref24_Pattern F v3.2.1).bind fun (v4 : Bool) => some (v0.1, v0.2.1, !v4, ())
                  else some (v0.1, v0.2.1, true, ())).bind
            fun (v5 : List (List UInt8 × List UInt8 × List (Int × List UInt8 × Int × List UInt8 × Unit) × Unit) × Int × Bool × Unit) =>
            (if v5.2.2.1 = false then
                  (idx v5.1 v5.2.1).bind fun (v6 : List UInt8 × List UInt8 × List (Int × List UInt8 × Int × List UInt8 × Unit) × Unit) =>
                    (M_conciergeref23_May F v6.2.2.1).bind fun (v7 : Bool) => some (v5.1, v5.2.1, !v7, ())
                else some (v5.1, v5.2.1, true, ())).bind
              fun (v8 : List (List UInt8 × List UInt8 × List (Int × List UInt8 × Int × List UInt8 × Unit) × Unit) × Int × Bool × Unit) =>
              if v8.2.2.1 = true then some (Sum.inr (Sum.inr (false, ()))) else some (Sum.inl (v8.1, IntKind.i64.wrap (v8.2.1 + 1), ()))
        else some (Sum.inr (Sum.inl (v0.1, ())))
noncomputable def M_conciergeref24_May (F : Nat) (x : (List (El .rl))) : Option (Bool) :=
  (loopM (M_conciergeref24_May_l0 F)
        F (x, 0, ())).bind
    fun (v9 : List (List UInt8 × List UInt8 × List (Int × List UInt8 × Int × List UInt8 × Unit) × Unit) × Unit ⊕ Bool × Unit) =>
    sumC v9
      (fun (v10 : List (List UInt8 × List UInt8 × List (Int × List UInt8 × Int × List UInt8 × Unit) × Unit) × Unit) =>
        (if decide (1 ≤ (↑v10.1.length : Int)) = true then some (decide ((↑v10.1.length : Int) ≤ 8), ()) else some (false, ())).bind fun (v11 : Bool × Unit) =>
          some v11.1)
      fun (v12 : Bool × Unit) => some v12.1
theorem t_conciergeref24_May (x : (List (El .rl))) (F : Nat) : fnRun TT Tryz.prog (e_conciergeref24_May F) s_conciergeref24_May (bodyOf 22) F x = M_conciergeref24_May F x := by kernel_rfl
theorem c_conciergeref24_May (F : Nat) : Ctr TT Tryz.prog 22 (conOf TT s_conciergeref24_May (M_conciergeref24_May F)) :=
  ctr_of (code := bodyOf 22) Tryz.func22 (by kernel_rfl) (by kernel_rfl) (by kernel_rfl) (by kernel_rfl) (envS_ok (envS_ok (envS_ok envN_ok (c_conciergeref24_method F)) (c_conciergeref24_Pattern F)) (c_conciergeref23_May F)) hm (by kernel_rfl) (fun x r h => ⟨F, (t_conciergeref24_May x F).trans h⟩)
noncomputable def s_conciergeref24_Print : Spec Kd := { params := [(.a (.slc .rl))], ret := (.one (.a .str)), pins := [], pl := { nt := 38, joins := [(700012, (.norm, ⟨[.tmp 0 (.a (.slc .rl)), .tmp 3 (.a .str), .tmp 4 (.a (.int .i64))], [], []⟩), [])], loops := [(0, ⟨[.tmp 0 (.a (.slc .rl)), .tmp 3 (.a .str), .tmp 4 (.a (.int .i64))], [], []⟩, (.exit 0, ⟨[.tmp 3 (.a .str)], [], []⟩), [])] }, rfrz := [], ts := [2] }
noncomputable def e_conciergeref24_Print (F : Nat) : Env El := (envS 68 (conOf TT s_conciergeref23_Print (M_conciergeref23_Print F)) envN)
noncomputable def M_conciergeref24_Print_l0 (F : Nat) (v0 : (List (List UInt8 × List UInt8 × List (Int × List UInt8 × Int × List UInt8 × Unit) × Unit) × List UInt8 × Int × Unit)) : Option ((List (List UInt8 × List UInt8 × List (Int × List UInt8 × Int × List UInt8 × Unit) × Unit) × List UInt8 × Int × Unit) ⊕ (List UInt8 × Unit)) :=
  if decide (v0.2.2.1 < (↑v0.1.length : Int)) = true then
          (if decide (0 < v0.2.2.1) = true then
                if decide (v0.2.1.length + [10].length ≤ 9223372036854775807) = true then some (v0.1, v0.2.1 ++ [10], v0.2.2.1, ()) else none
              else some (v0.1, v0.2.1, v0.2.2.1, ())).bind
            fun (v1 : List (List UInt8 × List UInt8 × List (Int × List UInt8 × Int × List UInt8 × Unit) × Unit) × List UInt8 × Int × Unit) =>
            (idx v1.1 v1.2.2.1).bind fun (v2 : List UInt8 × List UInt8 × List (Int × List UInt8 × Int × List UInt8 × Unit) × Unit) =>
              if decide (v1.2.1.length + v2.1.length ≤ 9223372036854775807) = true then
                if decide ((v1.2.1 ++ v2.1).length + [32].length ≤ 9223372036854775807) = true then
                  (idx v1.1 v1.2.2.1).bind fun (v3 : List UInt8 × List UInt8 × List (Int × List UInt8 × Int × List UInt8 × Unit) × Unit) =>
                    if decide ((v1.2.1 ++ v2.1 ++ [32]).length + v3.2.1.length ≤ 9223372036854775807) = true then
                      if decide ((v1.2.1 ++ v2.1 ++ [32] ++ v3.2.1).length + [58, 32].length ≤ 9223372036854775807) = true then
                        (idx v1.1 v1.2.2.1).bind fun (v4 : List UInt8 × List UInt8 × List (Int × List UInt8 × Int × List UInt8 × Unit) × Unit) =>
                          (M_conciergeref23_Print F v4.2.2.1).bind fun (v5 : List UInt8) =>
                            if decide ((v1.2.1 ++ v2.1 ++ [32] ++ v3.2.1 ++ [58, 32]).length + v5.length ≤ 9223372036854775807) = true then
                              some (Sum.inl (v1.1, v1.2.1 ++ v2.1 ++ [32] ++ v3.2.1 ++ [58, 32] ++ v5, IntKind.i64.wrap (v1.2.2.1 + 1), ()))
                            else none
                      else none
                    else none
                else none
              else none
        else some (Sum.inr (v0.2.1, ()))
noncomputable def M_conciergeref24_Print (F : Nat) (x : (List (El .rl))) : Option (List UInt8) :=
  (loopM (M_conciergeref24_Print_l0 F)
        F (x, [], 0, ())).bind
    fun (v6 : List UInt8 × Unit) => some v6.1
theorem t_conciergeref24_Print (x : (List (El .rl))) (F : Nat) : fnRun TT Tryz.prog (e_conciergeref24_Print F) s_conciergeref24_Print (bodyOf 25) F x = M_conciergeref24_Print F x := by kernel_rfl
theorem c_conciergeref24_Print (F : Nat) : Ctr TT Tryz.prog 25 (conOf TT s_conciergeref24_Print (M_conciergeref24_Print F)) :=
  ctr_of (code := bodyOf 25) Tryz.func25 (by kernel_rfl) (by kernel_rfl) (by kernel_rfl) (by kernel_rfl) (envS_ok envN_ok (c_conciergeref23_Print F)) hm (by kernel_rfl) (fun x r h => ⟨F, (t_conciergeref24_Print x F).trans h⟩)
noncomputable def s_conciergeref24_upto : Spec Kd := { params := [(.a .str), (.a (.int .u8))], ret := (.tup [(.a .str), (.a .str), (.a .bool)]), pins := [], pl := { nt := 27, loops := [(0, ⟨[.tmp 0 (.a .str), .tmp 1 (.a (.int .u8)), .tmp 7 (.a (.int .i64))], [], []⟩, (.exit 0, ⟨[.tmp 0 (.a .str)], [], []⟩), [(.ret, ⟨[.tmp 4 (.a .str), .tmp 5 (.a .str), .tmp 6 (.a .bool)], [], []⟩)])], ends := [(5, ⟨[.tmp 4 (.a .str), .tmp 5 (.a .str), .tmp 6 (.a .bool)], [], []⟩)] }, rfrz := [], ts := [4, 5, 6] }
noncomputable def e_conciergeref24_upto (F : Nat) : Env El := envN
noncomputable def M_conciergeref24_upto_l0 (F : Nat) (v0 : (List UInt8 × Int × Int × Unit)) : Option ((List UInt8 × Int × Int × Unit) ⊕ (List UInt8 × Unit ⊕ List UInt8 × List UInt8 × Bool × Unit)) :=
  if decide (v0.2.2.1 < (↑v0.1.length : Int)) = true then
          (idx v0.1 v0.2.2.1).bind fun v1 =>
            if decide ((↑v1.toNat : Int) = v0.2.1) = true then
              ((sub v0.1 0 v0.2.2.1).bind fun v2 =>
                    (sub v0.1 (IntKind.i64.wrap (v0.2.2.1 + 1)) (↑v0.1.length : Int)).bind fun v3 => some (v2, v3, true, ())).bind
                fun v4 => some (Sum.inr (Sum.inr (v4.1, v4.2.1, v4.2.2.1, ())))
            else some (Sum.inl (v0.1, v0.2.1, IntKind.i64.wrap (v0.2.2.1 + 1), ()))
        else some (Sum.inr (Sum.inl (v0.1, ())))
noncomputable def M_conciergeref24_upto (F : Nat) (x : (List UInt8) × (Int)) : Option ((List UInt8) × (List UInt8) × (Bool)) :=
  (loopM (M_conciergeref24_upto_l0 F)
        F (x.1, x.2, 0, ())).bind
    fun v5 => sumC v5 (fun v6 => some (v6.1, [], false)) fun v7 => some (v7.1, v7.2.1, v7.2.2.1)
theorem t_conciergeref24_upto (x : (List UInt8) × (Int)) (F : Nat) : fnRun TT Tryz.prog (e_conciergeref24_upto F) s_conciergeref24_upto (bodyOf 69) F x = M_conciergeref24_upto F x := by kernel_rfl
theorem c_conciergeref24_upto (F : Nat) : Ctr TT Tryz.prog 69 (conOf TT s_conciergeref24_upto (M_conciergeref24_upto F)) :=
  ctr_of (code := bodyOf 69) Tryz.func69 (by kernel_rfl) (by kernel_rfl) (by kernel_rfl) (by kernel_rfl) envN_ok hm (by kernel_rfl) (fun x r h => ⟨F, (t_conciergeref24_upto x F).trans h⟩)
noncomputable def s_conciergeref24_Parse : Spec Kd := { params := [(.a .str)], ret := (.tup [(.a (.row 41 .rl)), (.a .bool)]), pins := [], pl := { nt := 74, orc := { rv := [2, 4, 57, 63, 73], gv := [] }, loops := [(0, ⟨[.tmp 0 (.a .str), .tmp 4 (.a (.rowp 256)), .tmp 5 (.a .str), .tmp 6 (.a .bool), .box 256 (.row 41 .rl)], [3329], [.tmpRow 4 256 41 .rl]⟩, (.exit 0, ⟨[.tmp 0 (.a .str), .tmp 4 (.a (.rowp 256)), .box 256 (.row 41 .rl)], [3329], [.tmpRow 4 256 41 .rl]⟩), [(.ret, ⟨[.tmp 2 (.a (.rowp 128)), .tmp 3 (.a .bool), .box 128 (.row 41 .rl)], [3329], [.tmpRow 2 128 41 .rl]⟩)])], cuts := [(15, [(9, ⟨[.tmp 4 (.a (.rowp 256)), .tmp 72 (.a .bool), .box 256 (.row 41 .rl)], [3329], [.tmpRow 4 256 41 .rl]⟩)]), (9, [(6, ⟨[.tmp 0 (.a .str), .tmp 4 (.a (.rowp 256)), .tmp 5 (.a .str), .tmp 6 (.a .bool), .tmp 7 (.a .str), .tmp 8 (.a .str), .tmp 10 (.a .str), .tmp 44 (.a .bool), .box 256 (.row 41 .rl)], [3329], [.tmpRow 4 256 41 .rl]⟩), (4, ⟨[.tmp 0 (.a .str), .tmp 4 (.a (.rowp 256)), .tmp 5 (.a .str), .tmp 6 (.a .bool), .tmp 7 (.a .str), .tmp 8 (.a .str), .tmp 10 (.a .str), .tmp 48 (.a .bool), .box 256 (.row 41 .rl)], [3329], [.tmpRow 4 256 41 .rl]⟩)]), (4, [(6, ⟨[.tmp 0 (.a .str), .tmp 4 (.a (.rowp 256)), .tmp 5 (.a .str), .tmp 20 (.a .bool), .box 256 (.row 41 .rl)], [3329], [.tmpRow 4 256 41 .rl]⟩)])], frz := [(14, [3329])] }, rfrz := [], ts := [2, 3] }
noncomputable def e_conciergeref24_Parse (F : Nat) : Env El := (envS 25 (conOf TT s_conciergeref24_Print (M_conciergeref24_Print F)) (envS 22 (conOf TT s_conciergeref24_May (M_conciergeref24_May F)) (envS 70 (conOf TT s_conciergeref23_Parse (M_conciergeref23_Parse F)) (envS 69 (conOf TT s_conciergeref24_upto (M_conciergeref24_upto F)) envN))))
noncomputable def M_conciergeref24_Parse_l0 (F : Nat) (v0 : (List UInt8 × Unit × List UInt8 × Bool × List (List UInt8 × List UInt8 × List (Int × List UInt8 × Int × List UInt8 × Unit) × Unit) × Unit)) : Option ((List UInt8 × Unit × List UInt8 × Bool × List (List UInt8 × List UInt8 × List (Int × List UInt8 × Int × List UInt8 × Unit) × Unit) × Unit) ⊕ (List UInt8 × Unit × List (List UInt8 × List UInt8 × List (Int × List UInt8 × Int × List UInt8 × Unit) × Unit) × Unit ⊕
        Unit × Bool × List (List UInt8 × List UInt8 × List (Int × List UInt8 × Int × List UInt8 × Unit) × Unit) × Unit)) :=
  (if v0.2.2.2.1 = true then some (v0.1, (), v0.2.2.1, decide ((↑v0.2.2.2.2.1.length : Int) < 9), v0.2.2.2.2.1, ())
            else some (v0.1, (), v0.2.2.1, false, v0.2.2.2.2.1, ())).bind
          fun
            (v1 :
              List UInt8 × Unit × List UInt8 × Bool × List (List UInt8 × List UInt8 × List (Int × List UInt8 × Int × List UInt8 × Unit) × Unit) × Unit) =>
          if v1.2.2.2.1 = true then
            (M_conciergeref24_upto F (v1.2.2.1, 10)).bind fun (v2 : List UInt8 × List UInt8 × Bool) =>
              (M_conciergeref24_upto F (v2.1, 32)).bind fun (v3 : List UInt8 × List UInt8 × Bool) =>
                (M_conciergeref24_upto F (v3.2.1, 58)).bind fun (v4 : List UInt8 × List UInt8 × Bool) =>
                  (if (!v3.2.2) = false then some (v1.1, (), v2.2.1, v2.2.2, v4.2.1, v3.1, v4.1, !v4.2.2, v1.2.2.2.2.1, ())
                      else some (v1.1, (), v2.2.1, v2.2.2, v4.2.1, v3.1, v4.1, true, v1.2.2.2.2.1, ())).bind
                    fun
                      (v5 :
                        List UInt8 ×
                          Unit ×
                            List UInt8 ×
                              Bool ×
                                List UInt8 ×
                                  List UInt8 ×
                                    List UInt8 × Bool × List (List UInt8 × List UInt8 × List (Int × List UInt8 × Int × List UInt8 × Unit) × Unit) × Unit) =>
                    (if v5.2.2.2.2.2.2.2.1 = false then
                          some
                            (v5.1, (), v5.2.2.1, v5.2.2.2.1, v5.2.2.2.2.1, v5.2.2.2.2.2.1, v5.2.2.2.2.2.2.1, decide (v5.2.2.2.2.1 = []), v5.2.2.2.2.2.2.2.2.1,
                              ())
                        else some (v5.1, (), v5.2.2.1, v5.2.2.2.1, v5.2.2.2.2.1, v5.2.2.2.2.2.1, v5.2.2.2.2.2.2.1, true, v5.2.2.2.2.2.2.2.2.1, ())).bind
                      fun
                        (v6 :
                          List UInt8 ×
                            Unit ×
                              List UInt8 ×
                                Bool ×
                                  List UInt8 ×
                                    List UInt8 ×
                                      List UInt8 ×
                                        Bool × List (List UInt8 × List UInt8 × List (Int × List UInt8 × Int × List UInt8 × Unit) × Unit) × Unit) =>
                      if v6.2.2.2.2.2.2.2.1 = true then some (Sum.inr (Sum.inr ((), false, [], ())))
                      else
                        (sub v6.2.2.2.2.1 1 (↑v6.2.2.2.2.1.length : Int)).bind fun (v7 : List UInt8) =>
                          (M_conciergeref23_Parse F v7).bind fun (v8 : List (Int × List UInt8 × Int × List UInt8 × Unit) × Bool) =>
                            if (!v8.2) = true then some (Sum.inr (Sum.inr ((), false, [], ())))
                            else
                              if
                                  decide
                                      ((v6.2.2.2.2.2.2.2.2.1.length + [(v6.2.2.2.2.2.1, v6.2.2.2.2.2.2.1, v8.1, Unit.unit)].length) * 56 ≤ 140737488355328) =
                                    true then
                                some
                                  (Sum.inl (v6.1, (), v6.2.2.1, v6.2.2.2.1, v6.2.2.2.2.2.2.2.2.1 ++ [(v6.2.2.2.2.2.1, v6.2.2.2.2.2.2.1, v8.1, Unit.unit)], ()))
                              else none
          else some (Sum.inr (Sum.inl (v1.1, (), v1.2.2.2.2.1, ())))
noncomputable def M_conciergeref24_Parse (F : Nat) (x : (List UInt8)) : Option ((List (El .rl)) × (Bool)) :=
  (loopM (M_conciergeref24_Parse_l0 F)
        F (x, (), x, true, [], ())).bind
    fun
      (v9 :
        List UInt8 × Unit × List (List UInt8 × List UInt8 × List (Int × List UInt8 × Int × List UInt8 × Unit) × Unit) × Unit ⊕
          Unit × Bool × List (List UInt8 × List UInt8 × List (Int × List UInt8 × Int × List UInt8 × Unit) × Unit) × Unit) =>
    sumC v9
      (fun (v10 : List UInt8 × Unit × List (List UInt8 × List UInt8 × List (Int × List UInt8 × Int × List UInt8 × Unit) × Unit) × Unit) =>
        ((M_conciergeref24_May F v10.2.2.1).bind fun (v11 : Bool) =>
              if (!v11) = false then (M_conciergeref24_Print F v10.2.2.1).bind fun (v12 : List UInt8) => some ((), !decide (v12 = v10.1), v10.2.2.1, ())
              else some ((), true, v10.2.2.1, ())).bind
          fun (v13 : Unit × Bool × List (List UInt8 × List UInt8 × List (Int × List UInt8 × Int × List UInt8 × Unit) × Unit) × Unit) =>
          if v13.2.1 = true then some ([], false) else some (v13.2.2.1, true))
      fun (v14 : Unit × Bool × List (List UInt8 × List UInt8 × List (Int × List UInt8 × Int × List UInt8 × Unit) × Unit) × Unit) => some (v14.2.2.1, v14.2.1)
theorem t_conciergeref24_Parse (x : (List UInt8)) (F : Nat) : fnRun TT Tryz.prog (e_conciergeref24_Parse F) s_conciergeref24_Parse (bodyOf 27) F x = M_conciergeref24_Parse F x := by kernel_rfl
theorem c_conciergeref24_Parse (F : Nat) : Ctr TT Tryz.prog 27 (conOf TT s_conciergeref24_Parse (M_conciergeref24_Parse F)) :=
  ctr_of (code := bodyOf 27) Tryz.func27 (by kernel_rfl) (by kernel_rfl) (by kernel_rfl) (by kernel_rfl) (envS_ok (envS_ok (envS_ok (envS_ok envN_ok (c_conciergeref24_upto F)) (c_conciergeref23_Parse F)) (c_conciergeref24_May F)) (c_conciergeref24_Print F)) hm (by kernel_rfl) (fun x r h => ⟨F, (t_conciergeref24_Parse x F).trans h⟩)
noncomputable def s_conciergeref24_Find : Spec Kd := { params := [(.a (.slc .rl)), (.a .str), (.a .str)], ret := (.one (.a (.int .i64))), pins := [], pl := { nt := 39, loops := [(0, ⟨[.tmp 0 (.a (.slc .rl)), .tmp 1 (.a .str), .tmp 2 (.a .str), .tmp 7 (.a (.int .i64))], [], []⟩, (.exit 0, ⟨[], [], []⟩), [(.ret, ⟨[.tmp 6 (.a (.int .i64))], [], []⟩)])], cuts := [(4, [(15, ⟨[.tmp 0 (.a (.slc .rl)), .tmp 1 (.a .str), .tmp 2 (.a .str), .tmp 7 (.a (.int .i64)), .tmp 28 (.a .bool)], [], []⟩), (9, ⟨[.tmp 0 (.a (.slc .rl)), .tmp 1 (.a .str), .tmp 2 (.a .str), .tmp 7 (.a (.int .i64)), .tmp 37 (.a .bool)], [], []⟩)])] }, rfrz := [], ts := [6] }
noncomputable def e_conciergeref24_Find (F : Nat) : Env El := (envS 19 (conOf TT s_conciergeref24_Fits (M_conciergeref24_Fits F)) envN)
noncomputable def M_conciergeref24_Find_l0 (F : Nat) (v0 : (List (List UInt8 × List UInt8 × List (Int × List UInt8 × Int × List UInt8 × Unit) × Unit) × List UInt8 × List UInt8 × Int × Unit)) : Option ((List (List UInt8 × List UInt8 × List (Int × List UInt8 × Int × List UInt8 × Unit) × Unit) × List UInt8 × List UInt8 × Int × Unit) ⊕ (Unit ⊕ Int × Unit)) :=
  if decide (v0.2.2.2.1 < (↑v0.1.length : Int)) = true then
          ((idx v0.1 v0.2.2.2.1).bind fun (v1 : List UInt8 × List UInt8 × List (Int × List UInt8 × Int × List UInt8 × Unit) × Unit) =>
                if decide (v1.1 = v0.2.1) = false then
                  (idx v0.1 v0.2.2.2.1).bind fun (v2 : List UInt8 × List UInt8 × List (Int × List UInt8 × Int × List UInt8 × Unit) × Unit) =>
                    some (v0.1, v0.2.1, v0.2.2.1, v0.2.2.2.1, decide (v2.1 = [42]), ())
                else some (v0.1, v0.2.1, v0.2.2.1, v0.2.2.2.1, true, ())).bind
            fun
              (v3 :
                List (List UInt8 × List UInt8 × List (Int × List UInt8 × Int × List UInt8 × Unit) × Unit) × List UInt8 × List UInt8 × Int × Bool × Unit) =>
            (if v3.2.2.2.2.1 = true then
                  (idx v3.1 v3.2.2.2.1).bind fun (v4 : List UInt8 × List UInt8 × List (Int × List UInt8 × Int × List UInt8 × Unit) × Unit) =>
                    (M_conciergeref24_Fits F (v4.2.1, v3.2.2.1)).bind fun (v5 : Bool) => some (v3.1, v3.2.1, v3.2.2.1, v3.2.2.2.1, v5, ())
                else some (v3.1, v3.2.1, v3.2.2.1, v3.2.2.2.1, false, ())).bind
              fun
                (v6 :
                  List (List UInt8 × List UInt8 × List (Int × List UInt8 × Int × List UInt8 × Unit) × Unit) × List UInt8 × List UInt8 × Int × Bool × Unit) =>
              if v6.2.2.2.2.1 = true then some (Sum.inr (Sum.inr (v6.2.2.2.1, ())))
              else some (Sum.inl (v6.1, v6.2.1, v6.2.2.1, IntKind.i64.wrap (v6.2.2.2.1 + 1), ()))
        else some (Sum.inr (Sum.inl ()))
noncomputable def M_conciergeref24_Find (F : Nat) (x : (List (El .rl)) × (List UInt8) × (List UInt8)) : Option (Int) :=
  (loopM (M_conciergeref24_Find_l0 F)
        F (x.1, x.2.1, x.2.2, 0, ())).bind
    fun (v7 : Unit ⊕ Int × Unit) => sumC v7 (fun (v8 : Unit) => some (-1)) fun (v9 : Int × Unit) => some v9.1
theorem t_conciergeref24_Find (x : (List (El .rl)) × (List UInt8) × (List UInt8)) (F : Nat) : fnRun TT Tryz.prog (e_conciergeref24_Find F) s_conciergeref24_Find (bodyOf 31) F x = M_conciergeref24_Find F x := by kernel_rfl
theorem c_conciergeref24_Find (F : Nat) : Ctr TT Tryz.prog 31 (conOf TT s_conciergeref24_Find (M_conciergeref24_Find F)) :=
  ctr_of (code := bodyOf 31) Tryz.func31 (by kernel_rfl) (by kernel_rfl) (by kernel_rfl) (by kernel_rfl) (envS_ok envN_ok (c_conciergeref24_Fits F)) hm (by kernel_rfl) (fun x r h => ⟨F, (t_conciergeref24_Find x F).trans h⟩)
noncomputable def s_conciergeref24_Standard : Spec Kd := { params := [], ret := (.one (.a .str)), pins := [], pl := { nt := 1 }, rfrz := [], ts := [0] }
noncomputable def e_conciergeref24_Standard (F : Nat) : Env El := envN
noncomputable def M_conciergeref24_Standard (F : Nat) (x : Unit) : Option (List UInt8) :=
  some
    [80, 79, 83, 84, 32, 47, 112, 97, 121, 58, 32, 110, 101, 101, 100, 32, 115, 117, 109, 32, 49, 48, 48, 48, 59, 32, 99, 97, 108, 108, 32, 100, 101, 98, 105,
      116, 32, 37, 123, 115, 117, 109, 125, 59, 32, 99, 97, 108, 108, 32, 99, 114, 101, 100, 105, 116, 32, 37, 123, 115, 117, 109, 125, 59, 32, 101, 110, 100, 32,
      50, 48, 49, 32, 112, 97, 105, 100, 32, 37, 123, 115, 117, 109, 125, 10, 80, 79, 83, 84, 32, 47, 110, 111, 116, 101, 47, 42, 58, 32, 111, 110, 108, 121, 32,
      52, 48, 59, 32, 99, 97, 108, 108, 32, 119, 114, 105, 116, 101, 32, 37, 98, 59, 32, 101, 110, 100, 32, 50, 48, 48, 32, 110, 111, 116, 101, 100, 32, 37, 112,
      10, 71, 69, 84, 32, 47, 42, 42, 58, 32, 101, 110, 100, 32, 50, 48, 48, 32, 37, 109, 32, 37, 112]
theorem t_conciergeref24_Standard (x : Unit) (F : Nat) : fnRun TT Tryz.prog (e_conciergeref24_Standard F) s_conciergeref24_Standard (bodyOf 28) F x = M_conciergeref24_Standard F x := by kernel_rfl
theorem c_conciergeref24_Standard (F : Nat) : Ctr TT Tryz.prog 28 (conOf TT s_conciergeref24_Standard (M_conciergeref24_Standard F)) :=
  ctr_of (code := bodyOf 28) Tryz.func28 (by kernel_rfl) (by kernel_rfl) (by kernel_rfl) (by kernel_rfl) envN_ok hm (by kernel_rfl) (fun x r h => ⟨F, (t_conciergeref24_Standard x F).trans h⟩)
noncomputable def s_conciergeref24_Same : Spec Kd := { params := [(.a (.slc .rl)), (.a (.slc .rl))], ret := (.one (.a .bool)), pins := [], pl := { nt := 84, loops := [(2, ⟨[.tmp 0 (.a (.slc .rl)), .tmp 1 (.a (.slc .rl)), .tmp 5 (.a (.int .i64)), .tmp 6 (.a (.int .i64))], [], []⟩, (.exit 2, ⟨[.tmp 0 (.a (.slc .rl)), .tmp 1 (.a (.slc .rl)), .tmp 5 (.a (.int .i64))], [], []⟩), [(.ret, ⟨[.tmp 4 (.a .bool)], [], []⟩)]), (0, ⟨[.tmp 0 (.a (.slc .rl)), .tmp 1 (.a (.slc .rl)), .tmp 5 (.a (.int .i64))], [], []⟩, (.exit 0, ⟨[], [], []⟩), [(.ret, ⟨[.tmp 4 (.a .bool)], [], []⟩)])], ends := [(11, ⟨[.tmp 0 (.a (.slc .rl)), .tmp 1 (.a (.slc .rl)), .tmp 5 (.a (.int .i64)), .tmp 6 (.a (.int .i64)), .tmp 83 (.a .bool)], [], []⟩), (6, ⟨[.tmp 0 (.a (.slc .rl)), .tmp 1 (.a (.slc .rl)), .tmp 5 (.a (.int .i64)), .tmp 56 (.a .bool)], [], []⟩)] }, rfrz := [], ts := [4] }
noncomputable def e_conciergeref24_Same (F : Nat) : Env El := envN
noncomputable def M_conciergeref24_Same_l0 (F : Nat) (v8 : (List (List UInt8 × List UInt8 × List (Int × List UInt8 × Int × List UInt8 × Unit) × Unit) ×
                        List (List UInt8 × List UInt8 × List (Int × List UInt8 × Int × List UInt8 × Unit) × Unit) × Int × Int × Unit)) : Option ((List (List UInt8 × List UInt8 × List (Int × List UInt8 × Int × List UInt8 × Unit) × Unit) ×
                        List (List UInt8 × List UInt8 × List (Int × List UInt8 × Int × List UInt8 × Unit) × Unit) × Int × Int × Unit) ⊕ (List (List UInt8 × List UInt8 × List (Int × List UInt8 × Int × List UInt8 × Unit) × Unit) ×
                          List (List UInt8 × List UInt8 × List (Int × List UInt8 × Int × List UInt8 × Unit) × Unit) × Int × Unit ⊕
                        Bool × Unit)) :=
  (idx v8.1 v8.2.2.1).bind fun (v9 : List UInt8 × List UInt8 × List (Int × List UInt8 × Int × List UInt8 × Unit) × Unit) =>
                          if decide (v8.2.2.2.1 < (↑v9.2.2.1.length : Int)) = true then
                            ((idx v8.1 v8.2.2.1).bind fun (v10 : List UInt8 × List UInt8 × List (Int × List UInt8 × Int × List UInt8 × Unit) × Unit) =>
                                  (idx v10.2.2.1 v8.2.2.2.1).bind fun (v11 : Int × List UInt8 × Int × List UInt8 × Unit) =>
                                    (idx v8.2.1 v8.2.2.1).bind
                                      fun (v12 : List UInt8 × List UInt8 × List (Int × List UInt8 × Int × List UInt8 × Unit) × Unit) =>
                                      (idx v12.2.2.1 v8.2.2.2.1).bind fun (v13 : Int × List UInt8 × Int × List UInt8 × Unit) =>
                                        some
                                          (v8.1, v8.2.1, v8.2.2.1, v8.2.2.2.1,
                                            !(decide (v11.1 = v13.1) &&
                                                (decide (v11.2.1 = v13.2.1) &&
                                                  (decide (v11.2.2.1 = v13.2.2.1) && (decide (v11.2.2.2.1 = v13.2.2.2.1) && true)))),
                                            ())).bind
                              fun
                                (v14 :
                                  List (List UInt8 × List UInt8 × List (Int × List UInt8 × Int × List UInt8 × Unit) × Unit) ×
                                    List (List UInt8 × List UInt8 × List (Int × List UInt8 × Int × List UInt8 × Unit) × Unit) × Int × Int × Bool × Unit) =>
                              if v14.2.2.2.2.1 = true then some (Sum.inr (Sum.inr (false, ())))
                              else some (Sum.inl (v14.1, v14.2.1, v14.2.2.1, IntKind.i64.wrap (v14.2.2.2.1 + 1), ()))
                          else some (Sum.inr (Sum.inl (v8.1, v8.2.1, v8.2.2.1, ())))
noncomputable def M_conciergeref24_Same_l1 (F : Nat) (v0 : (List (List UInt8 × List UInt8 × List (Int × List UInt8 × Int × List UInt8 × Unit) × Unit) ×
          List (List UInt8 × List UInt8 × List (Int × List UInt8 × Int × List UInt8 × Unit) × Unit) × Int × Unit)) : Option ((List (List UInt8 × List UInt8 × List (Int × List UInt8 × Int × List UInt8 × Unit) × Unit) ×
          List (List UInt8 × List UInt8 × List (Int × List UInt8 × Int × List UInt8 × Unit) × Unit) × Int × Unit) ⊕ (Unit ⊕ Bool × Unit)) :=
  if decide (v0.2.2.1 < (↑v0.1.length : Int)) = true then
            ((idx v0.1 v0.2.2.1).bind fun (v1 : List UInt8 × List UInt8 × List (Int × List UInt8 × Int × List UInt8 × Unit) × Unit) =>
                  (idx v0.2.1 v0.2.2.1).bind fun (v2 : List UInt8 × List UInt8 × List (Int × List UInt8 × Int × List UInt8 × Unit) × Unit) =>
                    if (!decide (v1.1 = v2.1)) = false then
                      (idx v0.1 v0.2.2.1).bind fun (v3 : List UInt8 × List UInt8 × List (Int × List UInt8 × Int × List UInt8 × Unit) × Unit) =>
                        (idx v0.2.1 v0.2.2.1).bind fun (v4 : List UInt8 × List UInt8 × List (Int × List UInt8 × Int × List UInt8 × Unit) × Unit) =>
                          if (!decide (v3.2.1 = v4.2.1)) = false then
                            (idx v0.1 v0.2.2.1).bind fun (v5 : List UInt8 × List UInt8 × List (Int × List UInt8 × Int × List UInt8 × Unit) × Unit) =>
                              (idx v0.2.1 v0.2.2.1).bind fun (v6 : List UInt8 × List UInt8 × List (Int × List UInt8 × Int × List UInt8 × Unit) × Unit) =>
                                some (v0.1, v0.2.1, v0.2.2.1, !decide ((↑v5.2.2.1.length : Int) = (↑v6.2.2.1.length : Int)), ())
                          else some (v0.1, v0.2.1, v0.2.2.1, true, ())
                    else some (v0.1, v0.2.1, v0.2.2.1, true, ())).bind
              fun
                (v7 :
                  List (List UInt8 × List UInt8 × List (Int × List UInt8 × Int × List UInt8 × Unit) × Unit) ×
                    List (List UInt8 × List UInt8 × List (Int × List UInt8 × Int × List UInt8 × Unit) × Unit) × Int × Bool × Unit) =>
              if v7.2.2.2.1 = true then some (Sum.inr (Sum.inr (false, ())))
              else
                (loopM (M_conciergeref24_Same_l0 F)
                      F (v7.1, v7.2.1, v7.2.2.1, 0, ())).bind
                  fun
                    (v15 :
                      List (List UInt8 × List UInt8 × List (Int × List UInt8 × Int × List UInt8 × Unit) × Unit) ×
                          List (List UInt8 × List UInt8 × List (Int × List UInt8 × Int × List UInt8 × Unit) × Unit) × Int × Unit ⊕
                        Bool × Unit) =>
                  sumC v15
                    (fun
                        (v16 :
                          List (List UInt8 × List UInt8 × List (Int × List UInt8 × Int × List UInt8 × Unit) × Unit) ×
                            List (List UInt8 × List UInt8 × List (Int × List UInt8 × Int × List UInt8 × Unit) × Unit) × Int × Unit) =>
                      some (Sum.inl (v16.1, v16.2.1, IntKind.i64.wrap (v16.2.2.1 + 1), ())))
                    fun (v17 : Bool × Unit) => some (Sum.inr (Sum.inr (v17.1, ())))
          else some (Sum.inr (Sum.inl ()))
noncomputable def M_conciergeref24_Same (F : Nat) (x : (List (El .rl)) × (List (El .rl))) : Option (Bool) :=
  if (!decide ((↑x.1.length : Int) = (↑x.2.length : Int))) = true then some false
  else
    (loopM (M_conciergeref24_Same_l1 F)
          F (x.1, x.2, 0, ())).bind
      fun (v18 : Unit ⊕ Bool × Unit) => sumC v18 (fun (v19 : Unit) => some true) fun (v20 : Bool × Unit) => some v20.1
theorem t_conciergeref24_Same (x : (List (El .rl)) × (List (El .rl))) (F : Nat) : fnRun TT Tryz.prog (e_conciergeref24_Same F) s_conciergeref24_Same (bodyOf 26) F x = M_conciergeref24_Same F x := by kernel_rfl
theorem c_conciergeref24_Same (F : Nat) : Ctr TT Tryz.prog 26 (conOf TT s_conciergeref24_Same (M_conciergeref24_Same F)) :=
  ctr_of (code := bodyOf 26) Tryz.func26 (by kernel_rfl) (by kernel_rfl) (by kernel_rfl) (by kernel_rfl) envN_ok hm (by kernel_rfl) (fun x r h => ⟨F, (t_conciergeref24_Same x F).trans h⟩)
end Go.Vm
