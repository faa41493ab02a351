/- Models of functions of the program, and that each keeps its contract: for all arguments of its shape. No condition. -/
import Derived.Test.YtocgjbdimjlfhaaGreatDoorKt
import Derived.Test.YtocgjbdimjlfhaaGreatDoorFprog
import Derived.Test.YtocgjbdimjlfhaaGreatDoorFcanon
namespace Go.Vm
open Go.Proofs
set_option linter.unusedVariables false
noncomputable def s_route_parts : Spec Kd := { params := [(.a .str)], ret := (.one (.a (.slc .str))), pins := [], pl := { nt := 18, cuts := [(2, [(6, ⟨[.tmp 3 (.a .str), .tmp 15 (.a .bool)], [], []⟩)])] }, rfrz := [], ts := [2] }
noncomputable def e_route_parts (F : Nat) : Env El := (envS 65 (conOf TT s_strings_Split (M_strings_Split F)) (envS 99 (conOf TT s_strings_CutPrefix (M_strings_CutPrefix F)) envN))
noncomputable def M_route_parts (F : Nat) (x : (List UInt8)) : Option (List (El .str)) :=
  (M_strings_CutPrefix F (x, [47])).bind fun v0 =>
    (if (!v0.2) = false then some (v0.1, decide (v0.1 = []), ()) else some (v0.1, true, ())).bind fun v1 =>
      if v1.2.1 = true then some [] else (M_strings_Split F (v1.1, [47])).bind fun v2 => some v2
theorem t_route_parts (x : (List UInt8)) (F : Nat) : fnRun TT Tryz.prog (e_route_parts F) s_route_parts (bodyOf 54) F x = M_route_parts F x := by kernel_rfl
theorem c_route_parts (F : Nat) : Ctr TT Tryz.prog 54 (conOf TT s_route_parts (M_route_parts F)) :=
  ctr_of (code := bodyOf 54) Tryz.func54 (by kernel_rfl) (by kernel_rfl) (by kernel_rfl) (by kernel_rfl) (envS_ok (envS_ok envN_ok (c_strings_CutPrefix F)) (c_strings_Split F)) hm (by kernel_rfl) (fun x r h => ⟨F, (t_route_parts x F).trans h⟩)
noncomputable def s_route_form : Spec Kd := { params := [(.a .str)], ret := (.one (.a .bool)), pins := [], pl := { nt := 16, cuts := [(2, [(6, ⟨[.tmp 15 (.a .bool)], [], []⟩)])] }, rfrz := [], ts := [2] }
noncomputable def e_route_form (F : Nat) : Env El := (envS 100 (conOf TT s_canon_Path (M_canon_Path F)) envN)
noncomputable def M_route_form (F : Nat) (x : (List UInt8)) : Option (Bool) :=
  (M_canon_Path F x).bind fun v0 => (if v0.2 = true then some (decide (v0.1 = x), ()) else some (false, ())).bind fun v1 => some v1.1
theorem t_route_form (x : (List UInt8)) (F : Nat) : fnRun TT Tryz.prog (e_route_form F) s_route_form (bodyOf 55) F x = M_route_form F x := by kernel_rfl
theorem c_route_form (F : Nat) : Ctr TT Tryz.prog 55 (conOf TT s_route_form (M_route_form F)) :=
  ctr_of (code := bodyOf 55) Tryz.func55 (by kernel_rfl) (by kernel_rfl) (by kernel_rfl) (by kernel_rfl) (envS_ok envN_ok (c_canon_Path F)) hm (by kernel_rfl) (fun x r h => ⟨F, (t_route_form x F).trans h⟩)
noncomputable def s_route_Pattern : Spec Kd := { params := [(.a .str)], ret := (.one (.a .bool)), pins := [], pl := { nt := 50, bjoins := [(1, (.norm, ⟨[.tmp 3 (.a (.slc .str)), .tmp 20 (.a (.slc .str)), .tmp 21 (.a (.int .i64)), .tmp 22 (.a (.int .i64))], [], []⟩), [(.ret, ⟨[.tmp 2 (.a .bool)], [], []⟩)])], loops := [(0, ⟨[.tmp 3 (.a (.slc .str)), .tmp 20 (.a (.slc .str)), .tmp 21 (.a (.int .i64)), .tmp 22 (.a (.int .i64))], [], []⟩, (.exit 0, ⟨[], [], []⟩), [(.ret, ⟨[.tmp 2 (.a .bool)], [], []⟩)])], cuts := [(9, [(8, ⟨[.tmp 3 (.a (.slc .str)), .tmp 20 (.a (.slc .str)), .tmp 21 (.a (.int .i64)), .tmp 22 (.a (.int .i64)), .tmp 48 (.a .bool)], [], []⟩)]), (8, [(9, ⟨[.tmp 3 (.a (.slc .str)), .tmp 5 (.a .str), .tmp 20 (.a (.slc .str)), .tmp 21 (.a (.int .i64)), .tmp 22 (.a (.int .i64)), .tmp 39 (.a .bool)], [], []⟩)]), (1, [(7, ⟨[.tmp 0 (.a .str), .tmp 12 (.a .bool)], [], []⟩), (5, ⟨[.tmp 0 (.a .str), .tmp 17 (.a .bool)], [], []⟩)])] }, rfrz := [], ts := [2] }
noncomputable def e_route_Pattern (F : Nat) : Env El := (envS 55 (conOf TT s_route_form (M_route_form F)) (envS 54 (conOf TT s_route_parts (M_route_parts F)) envN))
noncomputable def M_route_Pattern_l0 (F : Nat) (v4 : (List (List UInt8) × List (List UInt8) × Int × Int × Unit)) : Option ((List (List UInt8) × List (List UInt8) × Int × Int × Unit) ⊕ (Unit ⊕ Bool × Unit)) :=
  if decide (v4.2.2.2.1 < v4.2.2.1) = true then
                  ((idx v4.2.1 v4.2.2.2.1).bind fun v5 =>
                        if decide (v5 = [42]) = true then some (Sum.inl (v4.1, v4.2.1, v4.2.2.1, v4.2.2.2.1, ()))
                        else
                          (if decide (v5 = [42, 42]) = true then
                                some (v4.1, v5, v4.2.1, v4.2.2.1, v4.2.2.2.1, decide (v4.2.2.2.1 = IntKind.i64.wrap ((↑v4.1.length : Int) - 1)), ())
                              else some (v4.1, v5, v4.2.1, v4.2.2.1, v4.2.2.2.1, false, ())).bind
                            fun v6 =>
                            if v6.2.2.2.2.2.1 = true then some (Sum.inl (v6.1, v6.2.2.1, v6.2.2.2.1, v6.2.2.2.2.1, ()))
                            else
                              (if decide (v6.2.1 = []) = false then
                                    if decide ([47].length + v6.2.1.length ≤ 9223372036854775807) = true then
                                      (M_route_form F ([47] ++ v6.2.1)).bind fun v7 => some (v6.1, v6.2.2.1, v6.2.2.2.1, v6.2.2.2.2.1, !v7, ())
                                    else none
                                  else some (v6.1, v6.2.2.1, v6.2.2.2.1, v6.2.2.2.2.1, true, ())).bind
                                fun v8 =>
                                if v8.2.2.2.2.1 = true then some (Sum.inr (false, ())) else some (Sum.inl (v8.1, v8.2.1, v8.2.2.1, v8.2.2.2.1, ()))).bind
                    fun v9 =>
                    sumC v9 (fun v10 => some (Sum.inl (v10.1, v10.2.1, v10.2.2.1, IntKind.i64.wrap (v10.2.2.2.1 + 1), ()))) fun v11 =>
                      some (Sum.inr (Sum.inr (v11.1, ())))
                else some (Sum.inr (Sum.inl ()))
noncomputable def M_route_Pattern (F : Nat) (x : (List UInt8)) : Option (Bool) :=
  (if decide (x = []) = false then some (x, decide (60 < (↑x.length : Int)), ()) else some (x, true, ())).bind fun v0 =>
    (if v0.2.1 = false then (idx v0.1 0).bind fun v1 => some (v0.1, !decide ((↑v1.toNat : Int) = 47), ()) else some (v0.1, true, ())).bind fun v2 =>
      if v2.2.1 = true then some false
      else
        (M_route_parts F v2.1).bind fun v3 =>
          (loopM (M_route_Pattern_l0 F)
                F (v3, v3, (↑v3.length : Int), 0, ())).bind
            fun v12 => sumC v12 (fun v13 => some true) fun v14 => some v14.1
theorem t_route_Pattern (x : (List UInt8)) (F : Nat) : fnRun TT Tryz.prog (e_route_Pattern F) s_route_Pattern (bodyOf 16) F x = M_route_Pattern F x := by kernel_rfl
theorem c_route_Pattern (F : Nat) : Ctr TT Tryz.prog 16 (conOf TT s_route_Pattern (M_route_Pattern F)) :=
  ctr_of (code := bodyOf 16) Tryz.func16 (by kernel_rfl) (by kernel_rfl) (by kernel_rfl) (by kernel_rfl) (envS_ok (envS_ok envN_ok (c_route_parts F)) (c_route_form F)) hm (by kernel_rfl) (fun x r h => ⟨F, (t_route_Pattern x F).trans h⟩)
noncomputable def s_route_Fits : Spec Kd := { params := [(.a .str), (.a .str)], ret := (.one (.a .bool)), pins := [], pl := { nt := 45, joins := [(1500033, (.norm, ⟨[.tmp 6 (.a (.slc .str)), .tmp 21 (.a (.slc .str)), .tmp 22 (.a (.int .i64)), .tmp 23 (.a (.int .i64)), .tmp 33 (.a .bool)], [], []⟩), [])], loops := [(0, ⟨[.tmp 6 (.a (.slc .str)), .tmp 21 (.a (.slc .str)), .tmp 22 (.a (.int .i64)), .tmp 23 (.a (.int .i64))], [], []⟩, (.exit 0, ⟨[.tmp 6 (.a (.slc .str))], [], []⟩), [(.ret, ⟨[.tmp 4 (.a .bool)], [], []⟩)])], cuts := [(1, [(8, ⟨[.tmp 0 (.a .str), .tmp 1 (.a .str), .tmp 16 (.a .bool)], [], []⟩)])] }, rfrz := [], ts := [4] }
noncomputable def e_route_Fits (F : Nat) : Env El := (envS 54 (conOf TT s_route_parts (M_route_parts F)) (envS 55 (conOf TT s_route_form (M_route_form F)) (envS 16 (conOf TT s_route_Pattern (M_route_Pattern F)) envN)))
noncomputable def M_route_Fits_l0 (F : Nat) (v5 : (List (List UInt8) × List (List UInt8) × Int × Int × Unit)) : Option ((List (List UInt8) × List (List UInt8) × Int × Int × Unit) ⊕ (List (List UInt8) × Unit ⊕ Bool × Unit)) :=
  if decide (v5.2.2.2.1 < v5.2.2.1) = true then
                  (idx v5.2.1 v5.2.2.2.1).bind fun v6 =>
                    if decide ((↑v5.1.length : Int) = 0) = true then some (Sum.inr (Sum.inr (false, ())))
                    else
                      if decide (v6 = [42, 42]) = true then some (Sum.inr (Sum.inr (true, ())))
                      else
                        (if decide (v6 = [42]) = true then some (v5.1, v5.2.1, v5.2.2.1, v5.2.2.2.1, decide (v6 = [42]), ())
                            else (idx v5.1 0).bind fun v7 => some (v5.1, v5.2.1, v5.2.2.1, v5.2.2.2.1, decide (v6 = v7), ())).bind
                          fun v8 =>
                          if v8.2.2.2.2.1 = true then
                            (sub v8.1 1 (↑v8.1.length : Int)).bind fun v9 => some (Sum.inl (v9, v8.2.1, v8.2.2.1, IntKind.i64.wrap (v8.2.2.2.1 + 1), ()))
                          else some (Sum.inr (Sum.inr (false, ())))
                else some (Sum.inr (Sum.inl (v5.1, ())))
noncomputable def M_route_Fits (F : Nat) (x : (List UInt8) × (List UInt8)) : Option (Bool) :=
  ((M_route_Pattern F x.1).bind fun v0 => if (!v0) = false then (M_route_form F x.2).bind fun v1 => some (x.1, x.2, !v1, ()) else some (x.1, x.2, true, ())).bind
    fun v2 =>
    if v2.2.2.1 = true then some false
    else
      (M_route_parts F v2.1).bind fun v3 =>
        (M_route_parts F v2.2.1).bind fun v4 =>
          (loopM (M_route_Fits_l0 F)
                F (v4, v3, (↑v3.length : Int), 0, ())).bind
            fun v10 => sumC v10 (fun v11 => some (decide ((↑v11.1.length : Int) = 0))) fun v12 => some v12.1
theorem t_route_Fits (x : (List UInt8) × (List UInt8)) (F : Nat) : fnRun TT Tryz.prog (e_route_Fits F) s_route_Fits (bodyOf 18) F x = M_route_Fits F x := by kernel_rfl
theorem c_route_Fits (F : Nat) : Ctr TT Tryz.prog 18 (conOf TT s_route_Fits (M_route_Fits F)) :=
  ctr_of (code := bodyOf 18) Tryz.func18 (by kernel_rfl) (by kernel_rfl) (by kernel_rfl) (by kernel_rfl) (envS_ok (envS_ok (envS_ok envN_ok (c_route_Pattern F)) (c_route_form F)) (c_route_parts F)) hm (by kernel_rfl) (fun x r h => ⟨F, (t_route_Fits x F).trans h⟩)
noncomputable def s_route_method : Spec Kd := { params := [(.a .str)], ret := (.one (.a .bool)), pins := [], pl := { nt := 20, cuts := [(2, [(10, ⟨[.tmp 19 (.a .bool)], [], []⟩)])] }, rfrz := [], ts := [2] }
noncomputable def e_route_method (F : Nat) : Env El := (envS 106 (conOf TT s_canon_Method (M_canon_Method F)) envN)
noncomputable def M_route_method (F : Nat) (x : (List UInt8)) : Option (Bool) :=
  (M_canon_Method F x).bind fun v0 =>
    (if decide (x = [42]) = false then if v0.2 = true then some (decide (v0.1 = x), ()) else some (false, ()) else some (true, ())).bind fun v1 => some v1.1
theorem t_route_method (x : (List UInt8)) (F : Nat) : fnRun TT Tryz.prog (e_route_method F) s_route_method (bodyOf 63) F x = M_route_method F x := by kernel_rfl
theorem c_route_method (F : Nat) : Ctr TT Tryz.prog 63 (conOf TT s_route_method (M_route_method F)) :=
  ctr_of (code := bodyOf 63) Tryz.func63 (by kernel_rfl) (by kernel_rfl) (by kernel_rfl) (by kernel_rfl) (envS_ok envN_ok (c_canon_Method F)) hm (by kernel_rfl) (fun x r h => ⟨F, (t_route_method x F).trans h⟩)
noncomputable def s_route_May : Spec Kd := { params := [(.a (.slc .rl))], ret := (.one (.a .bool)), pins := [], pl := { nt := 36, loops := [(0, ⟨[.tmp 0 (.a (.slc .rl)), .tmp 5 (.a (.slc .rl)), .tmp 6 (.a (.int .i64)), .tmp 7 (.a (.int .i64))], [], []⟩, (.exit 0, ⟨[.tmp 0 (.a (.slc .rl))], [], []⟩), [(.ret, ⟨[.tmp 2 (.a .bool)], [], []⟩)])], cuts := [(7, [(8, ⟨[.tmp 35 (.a .bool)], [], []⟩)]), (4, [(10, ⟨[.tmp 0 (.a (.slc .rl)), .tmp 4 (.a (.ptr 256 0)), .tmp 5 (.a (.slc .rl)), .tmp 6 (.a (.int .i64)), .tmp 7 (.a (.int .i64)), .tmp 20 (.a .bool), .box 256 (.cells 41 [.str, .str, (.slc .ph)])], [], [.cellSlc 256 2 .ph]⟩), (6, ⟨[.tmp 0 (.a (.slc .rl)), .tmp 5 (.a (.slc .rl)), .tmp 6 (.a (.int .i64)), .tmp 7 (.a (.int .i64)), .tmp 26 (.a .bool)], [], []⟩)])] }, rfrz := [], ts := [2] }
noncomputable def e_route_May (F : Nat) : Env El := (envS 64 (conOf TT s_prog_May (M_prog_May F)) (envS 16 (conOf TT s_route_Pattern (M_route_Pattern F)) (envS 63 (conOf TT s_route_method (M_route_method F)) envN)))
noncomputable def M_route_May_l0 (F : Nat) (v0 : (List (List UInt8 × List UInt8 × List (Int × List UInt8 × Int × List UInt8 × Unit) × Unit) ×
        List (List UInt8 × List UInt8 × List (Int × List UInt8 × Int × List UInt8 × Unit) × Unit) × Int × Int × Unit)) : Option ((List (List UInt8 × List UInt8 × List (Int × List UInt8 × Int × List UInt8 × Unit) × Unit) ×
        List (List UInt8 × List UInt8 × List (Int × List UInt8 × Int × List UInt8 × Unit) × Unit) × Int × Int × Unit) ⊕ (List (List UInt8 × List UInt8 × List (Int × List UInt8 × Int × List UInt8 × Unit) × Unit) × Unit ⊕ Bool × Unit)) :=
  if decide (v0.2.2.2.1 < v0.2.2.1) = true then
          (idx v0.2.1 v0.2.2.2.1).bind fun (v1 : List UInt8 × List UInt8 × List (Int × List UInt8 × Int × List UInt8 × Unit) × Unit) =>
            ((M_route_method F v1.1).bind fun (v2 : Bool) =>
                  if (!v2) = false then
                    (M_route_Pattern F v1.2.1).bind fun (v3 : Bool) => some (v0.1, (), v0.2.1, v0.2.2.1, v0.2.2.2.1, !v3, (v1.1, v1.2.1, v1.2.2.1, ()), ())
                  else some (v0.1, (), v0.2.1, v0.2.2.1, v0.2.2.2.1, true, (v1.1, v1.2.1, v1.2.2.1, ()), ())).bind
              fun
                (v4 :
                  List (List UInt8 × List UInt8 × List (Int × List UInt8 × Int × List UInt8 × Unit) × Unit) ×
                    Unit ×
                      List (List UInt8 × List UInt8 × List (Int × List UInt8 × Int × List UInt8 × Unit) × Unit) ×
                        Int × Int × Bool × (List UInt8 × List UInt8 × List (Int × List UInt8 × Int × List UInt8 × Unit) × Unit) × Unit) =>
              (if v4.2.2.2.2.2.1 = false then
                    (M_prog_May F v4.2.2.2.2.2.2.1.2.2.1).bind fun (v5 : Bool) => some (v4.1, v4.2.2.1, v4.2.2.2.1, v4.2.2.2.2.1, !v5, ())
                  else some (v4.1, v4.2.2.1, v4.2.2.2.1, v4.2.2.2.2.1, true, ())).bind
                fun
                  (v6 :
                    List (List UInt8 × List UInt8 × List (Int × List UInt8 × Int × List UInt8 × Unit) × Unit) ×
                      List (List UInt8 × List UInt8 × List (Int × List UInt8 × Int × List UInt8 × Unit) × Unit) × Int × Int × Bool × Unit) =>
                if v6.2.2.2.2.1 = true then some (Sum.inr (Sum.inr (false, ())))
                else some (Sum.inl (v6.1, v6.2.1, v6.2.2.1, IntKind.i64.wrap (v6.2.2.2.1 + 1), ()))
        else some (Sum.inr (Sum.inl (v0.1, ())))
noncomputable def M_route_May (F : Nat) (x : (List (El .rl))) : Option (Bool) :=
  (loopM (M_route_May_l0 F)
        F (x, x, (↑x.length : Int), 0, ())).bind
    fun (v7 : List (List UInt8 × List UInt8 × List (Int × List UInt8 × Int × List UInt8 × Unit) × Unit) × Unit ⊕ Bool × Unit) =>
    sumC v7
      (fun (v8 : List (List UInt8 × List UInt8 × List (Int × List UInt8 × Int × List UInt8 × Unit) × Unit) × Unit) =>
        (if decide (0 < (↑v8.1.length : Int)) = true then some (decide ((↑v8.1.length : Int) ≤ 8), ()) else some (false, ())).bind fun (v9 : Bool × Unit) =>
          some v9.1)
      fun (v10 : Bool × Unit) => some v10.1
theorem t_route_May (x : (List (El .rl))) (F : Nat) : fnRun TT Tryz.prog (e_route_May F) s_route_May (bodyOf 23) F x = M_route_May F x := by kernel_rfl
theorem c_route_May (F : Nat) : Ctr TT Tryz.prog 23 (conOf TT s_route_May (M_route_May F)) :=
  ctr_of (code := bodyOf 23) Tryz.func23 (by kernel_rfl) (by kernel_rfl) (by kernel_rfl) (by kernel_rfl) (envS_ok (envS_ok (envS_ok envN_ok (c_route_method F)) (c_route_Pattern F)) (c_prog_May F)) hm (by kernel_rfl) (fun x r h => ⟨F, (t_route_May x F).trans h⟩)
noncomputable def s_route_Print : Spec Kd := { params := [(.a (.slc .rl))], ret := (.tup [(.a .str), (.a (.int .i64))]), pins := [], pl := { nt := 39, orc := { rv := [4, 24, 35], gv := [] }, loops := [(0, ⟨[.tmp 4 (.a (.rowp 256)), .tmp 12 (.a (.slc .rl)), .tmp 13 (.a (.int .i64)), .tmp 14 (.a (.int .i64)), .box 256 (.row 9 .str)], [], [.tmpRow 4 256 9 .str]⟩, (.exit 0, ⟨[.tmp 4 (.a (.rowp 256)), .box 256 (.row 9 .str)], [], [.tmpRow 4 256 9 .str]⟩), [])] }, rfrz := [], ts := [2, 3] }
noncomputable def e_route_Print (F : Nat) : Env El := (envS 60 (conOf TT s_strings_Join (M_strings_Join F)) (envS 59 (conOf TT s_prog_Print (M_prog_Print F)) (envS 23 (conOf TT s_route_May (M_route_May F)) envN)))
noncomputable def M_route_Print_l0 (F : Nat) (v1 : (Unit × List (List UInt8 × List UInt8 × List (Int × List UInt8 × Int × List UInt8 × Unit) × Unit) × Int × Int × List (List UInt8) × Unit)) : Option ((Unit × List (List UInt8 × List UInt8 × List (Int × List UInt8 × Int × List UInt8 × Unit) × Unit) × Int × Int × List (List UInt8) × Unit) ⊕ (Unit × List (List UInt8) × Unit)) :=
  if decide (v1.2.2.2.1 < v1.2.2.1) = true then
              (idx v1.2.1 v1.2.2.2.1).bind fun (v2 : List UInt8 × List UInt8 × List (Int × List UInt8 × Int × List UInt8 × Unit) × Unit) =>
                (M_prog_Print F v2.2.2.1).bind fun (v3 : List UInt8 × Int) =>
                  if decide (v2.1.length + [32].length ≤ 9223372036854775807) = true then
                    if decide ((v2.1 ++ [32]).length + v2.2.1.length ≤ 9223372036854775807) = true then
                      if decide ((v2.1 ++ [32] ++ v2.2.1).length + [58, 32].length ≤ 9223372036854775807) = true then
                        if decide ((v2.1 ++ [32] ++ v2.2.1 ++ [58, 32]).length + v3.1.length ≤ 9223372036854775807) = true then
                          if decide ((v1.2.2.2.2.1.length + [v2.1 ++ [32] ++ v2.2.1 ++ [58, 32] ++ v3.1].length) * 16 ≤ 140737488355328) = true then
                            some
                              (Sum.inl
                                ((), v1.2.1, v1.2.2.1, IntKind.i64.wrap (v1.2.2.2.1 + 1), v1.2.2.2.2.1 ++ [v2.1 ++ [32] ++ v2.2.1 ++ [58, 32] ++ v3.1], ()))
                          else none
                        else none
                      else none
                    else none
                  else none
            else some (Sum.inr ((), v1.2.2.2.2.1, ()))
noncomputable def M_route_Print (F : Nat) (x : (List (El .rl))) : Option ((List UInt8) × (Int)) :=
  (M_route_May F x).bind fun (v0 : Bool) =>
    if (!v0) = true then some ([], 1)
    else
      (loopM (M_route_Print_l0 F)
            F ((), x, (↑x.length : Int), 0, [], ())).bind
        fun (v4 : Unit × List (List UInt8) × Unit) => (M_strings_Join F (v4.2.1, [10])).bind fun (v5 : List UInt8) => some (v5, 0)
theorem t_route_Print (x : (List (El .rl))) (F : Nat) : fnRun TT Tryz.prog (e_route_Print F) s_route_Print (bodyOf 21) F x = M_route_Print F x := by kernel_rfl
theorem c_route_Print (F : Nat) : Ctr TT Tryz.prog 21 (conOf TT s_route_Print (M_route_Print F)) :=
  ctr_of (code := bodyOf 21) Tryz.func21 (by kernel_rfl) (by kernel_rfl) (by kernel_rfl) (by kernel_rfl) (envS_ok (envS_ok (envS_ok envN_ok (c_route_May F)) (c_prog_Print F)) (c_strings_Join F)) hm (by kernel_rfl) (fun x r h => ⟨F, (t_route_Print x F).trans h⟩)
noncomputable def s_route_Parse : Spec Kd := { params := [(.a .str)], ret := (.tup [(.a (.row 41 .rl)), (.a (.int .i64))]), pins := [], pl := { nt := 61, orc := { rv := [2, 4, 49, 55, 60], gv := [] }, loops := [(0, ⟨[.tmp 4 (.a (.rowp 256)), .tmp 16 (.a (.slc .str)), .tmp 17 (.a (.int .i64)), .tmp 18 (.a (.int .i64)), .box 256 (.row 41 .rl)], [2305], [.tmpRow 4 256 41 .rl]⟩, (.exit 0, ⟨[.tmp 4 (.a (.rowp 256)), .box 256 (.row 41 .rl)], [2305], [.tmpRow 4 256 41 .rl]⟩), [(.ret, ⟨[.tmp 2 (.a (.rowp 128)), .tmp 3 (.a (.int .i64)), .box 128 (.row 41 .rl)], [2305], [.tmpRow 2 128 41 .rl]⟩)])], cuts := [(8, [(6, ⟨[.tmp 4 (.a (.rowp 256)), .tmp 10 (.a .str), .tmp 11 (.a .str), .tmp 13 (.a (.slc .ph)), .tmp 14 (.a (.int .i64)), .tmp 16 (.a (.slc .str)), .tmp 17 (.a (.int .i64)), .tmp 18 (.a (.int .i64)), .tmp 44 (.a .bool), .box 256 (.row 41 .rl)], [2305], [.tmpRow 4 256 41 .rl]⟩), (4, ⟨[.tmp 4 (.a (.rowp 256)), .tmp 10 (.a .str), .tmp 11 (.a .str), .tmp 13 (.a (.slc .ph)), .tmp 16 (.a (.slc .str)), .tmp 17 (.a (.int .i64)), .tmp 18 (.a (.int .i64)), .tmp 48 (.a .bool), .box 256 (.row 41 .rl)], [2305], [.tmpRow 4 256 41 .rl]⟩)])] }, rfrz := [], ts := [2, 3] }
noncomputable def e_route_Parse (F : Nat) : Env El := (envS 23 (conOf TT s_route_May (M_route_May F)) (envS 67 (conOf TT s_prog_Parse (M_prog_Parse F)) (envS 66 (conOf TT s_strings_Cut (M_strings_Cut F)) (envS 65 (conOf TT s_strings_Split (M_strings_Split F)) envN))))
noncomputable def M_route_Parse_l0 (F : Nat) (v1 : (Unit × List (List UInt8) × Int × Int × List (List UInt8 × List UInt8 × List (Int × List UInt8 × Int × List UInt8 × Unit) × Unit) × Unit)) : Option ((Unit × List (List UInt8) × Int × Int × List (List UInt8 × List UInt8 × List (Int × List UInt8 × Int × List UInt8 × Unit) × Unit) × Unit) ⊕ (Unit × List (List UInt8 × List UInt8 × List (Int × List UInt8 × Int × List UInt8 × Unit) × Unit) × Unit ⊕
          Unit × Int × List (List UInt8 × List UInt8 × List (Int × List UInt8 × Int × List UInt8 × Unit) × Unit) × Unit)) :=
  if decide (v1.2.2.2.1 < v1.2.2.1) = true then
            (idx v1.2.1 v1.2.2.2.1).bind fun (v2 : List UInt8) =>
              (M_strings_Cut F (v2, [58, 32])).bind fun (v3 : List UInt8 × List UInt8 × Bool) =>
                (M_strings_Cut F (v3.1, [32])).bind fun (v4 : List UInt8 × List UInt8 × Bool) =>
                  (M_prog_Parse F v3.2.1).bind fun (v5 : List (Int × List UInt8 × Int × List UInt8 × Unit) × Int) =>
                    (if (!v3.2.2) = false then some ((), v4.1, v4.2.1, v5.1, v5.2, v1.2.1, v1.2.2.1, v1.2.2.2.1, !v4.2.2, v1.2.2.2.2.1, ())
                        else some ((), v4.1, v4.2.1, v5.1, v5.2, v1.2.1, v1.2.2.1, v1.2.2.2.1, true, v1.2.2.2.2.1, ())).bind
                      fun
                        (v6 :
                          Unit ×
                            List UInt8 ×
                              List UInt8 ×
                                List (Int × List UInt8 × Int × List UInt8 × Unit) ×
                                  Int ×
                                    List (List UInt8) ×
                                      Int × Int × Bool × List (List UInt8 × List UInt8 × List (Int × List UInt8 × Int × List UInt8 × Unit) × Unit) × Unit) =>
                      (if v6.2.2.2.2.2.2.2.2.1 = false then
                            some
                              ((), v6.2.1, v6.2.2.1, v6.2.2.2.1, v6.2.2.2.2.2.1, v6.2.2.2.2.2.2.1, v6.2.2.2.2.2.2.2.1, !decide (v6.2.2.2.2.1 = 0),
                                v6.2.2.2.2.2.2.2.2.2.1, ())
                          else
                            some
                              ((), v6.2.1, v6.2.2.1, v6.2.2.2.1, v6.2.2.2.2.2.1, v6.2.2.2.2.2.2.1, v6.2.2.2.2.2.2.2.1, true, v6.2.2.2.2.2.2.2.2.2.1, ())).bind
                        fun
                          (v7 :
                            Unit ×
                              List UInt8 ×
                                List UInt8 ×
                                  List (Int × List UInt8 × Int × List UInt8 × Unit) ×
                                    List (List UInt8) ×
                                      Int × Int × Bool × List (List UInt8 × List UInt8 × List (Int × List UInt8 × Int × List UInt8 × Unit) × Unit) × Unit) =>
                        if v7.2.2.2.2.2.2.2.1 = true then some (Sum.inr (Sum.inr ((), 3, [], ())))
                        else
                          if decide ((v7.2.2.2.2.2.2.2.2.1.length + [(v7.2.1, v7.2.2.1, v7.2.2.2.1, Unit.unit)].length) * 56 ≤ 140737488355328) = true then
                            some
                              (Sum.inl
                                ((), v7.2.2.2.2.1, v7.2.2.2.2.2.1, IntKind.i64.wrap (v7.2.2.2.2.2.2.1 + 1),
                                  v7.2.2.2.2.2.2.2.2.1 ++ [(v7.2.1, v7.2.2.1, v7.2.2.2.1, Unit.unit)], ()))
                          else none
          else some (Sum.inr (Sum.inl ((), v1.2.2.2.2.1, ())))
noncomputable def M_route_Parse (F : Nat) (x : (List UInt8)) : Option ((List (El .rl)) × (Int)) :=
  (M_strings_Split F (x, [10])).bind fun (v0 : List (List UInt8)) =>
    (loopM (M_route_Parse_l0 F)
          F ((), v0, (↑v0.length : Int), 0, [], ())).bind
      fun
        (v8 :
          Unit × List (List UInt8 × List UInt8 × List (Int × List UInt8 × Int × List UInt8 × Unit) × Unit) × Unit ⊕
            Unit × Int × List (List UInt8 × List UInt8 × List (Int × List UInt8 × Int × List UInt8 × Unit) × Unit) × Unit) =>
      sumC v8
        (fun (v9 : Unit × List (List UInt8 × List UInt8 × List (Int × List UInt8 × Int × List UInt8 × Unit) × Unit) × Unit) =>
          (M_route_May F v9.2.1).bind fun (v10 : Bool) => if (!v10) = true then some ([], 3) else some (v9.2.1, 0))
        fun (v11 : Unit × Int × List (List UInt8 × List UInt8 × List (Int × List UInt8 × Int × List UInt8 × Unit) × Unit) × Unit) => some (v11.2.2.1, v11.2.1)
theorem t_route_Parse (x : (List UInt8)) (F : Nat) : fnRun TT Tryz.prog (e_route_Parse F) s_route_Parse (bodyOf 24) F x = M_route_Parse F x := by kernel_rfl
theorem c_route_Parse (F : Nat) : Ctr TT Tryz.prog 24 (conOf TT s_route_Parse (M_route_Parse F)) :=
  ctr_of (code := bodyOf 24) Tryz.func24 (by kernel_rfl) (by kernel_rfl) (by kernel_rfl) (by kernel_rfl) (envS_ok (envS_ok (envS_ok (envS_ok envN_ok (c_strings_Split F)) (c_strings_Cut F)) (c_prog_Parse F)) (c_route_May F)) hm (by kernel_rfl) (fun x r h => ⟨F, (t_route_Parse x F).trans h⟩)
noncomputable def s_route_Find : Spec Kd := { params := [(.a (.slc .rl)), (.a .str), (.a .str)], ret := (.one (.a (.int .i64))), pins := [], pl := { nt := 33, loops := [(0, ⟨[.tmp 1 (.a .str), .tmp 2 (.a .str), .tmp 9 (.a (.slc .rl)), .tmp 10 (.a (.int .i64)), .tmp 11 (.a (.int .i64))], [], []⟩, (.exit 0, ⟨[], [], []⟩), [(.ret, ⟨[.tmp 6 (.a (.int .i64))], [], []⟩)])], cuts := [(4, [(9, ⟨[.tmp 1 (.a .str), .tmp 2 (.a .str), .tmp 7 (.a (.int .i64)), .tmp 8 (.a (.ptr 512 0)), .tmp 9 (.a (.slc .rl)), .tmp 10 (.a (.int .i64)), .tmp 11 (.a (.int .i64)), .tmp 24 (.a .bool), .box 512 (.cells 41 [.str, .str, (.slc .ph)])], [], [.cellSlc 512 2 .ph]⟩), (6, ⟨[.tmp 1 (.a .str), .tmp 2 (.a .str), .tmp 7 (.a (.int .i64)), .tmp 9 (.a (.slc .rl)), .tmp 10 (.a (.int .i64)), .tmp 11 (.a (.int .i64)), .tmp 30 (.a .bool)], [], []⟩)])] }, rfrz := [], ts := [6] }
noncomputable def e_route_Find (F : Nat) : Env El := (envS 18 (conOf TT s_route_Fits (M_route_Fits F)) envN)
noncomputable def M_route_Find_l0 (F : Nat) (v0 : (List UInt8 × List UInt8 × List (List UInt8 × List UInt8 × List (Int × List UInt8 × Int × List UInt8 × Unit) × Unit) × Int × Int × Unit)) : Option ((List UInt8 × List UInt8 × List (List UInt8 × List UInt8 × List (Int × List UInt8 × Int × List UInt8 × Unit) × Unit) × Int × Int × Unit) ⊕ (Unit ⊕ Int × Unit)) :=
  if decide (v0.2.2.2.2.1 < v0.2.2.2.1) = true then
          (idx v0.2.2.1 v0.2.2.2.2.1).bind fun (v1 : List UInt8 × List UInt8 × List (Int × List UInt8 × Int × List UInt8 × Unit) × Unit) =>
            (if decide (v1.1 = v0.1) = false then
                  some (v0.1, v0.2.1, v0.2.2.2.2.1, (), v0.2.2.1, v0.2.2.2.1, v0.2.2.2.2.1, decide (v1.1 = [42]), (v1.1, v1.2.1, v1.2.2.1, ()), ())
                else some (v0.1, v0.2.1, v0.2.2.2.2.1, (), v0.2.2.1, v0.2.2.2.1, v0.2.2.2.2.1, true, (v1.1, v1.2.1, v1.2.2.1, ()), ())).bind
              fun
                (v2 :
                  List UInt8 ×
                    List UInt8 ×
                      Int ×
                        Unit ×
                          List (List UInt8 × List UInt8 × List (Int × List UInt8 × Int × List UInt8 × Unit) × Unit) ×
                            Int × Int × Bool × (List UInt8 × List UInt8 × List (Int × List UInt8 × Int × List UInt8 × Unit) × Unit) × Unit) =>
              (if v2.2.2.2.2.2.2.2.1 = true then
                    (M_route_Fits F (v2.2.2.2.2.2.2.2.2.1.2.1, v2.2.1)).bind fun (v3 : Bool) =>
                      some (v2.1, v2.2.1, v2.2.2.1, v2.2.2.2.2.1, v2.2.2.2.2.2.1, v2.2.2.2.2.2.2.1, v3, ())
                  else some (v2.1, v2.2.1, v2.2.2.1, v2.2.2.2.2.1, v2.2.2.2.2.2.1, v2.2.2.2.2.2.2.1, false, ())).bind
                fun
                  (v4 :
                    List UInt8 ×
                      List UInt8 ×
                        Int × List (List UInt8 × List UInt8 × List (Int × List UInt8 × Int × List UInt8 × Unit) × Unit) × Int × Int × Bool × Unit) =>
                if v4.2.2.2.2.2.2.1 = true then some (Sum.inr (Sum.inr (v4.2.2.1, ())))
                else some (Sum.inl (v4.1, v4.2.1, v4.2.2.2.1, v4.2.2.2.2.1, IntKind.i64.wrap (v4.2.2.2.2.2.1 + 1), ()))
        else some (Sum.inr (Sum.inl ()))
noncomputable def M_route_Find (F : Nat) (x : (List (El .rl)) × (List UInt8) × (List UInt8)) : Option (Int) :=
  (loopM (M_route_Find_l0 F)
        F (x.2.1, x.2.2, x.1, (↑x.1.length : Int), 0, ())).bind
    fun (v5 : Unit ⊕ Int × Unit) => sumC v5 (fun (v6 : Unit) => some (-1)) fun (v7 : Int × Unit) => some v7.1
theorem t_route_Find (x : (List (El .rl)) × (List UInt8) × (List UInt8)) (F : Nat) : fnRun TT Tryz.prog (e_route_Find F) s_route_Find (bodyOf 30) F x = M_route_Find F x := by kernel_rfl
theorem c_route_Find (F : Nat) : Ctr TT Tryz.prog 30 (conOf TT s_route_Find (M_route_Find F)) :=
  ctr_of (code := bodyOf 30) Tryz.func30 (by kernel_rfl) (by kernel_rfl) (by kernel_rfl) (by kernel_rfl) (envS_ok envN_ok (c_route_Fits F)) hm (by kernel_rfl) (fun x r h => ⟨F, (t_route_Find x F).trans h⟩)
noncomputable def s_route_Standard : Spec Kd := { params := [], ret := (.one (.a (.slc .rl))), pins := [], pl := { nt := 8 }, rfrz := [257], ts := [0] }
noncomputable def e_route_Standard (F : Nat) : Env El := (envS 24 (conOf TT s_route_Parse (M_route_Parse F)) envN)
noncomputable def M_route_Standard (F : Nat) (x : Unit) : Option (List (El .rl)) :=
  (M_route_Parse F
        [80, 79, 83, 84, 32, 47, 112, 97, 121, 58, 32, 110, 101, 101, 100, 32, 115, 117, 109, 32, 49, 48, 48, 48, 59, 32, 99, 97, 108, 108, 32, 100, 101, 98, 105,
          116, 32, 37, 123, 115, 117, 109, 125, 59, 32, 99, 97, 108, 108, 32, 99, 114, 101, 100, 105, 116, 32, 37, 123, 115, 117, 109, 125, 59, 32, 101, 110, 100,
          32, 50, 48, 49, 32, 112, 97, 105, 100, 32, 37, 123, 115, 117, 109, 125, 10, 80, 79, 83, 84, 32, 47, 110, 111, 116, 101, 47, 42, 58, 32, 111, 110, 108,
          121, 32, 52, 48, 59, 32, 99, 97, 108, 108, 32, 119, 114, 105, 116, 101, 32, 37, 98, 59, 32, 101, 110, 100, 32, 50, 48, 48, 32, 110, 111, 116, 101, 100,
          32, 37, 112, 10, 71, 69, 84, 32, 47, 42, 42, 58, 32, 101, 110, 100, 32, 50, 48, 48, 32, 37, 109, 32, 37, 112]).bind
    fun (v0 : List (List UInt8 × List UInt8 × List (Int × List UInt8 × Int × List UInt8 × Unit) × Unit) × Int) => some v0.1
theorem t_route_Standard (x : Unit) (F : Nat) : fnRun TT Tryz.prog (e_route_Standard F) s_route_Standard (bodyOf 29) F x = M_route_Standard F x := by kernel_rfl
theorem c_route_Standard (F : Nat) : Ctr TT Tryz.prog 29 (conOf TT s_route_Standard (M_route_Standard F)) :=
  ctr_of (code := bodyOf 29) Tryz.func29 (by kernel_rfl) (by kernel_rfl) (by kernel_rfl) (by kernel_rfl) (envS_ok envN_ok (c_route_Parse F)) hm (by kernel_rfl) (fun x r h => ⟨F, (t_route_Standard x F).trans h⟩)
end Go.Vm
