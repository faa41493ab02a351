/- Models of functions of the program, and that each keeps its contract: for all arguments of its shape. No condition. -/
import Derived.Test.YtgeafoacmnlioaaDoorKt
import Derived.Test.YtgeafoacmnlioaaDoorFref4
namespace Go.Vm
open Go.Proofs
set_option linter.unusedVariables false
noncomputable def s_conciergeref38_line : Spec Kd := { params := [(.a .str)], ret := (.tup [(.a .str), (.a .str), (.a .bool)]), pins := [], pl := { nt := 38, joins := [(800028, (.norm, ⟨[.tmp 0 (.a .str), .tmp 5 (.a (.int .i64)), .tmp 6 (.a .str)], [], []⟩), [])], loops := [(0, ⟨[.tmp 0 (.a .str), .tmp 5 (.a (.int .i64))], [], []⟩, (.exit 0, ⟨[], [], []⟩), [(.ret, ⟨[.tmp 2 (.a .str), .tmp 3 (.a .str), .tmp 4 (.a .bool)], [], []⟩)])], cuts := [(6, [(9, ⟨[.tmp 0 (.a .str), .tmp 5 (.a (.int .i64)), .tmp 6 (.a .str), .tmp 28 (.a .bool)], [], []⟩)])], ends := [(8, ⟨[.tmp 2 (.a .str), .tmp 3 (.a .str), .tmp 4 (.a .bool)], [], []⟩)] }, rfrz := [], ts := [2, 3, 4] }
noncomputable def e_conciergeref38_line (F : Nat) : Env El := envN
noncomputable def M_conciergeref38_line_l0 (F : Nat) (v0 : (List UInt8 × Int × Unit)) : Option ((List UInt8 × Int × Unit) ⊕ (Unit ⊕ List UInt8 × List UInt8 × Bool × Unit)) :=
  if decide (v0.2.1 < (↑v0.1.length : Int)) = true then
          (idx v0.1 v0.2.1).bind fun (v1 : UInt8) =>
            if decide ((↑v1.toNat : Int) = 10) = true then
              (sub v0.1 0 v0.2.1).bind fun (v2 : List UInt8) =>
                (if decide (0 < v0.2.1) = true then
                      (idx v0.1 (IntKind.i64.wrap (v0.2.1 - 1))).bind fun (v3 : UInt8) => some (v0.1, v0.2.1, v2, decide ((↑v3.toNat : Int) = 13), ())
                    else some (v0.1, v0.2.1, v2, false, ())).bind
                  fun (v4 : List UInt8 × Int × List UInt8 × Bool × Unit) =>
                  (if v4.2.2.2.1 = true then (sub v4.1 0 (IntKind.i64.wrap (v4.2.1 - 1))).bind fun (v5 : List UInt8) => some (v4.1, v4.2.1, v5, ())
                      else some (v4.1, v4.2.1, v4.2.2.1, ())).bind
                    fun (v6 : List UInt8 × Int × List UInt8 × Unit) =>
                    ((sub v6.1 (IntKind.i64.wrap (v6.2.1 + 1)) (↑v6.1.length : Int)).bind fun (v7 : List UInt8) => some (v6.2.2.1, v7, true, ())).bind
                      fun (v8 : List UInt8 × List UInt8 × Bool × Unit) => some (Sum.inr (Sum.inr (v8.1, v8.2.1, v8.2.2.1, ())))
            else some (Sum.inl (v0.1, IntKind.i64.wrap (v0.2.1 + 1), ()))
        else some (Sum.inr (Sum.inl ()))
noncomputable def M_conciergeref38_line (F : Nat) (x : (List UInt8)) : Option ((List UInt8) × (List UInt8) × (Bool)) :=
  (loopM (M_conciergeref38_line_l0 F)
        F (x, 0, ())).bind
    fun (v9 : Unit ⊕ List UInt8 × List UInt8 × Bool × Unit) =>
    sumC v9 (fun (v10 : Unit) => some ([], [], false)) fun (v11 : List UInt8 × List UInt8 × Bool × Unit) => some (v11.1, v11.2.1, v11.2.2.1)
theorem t_conciergeref38_line (x : (List UInt8)) (F : Nat) : fnRun TT Tryd.prog (e_conciergeref38_line F) s_conciergeref38_line (bodyOf 46) F x = M_conciergeref38_line F x := by kernel_rfl
theorem c_conciergeref38_line (F : Nat) : Ctr TT Tryd.prog 46 (conOf TT s_conciergeref38_line (M_conciergeref38_line F)) :=
  ctr_of (code := bodyOf 46) Tryd.func46 (by kernel_rfl) (by kernel_rfl) (by kernel_rfl) (by kernel_rfl) envN_ok hm (by kernel_rfl) (fun x r h => ⟨F, (t_conciergeref38_line x F).trans h⟩)
noncomputable def s_conciergeref38_Fold : Spec Kd := { params := [(.a .str)], ret := (.one (.a .str)), pins := [], pl := { nt := 29, joins := [(800020, (.norm, ⟨[.tmp 0 (.a .str), .tmp 3 (.a .str), .tmp 4 (.a (.int .i64)), .tmp 5 (.a (.int .u8))], [], []⟩), [])], loops := [(0, ⟨[.tmp 0 (.a .str), .tmp 3 (.a .str), .tmp 4 (.a (.int .i64))], [], []⟩, (.exit 0, ⟨[.tmp 3 (.a .str)], [], []⟩), [])], cuts := [(6, [(6, ⟨[.tmp 0 (.a .str), .tmp 3 (.a .str), .tmp 4 (.a (.int .i64)), .tmp 5 (.a (.int .u8)), .tmp 20 (.a .bool)], [], []⟩)])] }, rfrz := [], ts := [2] }
noncomputable def e_conciergeref38_Fold (F : Nat) : Env El := envN
noncomputable def M_conciergeref38_Fold_l0 (F : Nat) (v0 : (List UInt8 × List UInt8 × Int × Unit)) : Option ((List UInt8 × List UInt8 × Int × Unit) ⊕ (List UInt8 × Unit)) :=
  if decide (v0.2.2.1 < (↑v0.1.length : Int)) = true then
          (idx v0.1 v0.2.2.1).bind fun (v1 : UInt8) =>
            (if decide (65 ≤ (↑v1.toNat : Int)) = true then some (v0.1, v0.2.1, v0.2.2.1, (↑v1.toNat : Int), decide ((↑v1.toNat : Int) ≤ 90), ())
                else some (v0.1, v0.2.1, v0.2.2.1, (↑v1.toNat : Int), false, ())).bind
              fun (v2 : List UInt8 × List UInt8 × Int × Int × Bool × Unit) =>
              (if v2.2.2.2.2.1 = true then some (v2.1, v2.2.1, v2.2.2.1, IntKind.u8.wrap (v2.2.2.2.1 + 32), ())
                  else some (v2.1, v2.2.1, v2.2.2.1, v2.2.2.2.1, ())).bind
                fun (v3 : List UInt8 × List UInt8 × Int × Int × Unit) =>
                if decide (v3.2.1.length + [UInt8.ofNat v3.2.2.2.1.toNat].length ≤ 9223372036854775807) = true then
                  some (Sum.inl (v3.1, v3.2.1 ++ [UInt8.ofNat v3.2.2.2.1.toNat], IntKind.i64.wrap (v3.2.2.1 + 1), ()))
                else none
        else some (Sum.inr (v0.2.1, ()))
noncomputable def M_conciergeref38_Fold (F : Nat) (x : (List UInt8)) : Option (List UInt8) :=
  (loopM (M_conciergeref38_Fold_l0 F)
        F (x, [], 0, ())).bind
    fun (v4 : List UInt8 × Unit) => some v4.1
theorem t_conciergeref38_Fold (x : (List UInt8)) (F : Nat) : fnRun TT Tryd.prog (e_conciergeref38_Fold F) s_conciergeref38_Fold (bodyOf 20) F x = M_conciergeref38_Fold F x := by kernel_rfl
theorem c_conciergeref38_Fold (F : Nat) : Ctr TT Tryd.prog 20 (conOf TT s_conciergeref38_Fold (M_conciergeref38_Fold F)) :=
  ctr_of (code := bodyOf 20) Tryd.func20 (by kernel_rfl) (by kernel_rfl) (by kernel_rfl) (by kernel_rfl) envN_ok hm (by kernel_rfl) (fun x r h => ⟨F, (t_conciergeref38_Fold x F).trans h⟩)
noncomputable def s_conciergeref38_name : Spec Kd := { params := [(.a .str)], ret := (.one (.a .bool)), pins := [], pl := { nt := 45, loops := [(0, ⟨[.tmp 0 (.a .str), .tmp 3 (.a (.int .i64))], [], []⟩, (.exit 0, ⟨[.tmp 0 (.a .str)], [], []⟩), [(.ret, ⟨[.tmp 2 (.a .bool)], [], []⟩)])], cuts := [(7, [(8, ⟨[.tmp 44 (.a .bool)], [], []⟩)]), (5, [(6, ⟨[.tmp 0 (.a .str), .tmp 3 (.a (.int .i64)), .tmp 4 (.a (.int .u8)), .tmp 23 (.a .bool)], [], []⟩), (8, ⟨[.tmp 0 (.a .str), .tmp 3 (.a (.int .i64)), .tmp 4 (.a (.int .u8)), .tmp 31 (.a .bool)], [], []⟩), (4, ⟨[.tmp 0 (.a .str), .tmp 3 (.a (.int .i64)), .tmp 35 (.a .bool)], [], []⟩)])] }, rfrz := [], ts := [2] }
noncomputable def e_conciergeref38_name (F : Nat) : Env El := (envS 20 (conOf TT s_conciergeref38_Fold (M_conciergeref38_Fold F)) envN)
noncomputable def M_conciergeref38_name_l0 (F : Nat) (v0 : (List UInt8 × Int × Unit)) : Option ((List UInt8 × Int × Unit) ⊕ (List UInt8 × Unit ⊕ Bool × Unit)) :=
  if decide (v0.2.1 < (↑v0.1.length : Int)) = true then
          (sub v0.1 v0.2.1 (IntKind.i64.wrap (v0.2.1 + 1))).bind fun (v1 : List UInt8) =>
            (M_conciergeref38_Fold F v1).bind fun (v2 : List UInt8) =>
              (idx v2 0).bind fun (v3 : UInt8) =>
                (if decide (97 ≤ (↑v3.toNat : Int)) = true then some (v0.1, v0.2.1, (↑v3.toNat : Int), decide ((↑v3.toNat : Int) ≤ 122), ())
                    else some (v0.1, v0.2.1, (↑v3.toNat : Int), false, ())).bind
                  fun (v4 : List UInt8 × Int × Int × Bool × Unit) =>
                  (if v4.2.2.2.1 = false then
                        if decide (48 ≤ v4.2.2.1) = true then some (v4.1, v4.2.1, v4.2.2.1, decide (v4.2.2.1 ≤ 57), ())
                        else some (v4.1, v4.2.1, v4.2.2.1, false, ())
                      else some (v4.1, v4.2.1, v4.2.2.1, true, ())).bind
                    fun (v5 : List UInt8 × Int × Int × Bool × Unit) =>
                    (if v5.2.2.2.1 = false then some (v5.1, v5.2.1, decide (v5.2.2.1 = 45), ()) else some (v5.1, v5.2.1, true, ())).bind
                      fun (v6 : List UInt8 × Int × Bool × Unit) =>
                      if (!v6.2.2.1) = true then some (Sum.inr (Sum.inr (false, ()))) else some (Sum.inl (v6.1, IntKind.i64.wrap (v6.2.1 + 1), ()))
        else some (Sum.inr (Sum.inl (v0.1, ())))
noncomputable def M_conciergeref38_name (F : Nat) (x : (List UInt8)) : Option (Bool) :=
  (loopM (M_conciergeref38_name_l0 F)
        F (x, 0, ())).bind
    fun (v7 : List UInt8 × Unit ⊕ Bool × Unit) =>
    sumC v7
      (fun (v8 : List UInt8 × Unit) =>
        (if decide (1 ≤ (↑v8.1.length : Int)) = true then some (decide ((↑v8.1.length : Int) ≤ 20), ()) else some (false, ())).bind fun (v9 : Bool × Unit) =>
          some v9.1)
      fun (v10 : Bool × Unit) => some v10.1
theorem t_conciergeref38_name (x : (List UInt8)) (F : Nat) : fnRun TT Tryd.prog (e_conciergeref38_name F) s_conciergeref38_name (bodyOf 48) F x = M_conciergeref38_name F x := by kernel_rfl
theorem c_conciergeref38_name (F : Nat) : Ctr TT Tryd.prog 48 (conOf TT s_conciergeref38_name (M_conciergeref38_name F)) :=
  ctr_of (code := bodyOf 48) Tryd.func48 (by kernel_rfl) (by kernel_rfl) (by kernel_rfl) (by kernel_rfl) (envS_ok envN_ok (c_conciergeref38_Fold F)) hm (by kernel_rfl) (fun x r h => ⟨F, (t_conciergeref38_name x F).trans h⟩)
noncomputable def s_conciergeref38_trim : Spec Kd := { params := [(.a .str)], ret := (.one (.a .str)), pins := [], pl := { nt := 43, loops := [(2, ⟨[.tmp 0 (.a .str)], [], []⟩, (.exit 2, ⟨[.tmp 0 (.a .str)], [], []⟩), []), (0, ⟨[.tmp 0 (.a .str)], [], []⟩, (.exit 0, ⟨[.tmp 0 (.a .str)], [], []⟩), [])], cuts := [(3, [(19, ⟨[.tmp 0 (.a .str), .tmp 36 (.a .bool)], [], []⟩)]), (1, [(13, ⟨[.tmp 0 (.a .str), .tmp 15 (.a .bool)], [], []⟩)])] }, rfrz := [], ts := [2] }
noncomputable def e_conciergeref38_trim (F : Nat) : Env El := envN
noncomputable def M_conciergeref38_trim_l0 (F : Nat) (v0 : (List UInt8 × Unit)) : Option ((List UInt8 × Unit) ⊕ (List UInt8 × Unit)) :=
  (if decide (0 < (↑v0.1.length : Int)) = true then
              (idx v0.1 0).bind fun (v1 : UInt8) =>
                if decide ((↑v1.toNat : Int) = 32) = false then (idx v0.1 0).bind fun (v2 : UInt8) => some (v0.1, decide ((↑v2.toNat : Int) = 9), ())
                else some (v0.1, true, ())
            else some (v0.1, false, ())).bind
          fun (v3 : List UInt8 × Bool × Unit) =>
          if v3.2.1 = true then (sub v3.1 1 (↑v3.1.length : Int)).bind fun (v4 : List UInt8) => some (Sum.inl (v4, ())) else some (Sum.inr (v3.1, ()))
noncomputable def M_conciergeref38_trim_l1 (F : Nat) (v6 : (List UInt8 × Unit)) : Option ((List UInt8 × Unit) ⊕ (List UInt8 × Unit)) :=
  (if decide (0 < (↑v6.1.length : Int)) = true then
                (idx v6.1 (IntKind.i64.wrap ((↑v6.1.length : Int) - 1))).bind fun (v7 : UInt8) =>
                  if decide ((↑v7.toNat : Int) = 32) = false then
                    (idx v6.1 (IntKind.i64.wrap ((↑v6.1.length : Int) - 1))).bind fun (v8 : UInt8) => some (v6.1, decide ((↑v8.toNat : Int) = 9), ())
                  else some (v6.1, true, ())
              else some (v6.1, false, ())).bind
            fun (v9 : List UInt8 × Bool × Unit) =>
            if v9.2.1 = true then (sub v9.1 0 (IntKind.i64.wrap ((↑v9.1.length : Int) - 1))).bind fun (v10 : List UInt8) => some (Sum.inl (v10, ()))
            else some (Sum.inr (v9.1, ()))
noncomputable def M_conciergeref38_trim (F : Nat) (x : (List UInt8)) : Option (List UInt8) :=
  (loopM (M_conciergeref38_trim_l0 F)
        F (x, ())).bind
    fun (v5 : List UInt8 × Unit) =>
    (loopM (M_conciergeref38_trim_l1 F)
          F (v5.1, ())).bind
      fun (v11 : List UInt8 × Unit) => some v11.1
theorem t_conciergeref38_trim (x : (List UInt8)) (F : Nat) : fnRun TT Tryd.prog (e_conciergeref38_trim F) s_conciergeref38_trim (bodyOf 50) F x = M_conciergeref38_trim F x := by kernel_rfl
theorem c_conciergeref38_trim (F : Nat) : Ctr TT Tryd.prog 50 (conOf TT s_conciergeref38_trim (M_conciergeref38_trim F)) :=
  ctr_of (code := bodyOf 50) Tryd.func50 (by kernel_rfl) (by kernel_rfl) (by kernel_rfl) (by kernel_rfl) envN_ok hm (by kernel_rfl) (fun x r h => ⟨F, (t_conciergeref38_trim x F).trans h⟩)
noncomputable def s_conciergeref38_value : Spec Kd := { params := [(.a .str)], ret := (.one (.a .bool)), pins := [], pl := { nt := 9, cuts := [(1, [(6, ⟨[.tmp 8 (.a .bool)], [], []⟩)])] }, rfrz := [], ts := [2] }
noncomputable def e_conciergeref38_value (F : Nat) : Env El := (envS 77 (conOf TT s_conciergeref04_Right (M_conciergeref04_Right F)) envN)
noncomputable def M_conciergeref38_value (F : Nat) (x : (List UInt8)) : Option (Bool) :=
  (if decide (x = []) = false then (M_conciergeref04_Right F (x, 60)).bind fun (v0 : Bool) => some (v0, ()) else some (true, ())).bind fun (v1 : Bool × Unit) =>
    some v1.1
theorem t_conciergeref38_value (x : (List UInt8)) (F : Nat) : fnRun TT Tryd.prog (e_conciergeref38_value F) s_conciergeref38_value (bodyOf 49) F x = M_conciergeref38_value F x := by kernel_rfl
theorem c_conciergeref38_value (F : Nat) : Ctr TT Tryd.prog 49 (conOf TT s_conciergeref38_value (M_conciergeref38_value F)) :=
  ctr_of (code := bodyOf 49) Tryd.func49 (by kernel_rfl) (by kernel_rfl) (by kernel_rfl) (by kernel_rfl) (envS_ok envN_ok (c_conciergeref04_Right F)) hm (by kernel_rfl) (fun x r h => ⟨F, (t_conciergeref38_value x F).trans h⟩)
noncomputable def s_conciergeref38_at : Spec Kd := { params := [(.a .str), (.a (.int .u8))], ret := (.one (.a (.int .i64))), pins := [], pl := { nt := 20, loops := [(0, ⟨[.tmp 0 (.a .str), .tmp 1 (.a (.int .u8)), .tmp 5 (.a (.int .i64))], [], []⟩, (.exit 0, ⟨[.tmp 0 (.a .str)], [], []⟩), [(.ret, ⟨[.tmp 4 (.a (.int .i64))], [], []⟩)])] }, rfrz := [], ts := [4] }
noncomputable def e_conciergeref38_at (F : Nat) : Env El := envN
noncomputable def M_conciergeref38_at_l0 (F : Nat) (v0 : (List UInt8 × Int × Int × Unit)) : Option ((List UInt8 × Int × Int × Unit) ⊕ (List UInt8 × Unit ⊕ Int × Unit)) :=
  if decide (v0.2.2.1 < (↑v0.1.length : Int)) = true then
          (idx v0.1 v0.2.2.1).bind fun (v1 : UInt8) =>
            if decide ((↑v1.toNat : Int) = v0.2.1) = true then some (Sum.inr (Sum.inr (v0.2.2.1, ())))
            else some (Sum.inl (v0.1, v0.2.1, IntKind.i64.wrap (v0.2.2.1 + 1), ()))
        else some (Sum.inr (Sum.inl (v0.1, ())))
noncomputable def M_conciergeref38_at (F : Nat) (x : (List UInt8) × (Int)) : Option (Int) :=
  (loopM (M_conciergeref38_at_l0 F)
        F (x.1, x.2, 0, ())).bind
    fun (v2 : List UInt8 × Unit ⊕ Int × Unit) => sumC v2 (fun (v3 : List UInt8 × Unit) => some (↑v3.1.length : Int)) fun (v4 : Int × Unit) => some v4.1
theorem t_conciergeref38_at (x : (List UInt8) × (Int)) (F : Nat) : fnRun TT Tryd.prog (e_conciergeref38_at F) s_conciergeref38_at (bodyOf 47) F x = M_conciergeref38_at F x := by kernel_rfl
theorem c_conciergeref38_at (F : Nat) : Ctr TT Tryd.prog 47 (conOf TT s_conciergeref38_at (M_conciergeref38_at F)) :=
  ctr_of (code := bodyOf 47) Tryd.func47 (by kernel_rfl) (by kernel_rfl) (by kernel_rfl) (by kernel_rfl) envN_ok hm (by kernel_rfl) (fun x r h => ⟨F, (t_conciergeref38_at x F).trans h⟩)
noncomputable def s_conciergeref38_Read : Spec Kd := { params := [(.a .str)], ret := (.tup [(.agg [.str, .str, .str, (.slc .fe)]), (.a (.int .i64))]), pins := [], pl := { nt := 114, loops := [(2, ⟨[.tmp 2 (.a (.ptr 128 0)), .tmp 4 (.a .str), .tmp 5 (.a .str), .tmp 7 (.a (.int .i64)), .tmp 8 (.a (.ptr 512 0)), .tmp 9 (.a .str), .tmp 10 (.a (.int .i64)), .box 128 (.cells 44 [.str, .str, .str, (.slc .fe)]), .box 512 (.cells 44 [.str, .str, .str, (.rowp 1032771)]), .box 1032771 (.row 87 .fe)], [], [.cellSlc 128 3 .fe, .cellRow 512 3 1032771 87 .fe]⟩, (.exit 2, ⟨[.tmp 2 (.a (.ptr 128 0)), .tmp 4 (.a .str), .tmp 5 (.a .str), .tmp 7 (.a (.int .i64)), .tmp 8 (.a (.ptr 512 0)), .tmp 9 (.a .str), .box 128 (.cells 44 [.str, .str, .str, (.slc .fe)]), .box 512 (.cells 44 [.str, .str, .str, (.rowp 1032771)]), .box 1032771 (.row 87 .fe)], [], [.cellSlc 128 3 .fe, .cellRow 512 3 1032771 87 .fe]⟩), [(.ret, ⟨[.tmp 2 (.a (.ptr 128 0)), .tmp 3 (.a (.int .i64)), .box 128 (.cells 44 [.str, .str, .str, (.slc .fe)])], [], [.cellSlc 128 3 .fe]⟩)]), (0, ⟨[.tmp 2 (.a (.ptr 128 0)), .tmp 5 (.a .str), .tmp 8 (.a (.ptr 512 0)), .box 128 (.cells 44 [.str, .str, .str, (.slc .fe)]), .box 512 (.cells 44 [.str, .str, .str, (.rowp 1032771)]), .box 1032771 (.row 87 .fe)], [], [.cellSlc 128 3 .fe, .cellRow 512 3 1032771 87 .fe]⟩, (.ret, ⟨[.tmp 2 (.a (.ptr 128 0)), .tmp 3 (.a (.int .i64)), .box 128 (.cells 44 [.str, .str, .str, (.slc .fe)])], [], [.cellSlc 128 3 .fe]⟩), [])], cuts := [(15, [(11, ⟨[.tmp 2 (.a (.ptr 128 0)), .tmp 4 (.a .str), .tmp 5 (.a .str), .tmp 7 (.a (.int .i64)), .tmp 8 (.a (.ptr 512 0)), .tmp 71 (.a .bool), .box 128 (.cells 44 [.str, .str, .str, (.slc .fe)]), .box 512 (.cells 44 [.str, .str, .str, (.rowp 1032771)]), .box 1032771 (.row 87 .fe)], [], [.cellSlc 128 3 .fe, .cellRow 512 3 1032771 87 .fe]⟩), (9, ⟨[.tmp 2 (.a (.ptr 128 0)), .tmp 4 (.a .str), .tmp 5 (.a .str), .tmp 7 (.a (.int .i64)), .tmp 8 (.a (.ptr 512 0)), .tmp 80 (.a .bool), .box 128 (.cells 44 [.str, .str, .str, (.slc .fe)]), .box 512 (.cells 44 [.str, .str, .str, (.rowp 1032771)]), .box 1032771 (.row 87 .fe)], [], [.cellSlc 128 3 .fe, .cellRow 512 3 1032771 87 .fe]⟩)]), (5, [(6, ⟨[.tmp 2 (.a (.ptr 128 0)), .tmp 4 (.a .str), .tmp 5 (.a .str), .tmp 7 (.a (.int .i64)), .tmp 28 (.a .bool), .box 128 (.cells 44 [.str, .str, .str, (.slc .fe)])], [], [.cellSlc 128 3 .fe]⟩), (7, ⟨[.tmp 2 (.a (.ptr 128 0)), .tmp 4 (.a .str), .tmp 5 (.a .str), .tmp 7 (.a (.int .i64)), .tmp 35 (.a .bool), .box 128 (.cells 44 [.str, .str, .str, (.slc .fe)])], [], [.cellSlc 128 3 .fe]⟩)])], ends := [(7, ⟨[.tmp 2 (.a (.ptr 128 0)), .tmp 5 (.a .str), .tmp 8 (.a (.ptr 512 0)), .box 128 (.cells 44 [.str, .str, .str, (.slc .fe)]), .box 512 (.cells 44 [.str, .str, .str, (.rowp 1032771)]), .box 1032771 (.row 87 .fe)], [], [.cellSlc 128 3 .fe, .cellRow 512 3 1032771 87 .fe]⟩)], frz := [(13, [1032771])] }, rfrz := [], ts := [114, 115], rc := [(2, some 44), (3, none)], rco := [.cellSlc 128 3 .fe] }
noncomputable def e_conciergeref38_Read (F : Nat) : Env El := (envS 20 (conOf TT s_conciergeref38_Fold (M_conciergeref38_Fold F)) (envS 49 (conOf TT s_conciergeref38_value (M_conciergeref38_value F)) (envS 50 (conOf TT s_conciergeref38_trim (M_conciergeref38_trim F)) (envS 48 (conOf TT s_conciergeref38_name (M_conciergeref38_name F)) (envS 47 (conOf TT s_conciergeref38_at (M_conciergeref38_at F)) (envS 46 (conOf TT s_conciergeref38_line (M_conciergeref38_line F)) envN))))))
noncomputable def M_conciergeref38_Read_l0 (F : Nat) (v19 : (Unit ×
                                                List UInt8 ×
                                                  List UInt8 ×
                                                    Int ×
                                                      Unit ×
                                                        List UInt8 ×
                                                          Int ×
                                                            (List UInt8 × List UInt8 × List UInt8 × List (List UInt8 × List UInt8 × Unit) × Unit) ×
                                                              (List UInt8 × List UInt8 × List UInt8 × Unit × Unit) ×
                                                                List (List UInt8 × List UInt8 × Unit) × Unit)) : Option ((Unit ×
                                                List UInt8 ×
                                                  List UInt8 ×
                                                    Int ×
                                                      Unit ×
                                                        List UInt8 ×
                                                          Int ×
                                                            (List UInt8 × List UInt8 × List UInt8 × List (List UInt8 × List UInt8 × Unit) × Unit) ×
                                                              (List UInt8 × List UInt8 × List UInt8 × Unit × Unit) ×
                                                                List (List UInt8 × List UInt8 × Unit) × Unit) ⊕ (Unit ×
                                                  List UInt8 ×
                                                    List UInt8 ×
                                                      Int ×
                                                        Unit ×
                                                          List UInt8 ×
                                                            (List UInt8 × List UInt8 × List UInt8 × List (List UInt8 × List UInt8 × Unit) × Unit) ×
                                                              (List UInt8 × List UInt8 × List UInt8 × Unit × Unit) ×
                                                                List (List UInt8 × List UInt8 × Unit) × Unit ⊕
                                                Unit × Int × (List UInt8 × List UInt8 × List UInt8 × List (List UInt8 × List UInt8 × Unit) × Unit) × Unit)) :=
  if decide (v19.2.2.2.2.2.2.1 < (↑v19.2.2.2.2.2.2.2.2.2.1.length : Int)) = true then
                                                  (idx v19.2.2.2.2.2.2.2.2.2.1 v19.2.2.2.2.2.2.1).bind fun (v20 : List UInt8 × List UInt8 × Unit) =>
                                                    if decide (v20.1 = v19.2.2.2.2.2.1) = true then some (Sum.inr (Sum.inr ((), 7, ([], [], [], [], ()), ())))
                                                    else
                                                      some
                                                        (Sum.inl
                                                          ((), v19.2.1, v19.2.2.1, v19.2.2.2.1, (), v19.2.2.2.2.2.1, IntKind.i64.wrap (v19.2.2.2.2.2.2.1 + 1),
                                                            (v19.2.2.2.2.2.2.2.1.1, v19.2.2.2.2.2.2.2.1.2.1, v19.2.2.2.2.2.2.2.1.2.2.1,
                                                              v19.2.2.2.2.2.2.2.1.2.2.2.1, ()),
                                                            (v19.2.2.2.2.2.2.2.2.1.1, v19.2.2.2.2.2.2.2.2.1.2.1, v19.2.2.2.2.2.2.2.2.1.2.2.1, (), ()),
                                                            v19.2.2.2.2.2.2.2.2.2.1, ()))
                                                else
                                                  some
                                                    (Sum.inr
                                                      (Sum.inl
                                                        ((), v19.2.1, v19.2.2.1, v19.2.2.2.1, (), v19.2.2.2.2.2.1,
                                                          (v19.2.2.2.2.2.2.2.1.1, v19.2.2.2.2.2.2.2.1.2.1, v19.2.2.2.2.2.2.2.1.2.2.1,
                                                            v19.2.2.2.2.2.2.2.1.2.2.2.1, ()),
                                                          (v19.2.2.2.2.2.2.2.2.1.1, v19.2.2.2.2.2.2.2.2.1.2.1, v19.2.2.2.2.2.2.2.2.1.2.2.1, (), ()),
                                                          v19.2.2.2.2.2.2.2.2.2.1, ())))
noncomputable def M_conciergeref38_Read_l1 (F : Nat) (v7 : (Unit ×
                      List UInt8 ×
                        Unit ×
                          (List UInt8 × List UInt8 × List UInt8 × List (List UInt8 × List UInt8 × Unit) × Unit) ×
                            (List UInt8 × List UInt8 × List UInt8 × Unit × Unit) × List (List UInt8 × List UInt8 × Unit) × Unit)) : Option ((Unit ×
                      List UInt8 ×
                        Unit ×
                          (List UInt8 × List UInt8 × List UInt8 × List (List UInt8 × List UInt8 × Unit) × Unit) ×
                            (List UInt8 × List UInt8 × List UInt8 × Unit × Unit) × List (List UInt8 × List UInt8 × Unit) × Unit) ⊕ (Unit × Int × (List UInt8 × List UInt8 × List UInt8 × List (List UInt8 × List UInt8 × Unit) × Unit) × Unit)) :=
  (M_conciergeref38_line F v7.2.1).bind fun (v8 : List UInt8 × List UInt8 × Bool) =>
                        if (!v8.2.2) = true then some (Sum.inr ((), 3, ([], [], [], [], ()), ()))
                        else
                          if decide (v8.1 = []) = true then some (Sum.inr ((), 0, (v7.2.2.2.2.1.1, v7.2.2.2.2.1.2.1, v8.2.1, v7.2.2.2.2.2.1, ()), ()))
                          else
                            (M_conciergeref38_at F (v8.1, 58)).bind fun (v9 : Int) =>
                              (if decide (v9 = (↑v8.1.length : Int)) = false then
                                    (sub v8.1 0 v9).bind fun (v10 : List UInt8) =>
                                      (M_conciergeref38_name F v10).bind fun (v11 : Bool) =>
                                        some
                                          ((), v8.1, v8.2.1, v9, (), !v11, (v7.2.2.2.1.1, v7.2.2.2.1.2.1, v7.2.2.2.1.2.2.1, v7.2.2.2.1.2.2.2.1, ()),
                                            (v7.2.2.2.2.1.1, v7.2.2.2.2.1.2.1, v7.2.2.2.2.1.2.2.1, (), ()), v7.2.2.2.2.2.1, ())
                                  else
                                    some
                                      ((), v8.1, v8.2.1, v9, (), true, (v7.2.2.2.1.1, v7.2.2.2.1.2.1, v7.2.2.2.1.2.2.1, v7.2.2.2.1.2.2.2.1, ()),
                                        (v7.2.2.2.2.1.1, v7.2.2.2.2.1.2.1, v7.2.2.2.2.1.2.2.1, (), ()), v7.2.2.2.2.2.1, ())).bind
                                fun
                                  (v12 :
                                    Unit ×
                                      List UInt8 ×
                                        List UInt8 ×
                                          Int ×
                                            Unit ×
                                              Bool ×
                                                (List UInt8 × List UInt8 × List UInt8 × List (List UInt8 × List UInt8 × Unit) × Unit) ×
                                                  (List UInt8 × List UInt8 × List UInt8 × Unit × Unit) × List (List UInt8 × List UInt8 × Unit) × Unit) =>
                                (if v12.2.2.2.2.2.1 = false then
                                      (sub v12.2.1 (IntKind.i64.wrap (v12.2.2.2.1 + 1)) (↑v12.2.1.length : Int)).bind fun (v13 : List UInt8) =>
                                        (M_conciergeref38_trim F v13).bind fun (v14 : List UInt8) =>
                                          (M_conciergeref38_value F v14).bind fun (v15 : Bool) =>
                                            some
                                              ((), v12.2.1, v12.2.2.1, v12.2.2.2.1, (), !v15,
                                                (v12.2.2.2.2.2.2.1.1, v12.2.2.2.2.2.2.1.2.1, v12.2.2.2.2.2.2.1.2.2.1, v12.2.2.2.2.2.2.1.2.2.2.1, ()),
                                                (v12.2.2.2.2.2.2.2.1.1, v12.2.2.2.2.2.2.2.1.2.1, v12.2.2.2.2.2.2.2.1.2.2.1, (), ()), v12.2.2.2.2.2.2.2.2.1, ())
                                    else
                                      some
                                        ((), v12.2.1, v12.2.2.1, v12.2.2.2.1, (), true,
                                          (v12.2.2.2.2.2.2.1.1, v12.2.2.2.2.2.2.1.2.1, v12.2.2.2.2.2.2.1.2.2.1, v12.2.2.2.2.2.2.1.2.2.2.1, ()),
                                          (v12.2.2.2.2.2.2.2.1.1, v12.2.2.2.2.2.2.2.1.2.1, v12.2.2.2.2.2.2.2.1.2.2.1, (), ()), v12.2.2.2.2.2.2.2.2.1, ())).bind
                                  fun
                                    (v16 :
                                      Unit ×
                                        List UInt8 ×
                                          List UInt8 ×
                                            Int ×
                                              Unit ×
                                                Bool ×
                                                  (List UInt8 × List UInt8 × List UInt8 × List (List UInt8 × List UInt8 × Unit) × Unit) ×
                                                    (List UInt8 × List UInt8 × List UInt8 × Unit × Unit) × List (List UInt8 × List UInt8 × Unit) × Unit) =>
                                  if v16.2.2.2.2.2.1 = true then some (Sum.inr ((), 3, ([], [], [], [], ()), ()))
                                  else
                                    (sub v16.2.1 0 v16.2.2.2.1).bind fun (v17 : List UInt8) =>
                                      (M_conciergeref38_Fold F v17).bind fun (v18 : List UInt8) =>
                                        (loopM (M_conciergeref38_Read_l0 F)
                                              F
                                              ((), v16.2.1, v16.2.2.1, v16.2.2.2.1, (), v18, 0,
                                                (v16.2.2.2.2.2.2.1.1, v16.2.2.2.2.2.2.1.2.1, v16.2.2.2.2.2.2.1.2.2.1, v16.2.2.2.2.2.2.1.2.2.2.1, ()),
                                                (v16.2.2.2.2.2.2.2.1.1, v16.2.2.2.2.2.2.2.1.2.1, v16.2.2.2.2.2.2.2.1.2.2.1, (), ()), v16.2.2.2.2.2.2.2.2.1,
                                                ())).bind
                                          fun
                                            (v21 :
                                              Unit ×
                                                  List UInt8 ×
                                                    List UInt8 ×
                                                      Int ×
                                                        Unit ×
                                                          List UInt8 ×
                                                            (List UInt8 × List UInt8 × List UInt8 × List (List UInt8 × List UInt8 × Unit) × Unit) ×
                                                              (List UInt8 × List UInt8 × List UInt8 × Unit × Unit) ×
                                                                List (List UInt8 × List UInt8 × Unit) × Unit ⊕
                                                Unit ×
                                                  Int × (List UInt8 × List UInt8 × List UInt8 × List (List UInt8 × List UInt8 × Unit) × Unit) × Unit) =>
                                          sumC v21
                                            (fun
                                                (v22 :
                                                  Unit ×
                                                    List UInt8 ×
                                                      List UInt8 ×
                                                        Int ×
                                                          Unit ×
                                                            List UInt8 ×
                                                              (List UInt8 × List UInt8 × List UInt8 × List (List UInt8 × List UInt8 × Unit) × Unit) ×
                                                                (List UInt8 × List UInt8 × List UInt8 × Unit × Unit) ×
                                                                  List (List UInt8 × List UInt8 × Unit) × Unit) =>
                                              (sub v22.2.1 (IntKind.i64.wrap (v22.2.2.2.1 + 1)) (↑v22.2.1.length : Int)).bind fun (v23 : List UInt8) =>
                                                (M_conciergeref38_trim F v23).bind fun (v24 : List UInt8) =>
                                                  if
                                                      decide
                                                          ((v22.2.2.2.2.2.2.2.2.1.length + [(v22.2.2.2.2.2.1, v24, Unit.unit)].length) * 32 ≤
                                                            140737488355328) =
                                                        true then
                                                    some
                                                      (Sum.inl
                                                        ((), v22.2.2.1, (),
                                                          (v22.2.2.2.2.2.2.1.1, v22.2.2.2.2.2.2.1.2.1, v22.2.2.2.2.2.2.1.2.2.1, v22.2.2.2.2.2.2.1.2.2.2.1, ()),
                                                          (v22.2.2.2.2.2.2.2.1.1, v22.2.2.2.2.2.2.2.1.2.1, v22.2.2.2.2.2.2.2.1.2.2.1, (), ()),
                                                          v22.2.2.2.2.2.2.2.2.1 ++ [(v22.2.2.2.2.2.1, v24, Unit.unit)], ()))
                                                  else none)
                                            fun
                                              (v25 :
                                                Unit ×
                                                  Int × (List UInt8 × List UInt8 × List UInt8 × List (List UInt8 × List UInt8 × Unit) × Unit) × Unit) =>
                                            some (Sum.inr ((), v25.2.1, (v25.2.2.1.1, v25.2.2.1.2.1, v25.2.2.1.2.2.1, v25.2.2.1.2.2.2.1, ()), ()))
noncomputable def M_conciergeref38_Read (F : Nat) (x : (List UInt8)) : Option (((List UInt8) × (List UInt8) × (List UInt8) × (List (El .fe)) × Unit) × (Int)) :=
  if decide (600 < (↑x.length : Int)) = true then some (([], [], [], [], ()), 5)
  else
    (M_conciergeref38_line F x).bind fun (v0 : List UInt8 × List UInt8 × Bool) =>
      (M_conciergeref38_at F (v0.1, 32)).bind fun (v1 : Int) =>
        (if (!v0.2.2) = false then some ((), v0.1, v0.2.1, v1, decide (v1 = 0), ([], [], [], [], ()), ())
            else some ((), v0.1, v0.2.1, v1, true, ([], [], [], [], ()), ())).bind
          fun
            (v2 :
              Unit × List UInt8 × List UInt8 × Int × Bool × (List UInt8 × List UInt8 × List UInt8 × List (List UInt8 × List UInt8 × Unit) × Unit) × Unit) =>
          (if v2.2.2.2.2.1 = false then
                some
                  ((), v2.2.1, v2.2.2.1, v2.2.2.2.1, decide (IntKind.i64.wrap ((↑v2.2.1.length : Int) - 1) ≤ v2.2.2.2.1),
                    (v2.2.2.2.2.2.1.1, v2.2.2.2.2.2.1.2.1, v2.2.2.2.2.2.1.2.2.1, v2.2.2.2.2.2.1.2.2.2.1, ()), ())
              else
                some ((), v2.2.1, v2.2.2.1, v2.2.2.2.1, true, (v2.2.2.2.2.2.1.1, v2.2.2.2.2.2.1.2.1, v2.2.2.2.2.2.1.2.2.1, v2.2.2.2.2.2.1.2.2.2.1, ()), ())).bind
            fun
              (v3 :
                Unit × List UInt8 × List UInt8 × Int × Bool × (List UInt8 × List UInt8 × List UInt8 × List (List UInt8 × List UInt8 × Unit) × Unit) × Unit) =>
            if v3.2.2.2.2.1 = true then some (([], [], [], [], ()), 3)
            else
              ((sub v3.2.1 0 v3.2.2.2.1).bind fun (v4 : List UInt8) =>
                    (sub v3.2.1 (IntKind.i64.wrap (v3.2.2.2.1 + 1)) (↑v3.2.1.length : Int)).bind fun (v5 : List UInt8) =>
                      some
                        ((), v3.2.2.1, (), (v3.2.2.2.2.2.1.1, v3.2.2.2.2.2.1.2.1, v3.2.2.2.2.2.1.2.2.1, v3.2.2.2.2.2.1.2.2.2.1, ()), (v4, v5, [], (), ()), [],
                          ())).bind
                fun
                  (v6 :
                    Unit ×
                      List UInt8 ×
                        Unit ×
                          (List UInt8 × List UInt8 × List UInt8 × List (List UInt8 × List UInt8 × Unit) × Unit) ×
                            (List UInt8 × List UInt8 × List UInt8 × Unit × Unit) × List (List UInt8 × List UInt8 × Unit) × Unit) =>
                (loopM (M_conciergeref38_Read_l1 F)
                      F
                      ((), v6.2.1, (), (v6.2.2.2.1.1, v6.2.2.2.1.2.1, v6.2.2.2.1.2.2.1, v6.2.2.2.1.2.2.2.1, ()),
                        (v6.2.2.2.2.1.1, v6.2.2.2.2.1.2.1, v6.2.2.2.2.1.2.2.1, (), ()), v6.2.2.2.2.2.1, ())).bind
                  fun (v26 : Unit × Int × (List UInt8 × List UInt8 × List UInt8 × List (List UInt8 × List UInt8 × Unit) × Unit) × Unit) =>
                  some ((v26.2.2.1.1, v26.2.2.1.2.1, v26.2.2.1.2.2.1, v26.2.2.1.2.2.2.1, ()), v26.2.1)
theorem t_conciergeref38_Read (x : (List UInt8)) (F : Nat) : fnRun TT Tryd.prog (e_conciergeref38_Read F) s_conciergeref38_Read (bodyOf 17) F x = M_conciergeref38_Read F x := by kernel_rfl
theorem c_conciergeref38_Read (F : Nat) : Ctr TT Tryd.prog 17 (conOf TT s_conciergeref38_Read (M_conciergeref38_Read F)) :=
  ctr_of (code := bodyOf 17) Tryd.func17 (by kernel_rfl) (by kernel_rfl) (by kernel_rfl) (by kernel_rfl) (envS_ok (envS_ok (envS_ok (envS_ok (envS_ok (envS_ok envN_ok (c_conciergeref38_line F)) (c_conciergeref38_at F)) (c_conciergeref38_name F)) (c_conciergeref38_trim F)) (c_conciergeref38_value F)) (c_conciergeref38_Fold F)) hm (by kernel_rfl) (fun x r h => ⟨F, (t_conciergeref38_Read x F).trans h⟩)
noncomputable def s_conciergeref38_Get : Spec Kd := { params := [(.agg [.str, .str, .str, (.slc .fe)]), (.a .str)], ret := (.tup [(.a .str), (.a .bool)]), pins := [], pl := { nt := 28, loops := [(0, ⟨[.tmp 1 (.a .str), .tmp 2 (.a (.ptr 128 0)), .tmp 6 (.a (.int .i64)), .box 128 (.cells 44 [.str, .str, .str, (.slc .fe)])], [], [.cellSlc 128 3 .fe]⟩, (.exit 0, ⟨[], [], []⟩), [(.ret, ⟨[.tmp 4 (.a .str), .tmp 5 (.a .bool)], [], []⟩)])] }, rfrz := [], ts := [4, 5] }
noncomputable def e_conciergeref38_Get (F : Nat) : Env El := envN
noncomputable def M_conciergeref38_Get_l0 (F : Nat) (v0 : (List UInt8 × Unit × Int × (List UInt8 × List UInt8 × List UInt8 × List (List UInt8 × List UInt8 × Unit) × Unit) × Unit)) : Option ((List UInt8 × Unit × Int × (List UInt8 × List UInt8 × List UInt8 × List (List UInt8 × List UInt8 × Unit) × Unit) × Unit) ⊕ (Unit ⊕ List UInt8 × Bool × Unit)) :=
  if decide (v0.2.2.1 < (↑v0.2.2.2.1.2.2.2.1.length : Int)) = true then
          (idx v0.2.2.2.1.2.2.2.1 v0.2.2.1).bind fun (v1 : List UInt8 × List UInt8 × Unit) =>
            if decide (v1.1 = v0.1) = true then
              (idx v0.2.2.2.1.2.2.2.1 v0.2.2.1).bind fun (v2 : List UInt8 × List UInt8 × Unit) => some (Sum.inr (Sum.inr (v2.2.1, true, ())))
            else some (Sum.inl (v0.1, (), IntKind.i64.wrap (v0.2.2.1 + 1), (v0.2.2.2.1.1, v0.2.2.2.1.2.1, v0.2.2.2.1.2.2.1, v0.2.2.2.1.2.2.2.1, ()), ()))
        else some (Sum.inr (Sum.inl ()))
noncomputable def M_conciergeref38_Get (F : Nat) (x : ((List UInt8) × (List UInt8) × (List UInt8) × (List (El .fe)) × Unit) × (List UInt8)) : Option ((List UInt8) × (Bool)) :=
  (loopM (M_conciergeref38_Get_l0 F)
        F (x.2, (), 0, (x.1.1, x.1.2.1, x.1.2.2.1, x.1.2.2.2.1, ()), ())).bind
    fun (v3 : Unit ⊕ List UInt8 × Bool × Unit) => sumC v3 (fun (v4 : Unit) => some ([], false)) fun (v5 : List UInt8 × Bool × Unit) => some (v5.1, v5.2.1)
theorem t_conciergeref38_Get (x : ((List UInt8) × (List UInt8) × (List UInt8) × (List (El .fe)) × Unit) × (List UInt8)) (F : Nat) : fnRun TT Tryd.prog (e_conciergeref38_Get F) s_conciergeref38_Get (bodyOf 19) F x = M_conciergeref38_Get F x := by kernel_rfl
theorem c_conciergeref38_Get (F : Nat) : Ctr TT Tryd.prog 19 (conOf TT s_conciergeref38_Get (M_conciergeref38_Get F)) :=
  ctr_of (code := bodyOf 19) Tryd.func19 (by kernel_rfl) (by kernel_rfl) (by kernel_rfl) (by kernel_rfl) envN_ok hm (by kernel_rfl) (fun x r h => ⟨F, (t_conciergeref38_Get x F).trans h⟩)
noncomputable def s_conciergeref38_Names : Spec Kd := { params := [(.agg [.str, .str, .str, (.slc .fe)])], ret := (.one (.a (.row 9 .str))), pins := [], pl := { nt := 52, orc := { rv := [2, 3, 6, 33, 37, 40, 48, 50, 51], gv := [] }, loops := [(2, ⟨[.tmp 1 (.a (.ptr 64 0)), .tmp 3 (.a (.rowp 192)), .tmp 4 (.a (.int .i64)), .tmp 5 (.a (.int .i64)), .box 192 (.row 9 .str), .box 64 (.cells 44 [.str, .str, .str, (.slc .fe)])], [], [.tmpRow 3 192 9 .str, .cellSlc 64 3 .fe]⟩, (.exit 2, ⟨[.tmp 1 (.a (.ptr 64 0)), .tmp 3 (.a (.rowp 192)), .tmp 4 (.a (.int .i64)), .tmp 5 (.a (.int .i64)), .box 192 (.row 9 .str), .box 64 (.cells 44 [.str, .str, .str, (.slc .fe)])], [], [.tmpRow 3 192 9 .str, .cellSlc 64 3 .fe]⟩), []), (0, ⟨[.tmp 1 (.a (.ptr 64 0)), .tmp 3 (.a (.rowp 192)), .tmp 4 (.a (.int .i64)), .box 192 (.row 9 .str), .box 64 (.cells 44 [.str, .str, .str, (.slc .fe)])], [], [.tmpRow 3 192 9 .str, .cellSlc 64 3 .fe]⟩, (.exit 0, ⟨[.tmp 3 (.a (.rowp 192)), .box 192 (.row 9 .str)], [], [.tmpRow 3 192 9 .str]⟩), [])], ends := [(6, ⟨[.tmp 1 (.a (.ptr 64 0)), .tmp 3 (.a (.rowp 192)), .tmp 4 (.a (.int .i64)), .tmp 5 (.a (.int .i64)), .tmp 30 (.a .bool), .box 192 (.row 9 .str), .box 64 (.cells 44 [.str, .str, .str, (.slc .fe)])], [], [.tmpRow 3 192 9 .str, .cellSlc 64 3 .fe]⟩)] }, rfrz := [], ts := [2] }
noncomputable def e_conciergeref38_Names (F : Nat) : Env El := envN
noncomputable def M_conciergeref38_Names_l0 (F : Nat) (v1 : (Unit ×
                  Unit × Int × Int × List (List UInt8) × (List UInt8 × List UInt8 × List UInt8 × List (List UInt8 × List UInt8 × Unit) × Unit) × Unit)) : Option ((Unit ×
                  Unit × Int × Int × List (List UInt8) × (List UInt8 × List UInt8 × List UInt8 × List (List UInt8 × List UInt8 × Unit) × Unit) × Unit) ⊕ (Unit ×
                  Unit × Int × Int × List (List UInt8) × (List UInt8 × List UInt8 × List UInt8 × List (List UInt8 × List UInt8 × Unit) × Unit) × Unit)) :=
  (if decide (v1.2.2.2.1 < (↑v1.2.2.2.2.1.length : Int)) = true then
                        (idx v1.2.2.2.2.1 v1.2.2.2.1).bind fun (v2 : List UInt8) =>
                          (idx v1.2.2.2.2.2.1.2.2.2.1 v1.2.2.1).bind fun (v3 : List UInt8 × List UInt8 × Unit) =>
                            some
                              ((), (), v1.2.2.1, v1.2.2.2.1, Op.bytesLess v2 v3.1, v1.2.2.2.2.1,
                                (v1.2.2.2.2.2.1.1, v1.2.2.2.2.2.1.2.1, v1.2.2.2.2.2.1.2.2.1, v1.2.2.2.2.2.1.2.2.2.1, ()), ())
                      else
                        some
                          ((), (), v1.2.2.1, v1.2.2.2.1, false, v1.2.2.2.2.1,
                            (v1.2.2.2.2.2.1.1, v1.2.2.2.2.2.1.2.1, v1.2.2.2.2.2.1.2.2.1, v1.2.2.2.2.2.1.2.2.2.1, ()), ())).bind
                    fun
                      (v4 :
                        Unit ×
                          Unit ×
                            Int ×
                              Int ×
                                Bool × List (List UInt8) × (List UInt8 × List UInt8 × List UInt8 × List (List UInt8 × List UInt8 × Unit) × Unit) × Unit) =>
                    if v4.2.2.2.2.1 = true then
                      some
                        (Sum.inl
                          ((), (), v4.2.2.1, IntKind.i64.wrap (v4.2.2.2.1 + 1), v4.2.2.2.2.2.1,
                            (v4.2.2.2.2.2.2.1.1, v4.2.2.2.2.2.2.1.2.1, v4.2.2.2.2.2.2.1.2.2.1, v4.2.2.2.2.2.2.1.2.2.2.1, ()), ()))
                    else
                      some
                        (Sum.inr
                          ((), (), v4.2.2.1, v4.2.2.2.1, v4.2.2.2.2.2.1,
                            (v4.2.2.2.2.2.2.1.1, v4.2.2.2.2.2.2.1.2.1, v4.2.2.2.2.2.2.1.2.2.1, v4.2.2.2.2.2.2.1.2.2.2.1, ()), ()))
noncomputable def M_conciergeref38_Names_l1 (F : Nat) (v0 : (Unit × Unit × Int × List (List UInt8) × (List UInt8 × List UInt8 × List UInt8 × List (List UInt8 × List UInt8 × Unit) × Unit) × Unit)) : Option ((Unit × Unit × Int × List (List UInt8) × (List UInt8 × List UInt8 × List UInt8 × List (List UInt8 × List UInt8 × Unit) × Unit) × Unit) ⊕ (Unit × List (List UInt8) × Unit)) :=
  if decide (v0.2.2.1 < (↑v0.2.2.2.2.1.2.2.2.1.length : Int)) = true then
          (loopM (M_conciergeref38_Names_l0 F)
                F ((), (), v0.2.2.1, 0, v0.2.2.2.1, (v0.2.2.2.2.1.1, v0.2.2.2.2.1.2.1, v0.2.2.2.2.1.2.2.1, v0.2.2.2.2.1.2.2.2.1, ()), ())).bind
            fun
              (v5 :
                Unit ×
                  Unit × Int × Int × List (List UInt8) × (List UInt8 × List UInt8 × List UInt8 × List (List UInt8 × List UInt8 × Unit) × Unit) × Unit) =>
            if (decide (0 ≤ v5.2.2.2.1) && decide (v5.2.2.2.1 ≤ (↑v5.2.2.2.2.1.length : Int))) = true then
              if decide ((0 + (List.drop v5.2.2.2.1.toNat v5.2.2.2.2.1).length) * 16 ≤ 140737488355328) = true then
                if (decide (0 ≤ v5.2.2.2.1) && decide (v5.2.2.2.1 ≤ (↑v5.2.2.2.2.1.length : Int))) = true then
                  (idx v5.2.2.2.2.2.1.2.2.2.1 v5.2.2.1).bind fun (v6 : List UInt8 × List UInt8 × Unit) =>
                    if decide (((List.take v5.2.2.2.1.toNat v5.2.2.2.2.1).length + [v6.1].length) * 16 ≤ 140737488355328) = true then
                      if
                          decide
                              (((List.take v5.2.2.2.1.toNat v5.2.2.2.2.1 ++ [v6.1]).length + (List.drop v5.2.2.2.1.toNat v5.2.2.2.2.1).length) * 16 ≤
                                140737488355328) =
                            true then
                        some
                          (Sum.inl
                            ((), (), IntKind.i64.wrap (v5.2.2.1 + 1),
                              List.take v5.2.2.2.1.toNat v5.2.2.2.2.1 ++ [v6.1] ++ List.drop v5.2.2.2.1.toNat v5.2.2.2.2.1,
                              (v5.2.2.2.2.2.1.1, v5.2.2.2.2.2.1.2.1, v5.2.2.2.2.2.1.2.2.1, v5.2.2.2.2.2.1.2.2.2.1, ()), ()))
                      else none
                    else none
                else none
              else none
            else none
        else some (Sum.inr ((), v0.2.2.2.1, ()))
noncomputable def M_conciergeref38_Names (F : Nat) (x : ((List UInt8) × (List UInt8) × (List UInt8) × (List (El .fe)) × Unit)) : Option (List (El .str)) :=
  (loopM (M_conciergeref38_Names_l1 F)
        F ((), (), 0, [], (x.1, x.2.1, x.2.2.1, x.2.2.2.1, ()), ())).bind
    fun (v7 : Unit × List (List UInt8) × Unit) => some v7.2.1
theorem t_conciergeref38_Names (x : ((List UInt8) × (List UInt8) × (List UInt8) × (List (El .fe)) × Unit)) (F : Nat) : fnRun TT Tryd.prog (e_conciergeref38_Names F) s_conciergeref38_Names (bodyOf 22) F x = M_conciergeref38_Names F x := by kernel_rfl
theorem c_conciergeref38_Names (F : Nat) : Ctr TT Tryd.prog 22 (conOf TT s_conciergeref38_Names (M_conciergeref38_Names F)) :=
  ctr_of (code := bodyOf 22) Tryd.func22 (by kernel_rfl) (by kernel_rfl) (by kernel_rfl) (by kernel_rfl) envN_ok hm (by kernel_rfl) (fun x r h => ⟨F, (t_conciergeref38_Names x F).trans h⟩)
noncomputable def s_conciergeref38_Parse : Spec Kd := { params := [(.a .str)], ret := (.tup [(.agg [(.int .i64), (.int .i64), (.int .i64), .str, .str, .str, .str]), (.a (.int .i64))]), pins := [], pl := { nt := 63, joins := [(1200042, (.norm, ⟨[.tmp 2 (.a (.ptr 128 0)), .tmp 6 (.a (.ptr 384 0)), .box 128 (.cells 37 [(.int .i64), (.int .i64), (.int .i64), .str, .str, .str, .str]), .box 384 (.cells 37 [(.int .i64), (.int .i64), (.int .i64), .str, .str, .str, .str])], [], []⟩), [(.ret, ⟨[.tmp 2 (.a (.ptr 128 0)), .tmp 3 (.a (.int .i64)), .box 128 (.cells 37 [(.int .i64), (.int .i64), (.int .i64), .str, .str, .str, .str])], [], []⟩)])], cuts := [(11, [(8, ⟨[.tmp 2 (.a (.ptr 128 0)), .tmp 6 (.a (.ptr 384 0)), .tmp 9 (.a .str), .tmp 50 (.a .bool), .box 128 (.cells 37 [(.int .i64), (.int .i64), (.int .i64), .str, .str, .str, .str]), .box 384 (.cells 37 [(.int .i64), (.int .i64), (.int .i64), .str, .str, .str, .str])], [], []⟩), (5, ⟨[.tmp 2 (.a (.ptr 128 0)), .tmp 6 (.a (.ptr 384 0)), .tmp 9 (.a .str), .tmp 55 (.a .bool), .box 128 (.cells 37 [(.int .i64), (.int .i64), (.int .i64), .str, .str, .str, .str]), .box 384 (.cells 37 [(.int .i64), (.int .i64), (.int .i64), .str, .str, .str, .str])], [], []⟩)])] }, rfrz := [], ts := [63, 64], rc := [(2, some 37), (3, none)] }
noncomputable def e_conciergeref38_Parse (F : Nat) : Env El := (envS 19 (conOf TT s_conciergeref38_Get (M_conciergeref38_Get F)) (envS 17 (conOf TT s_conciergeref38_Read (M_conciergeref38_Read F)) envN))
noncomputable def M_conciergeref38_Parse (F : Nat) (x : (List UInt8)) : Option (((Int) × (Int) × (Int) × (List UInt8) × (List UInt8) × (List UInt8) × (List UInt8) × Unit) × (Int)) :=
  (M_conciergeref38_Read F x).bind fun (v0 : (List UInt8 × List UInt8 × List UInt8 × List (List UInt8 × List UInt8 × Unit) × Unit) × Int) =>
    if (!decide (v0.2 = 0)) = true then some ((0, 0, 0, [], [], [], [], ()), v0.2)
    else
      (M_conciergeref38_Get F ((v0.1.1, v0.1.2.1, v0.1.2.2.1, v0.1.2.2.2.1, ()), [105, 100, 101, 109, 112, 111, 116, 101, 110, 99, 121, 45, 107, 101, 121])).bind
        fun (v1 : List UInt8 × Bool) =>
        if (!v1.2) = true then some ((0, 0, 0, [], [], [], [], ()), 6)
        else
          (M_conciergeref38_Get F ((v0.1.1, v0.1.2.1, v0.1.2.2.1, v0.1.2.2.2.1, ()), [116, 101, 110, 97, 110, 116])).bind fun (v2 : List UInt8 × Bool) =>
            (if v2.2 = true then
                  (if (!decide ((↑v2.1.length : Int) = 1)) = false then
                        (idx v2.1 0).bind fun (v3 : UInt8) =>
                          some
                            ((), (), v2.1, decide ((↑v3.toNat : Int) < 48), (0, 0, 0, [], [], [], [], ()), (0, 0, 0, v1.1, v0.1.1, v0.1.2.1, v0.1.2.2.1, ()), ())
                      else some ((), (), v2.1, true, (0, 0, 0, [], [], [], [], ()), (0, 0, 0, v1.1, v0.1.1, v0.1.2.1, v0.1.2.2.1, ()), ())).bind
                    fun
                      (v4 :
                        Unit ×
                          Unit ×
                            List UInt8 ×
                              Bool ×
                                (Int × Int × Int × List UInt8 × List UInt8 × List UInt8 × List UInt8 × Unit) ×
                                  (Int × Int × Int × List UInt8 × List UInt8 × List UInt8 × List UInt8 × Unit) × Unit) =>
                    (if v4.2.2.2.1 = false then
                          (idx v4.2.2.1 0).bind fun (v5 : UInt8) => some ((), (), v4.2.2.1, decide (51 < (↑v5.toNat : Int)), v4.2.2.2.2.1, v4.2.2.2.2.2.1, ())
                        else some ((), (), v4.2.2.1, true, v4.2.2.2.2.1, v4.2.2.2.2.2.1, ())).bind
                      fun
                        (v6 :
                          Unit ×
                            Unit ×
                              List UInt8 ×
                                Bool ×
                                  (Int × Int × Int × List UInt8 × List UInt8 × List UInt8 × List UInt8 × Unit) ×
                                    (Int × Int × Int × List UInt8 × List UInt8 × List UInt8 × List UInt8 × Unit) × Unit) =>
                      if v6.2.2.2.1 = true then some (Sum.inr ((), 1, (0, 0, 0, [], [], [], [], ()), ()))
                      else
                        (idx v6.2.2.1 0).bind fun (v7 : UInt8) =>
                          some
                            (Sum.inl
                              ((), (), v6.2.2.2.2.1,
                                (v6.2.2.2.2.2.1.1, v6.2.2.2.2.2.1.2.1, IntKind.i64.wrap (IntKind.i64.wrap (↑v7.toNat : Int) - 48), v6.2.2.2.2.2.1.2.2.2.1,
                                  v6.2.2.2.2.2.1.2.2.2.2.1, v6.2.2.2.2.2.1.2.2.2.2.2.1, v6.2.2.2.2.2.1.2.2.2.2.2.2.1, ()),
                                ()))
                else some (Sum.inl ((), (), (0, 0, 0, [], [], [], [], ()), (0, 0, 0, v1.1, v0.1.1, v0.1.2.1, v0.1.2.2.1, ()), ()))).bind
              fun
                (v8 :
                  Unit ×
                      Unit ×
                        (Int × Int × Int × List UInt8 × List UInt8 × List UInt8 × List UInt8 × Unit) ×
                          (Int × Int × Int × List UInt8 × List UInt8 × List UInt8 × List UInt8 × Unit) × Unit ⊕
                    Unit × Int × (Int × Int × Int × List UInt8 × List UInt8 × List UInt8 × List UInt8 × Unit) × Unit) =>
              sumC v8
                (fun
                    (v9 :
                      Unit ×
                        Unit ×
                          (Int × Int × Int × List UInt8 × List UInt8 × List UInt8 × List UInt8 × Unit) ×
                            (Int × Int × Int × List UInt8 × List UInt8 × List UInt8 × List UInt8 × Unit) × Unit) =>
                  some (v9.2.2.2.1, 0))
                fun (v10 : Unit × Int × (Int × Int × Int × List UInt8 × List UInt8 × List UInt8 × List UInt8 × Unit) × Unit) => some (v10.2.2.1, v10.2.1)
theorem t_conciergeref38_Parse (x : (List UInt8)) (F : Nat) : fnRun TT Tryd.prog (e_conciergeref38_Parse F) s_conciergeref38_Parse (bodyOf 16) F x = M_conciergeref38_Parse F x := by kernel_rfl
theorem c_conciergeref38_Parse (F : Nat) : Ctr TT Tryd.prog 16 (conOf TT s_conciergeref38_Parse (M_conciergeref38_Parse F)) :=
  ctr_of (code := bodyOf 16) Tryd.func16 (by kernel_rfl) (by kernel_rfl) (by kernel_rfl) (by kernel_rfl) (envS_ok (envS_ok envN_ok (c_conciergeref38_Read F)) (c_conciergeref38_Get F)) hm (by kernel_rfl) (fun x r h => ⟨F, (t_conciergeref38_Parse x F).trans h⟩)
end Go.Vm
