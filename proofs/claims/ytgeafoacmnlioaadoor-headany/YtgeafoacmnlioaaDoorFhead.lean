/- Models of functions of the program, and that each keeps its contract: for all arguments of its shape. No condition. -/
import Derived.Test.YtgeafoacmnlioaaDoorKt
import Derived.Test.YtgeafoacmnlioaaDoorFsort
import Derived.Test.YtgeafoacmnlioaaDoorFhshp
namespace Go.Vm
open Go.Proofs
set_option linter.unusedVariables false
noncomputable def s_head_fold : Spec Kd := { params := [(.a .str)], ret := (.one (.a .str)), pins := [], pl := { nt := 30, bjoins := [(1, (.norm, ⟨[.tmp 3 (.a (.rowp 448)), .tmp 8 (.a (.rowp 448)), .tmp 9 (.a (.int .i64)), .tmp 10 (.a (.int .i64)), .box 448 (.row 5 .u8)], [], []⟩), [])], loops := [(0, ⟨[.tmp 3 (.a (.rowp 448)), .tmp 8 (.a (.rowp 448)), .tmp 9 (.a (.int .i64)), .tmp 10 (.a (.int .i64)), .box 448 (.row 5 .u8)], [], []⟩, (.exit 0, ⟨[.tmp 3 (.a (.rowp 448)), .box 448 (.row 5 .u8)], [], []⟩), [])], cuts := [(5, [(6, ⟨[.tmp 3 (.a (.rowp 448)), .tmp 4 (.a (.int .i64)), .tmp 5 (.a (.int .u8)), .tmp 8 (.a (.rowp 448)), .tmp 9 (.a (.int .i64)), .tmp 10 (.a (.int .i64)), .tmp 20 (.a .bool), .box 448 (.row 5 .u8)], [], []⟩)])] }, rfrz := [], ts := [2] }
noncomputable def e_head_fold (F : Nat) : Env El := envN
noncomputable def M_head_fold_l0 (F : Nat) (v0 : (Unit × Unit × Int × Int × List UInt8 × Unit)) : Option ((Unit × Unit × Int × Int × List UInt8 × Unit) ⊕ (Unit × List UInt8 × Unit)) :=
  if decide (v0.2.2.2.1 < v0.2.2.1) = true then
            ((idx v0.2.2.2.2.1 v0.2.2.2.1).bind fun (v1 : UInt8) =>
                  (if decide (65 ≤ (↑v1.toNat : Int)) = true then
                        some ((), v0.2.2.2.1, (↑v1.toNat : Int), (), v0.2.2.1, v0.2.2.2.1, decide ((↑v1.toNat : Int) ≤ 90), v0.2.2.2.2.1, ())
                      else some ((), v0.2.2.2.1, (↑v1.toNat : Int), (), v0.2.2.1, v0.2.2.2.1, false, v0.2.2.2.2.1, ())).bind
                    fun (v2 : Unit × Int × Int × Unit × Int × Int × Bool × List UInt8 × Unit) =>
                    if v2.2.2.2.2.2.2.1 = true then
                      (idx v2.2.2.2.2.2.2.2.1 v2.2.1).bind fun (v3 : UInt8) =>
                        ((idx v2.2.2.2.2.2.2.2.1 (↑v2.2.1.toNat : Int)).bind fun (v4 : UInt8) =>
                              some (UInt8.ofNat (IntKind.u8.wrap (IntKind.u8.wrap (v2.2.2.1 + 97) - 65)).toNat)).bind
                          fun (v5 : UInt8) => some ((), (), v2.2.2.2.2.1, v2.2.2.2.2.2.1, lset v2.2.2.2.2.2.2.2.1 v2.2.1.toNat v5, ())
                    else some ((), (), v2.2.2.2.2.1, v2.2.2.2.2.2.1, v2.2.2.2.2.2.2.2.1, ())).bind
              fun (v6 : Unit × Unit × Int × Int × List UInt8 × Unit) =>
              some (Sum.inl ((), (), v6.2.2.1, IntKind.i64.wrap (v6.2.2.2.1 + 1), v6.2.2.2.2.1, ()))
          else some (Sum.inr ((), v0.2.2.2.2.1, ()))
noncomputable def M_head_fold (F : Nat) (x : (List UInt8)) : Option (List UInt8) :=
  if decide (x.length ≤ 9223372036854775807) = true then
    (loopM (M_head_fold_l0 F)
          F ((), (), (↑x.length : Int), 0, x, ())).bind
      fun (v7 : Unit × List UInt8 × Unit) => some v7.2.1
  else none
theorem t_head_fold (x : (List UInt8)) (F : Nat) : fnRun TT Tryd.prog (e_head_fold F) s_head_fold (bodyOf 51) F x = M_head_fold F x := by kernel_rfl
theorem c_head_fold (F : Nat) : Ctr TT Tryd.prog 51 (conOf TT s_head_fold (M_head_fold F)) :=
  ctr_of (code := bodyOf 51) Tryd.func51 (by kernel_rfl) (by kernel_rfl) (by kernel_rfl) (by kernel_rfl) envN_ok hm (by kernel_rfl) (fun x r h => ⟨F, (t_head_fold x F).trans h⟩)
noncomputable def s_head_right : Spec Kd := { params := [(.a .str)], ret := (.one (.a .bool)), pins := [], pl := { nt := 16, loops := [(0, ⟨[.tmp 0 (.a .str), .tmp 6 (.a (.ptr 384 0)), .box 384 .siter], [], []⟩, (.exit 0, ⟨[.tmp 0 (.a .str)], [], []⟩), [(.ret, ⟨[.tmp 2 (.a .bool)], [], []⟩)])] }, rfrz := [], ts := [2] }
noncomputable def e_head_right (F : Nat) : Env El := (envS 91 (conOf TT s_sign_Sort (M_sign_Sort F)) envN)
noncomputable def M_head_right_l0 (F : Nat) (v0 : (List UInt8 × Unit × (List UInt8 × Nat) × Unit)) : Option ((List UInt8 × Unit × (List UInt8 × Nat) × Unit) ⊕ (List UInt8 × Unit ⊕ Bool × Unit)) :=
  if decide (v0.2.2.1.2 < v0.2.2.1.1.length) = true then
          (M_sign_Sort F (runeAt v0.2.2.1.1 v0.2.2.1.2)).bind fun (v1 : Int) =>
            if decide (v1 = 0) = true then some (Sum.inr (Sum.inr (false, ())))
            else some (Sum.inl (v0.1, (), (v0.2.2.1.1, v0.2.2.1.2 + runeLen v0.2.2.1.1 v0.2.2.1.2), ()))
        else some (Sum.inr (Sum.inl (v0.1, ())))
noncomputable def M_head_right (F : Nat) (x : (List UInt8)) : Option (Bool) :=
  (loopM (M_head_right_l0 F)
        F (x, (), (x, 0), ())).bind
    fun (v2 : List UInt8 × Unit ⊕ Bool × Unit) =>
    sumC v2 (fun (v3 : List UInt8 × Unit) => some (decide ((↑v3.1.length : Int) ≤ 60))) fun (v4 : Bool × Unit) => some v4.1
theorem t_head_right (x : (List UInt8)) (F : Nat) : fnRun TT Tryd.prog (e_head_right F) s_head_right (bodyOf 97) F x = M_head_right F x := by kernel_rfl
theorem c_head_right (F : Nat) : Ctr TT Tryd.prog 97 (conOf TT s_head_right (M_head_right F)) :=
  ctr_of (code := bodyOf 97) Tryd.func97 (by kernel_rfl) (by kernel_rfl) (by kernel_rfl) (by kernel_rfl) (envS_ok envN_ok (c_sign_Sort F)) hm (by kernel_rfl) (fun x r h => ⟨F, (t_head_right x F).trans h⟩)
noncomputable def s_head_line : Spec Kd := { params := [(.a .str)], ret := (.tup [(.a .str), (.a .str), (.a .bool)]), pins := [], pl := { nt := 18 }, rfrz := [], ts := [2, 3, 4] }
noncomputable def e_head_line (F : Nat) : Env El := (envS 95 (conOf TT s_strings_TrimSuffix (M_strings_TrimSuffix F)) (envS 94 (conOf TT s_strings_Cut (M_strings_Cut F)) envN))
noncomputable def M_head_line (F : Nat) (x : (List UInt8)) : Option ((List UInt8) × (List UInt8) × (Bool)) :=
  (M_strings_Cut F (x, [10])).bind fun (v0 : List UInt8 × List UInt8 × Bool) =>
    (M_strings_TrimSuffix F (v0.1, [13])).bind fun (v1 : List UInt8) => some (v1, v0.2)
theorem t_head_line (x : (List UInt8)) (F : Nat) : fnRun TT Tryd.prog (e_head_line F) s_head_line (bodyOf 74) F x = M_head_line F x := by kernel_rfl
theorem c_head_line (F : Nat) : Ctr TT Tryd.prog 74 (conOf TT s_head_line (M_head_line F)) :=
  ctr_of (code := bodyOf 74) Tryd.func74 (by kernel_rfl) (by kernel_rfl) (by kernel_rfl) (by kernel_rfl) (envS_ok (envS_ok envN_ok (c_strings_Cut F)) (c_strings_TrimSuffix F)) hm (by kernel_rfl) (fun x r h => ⟨F, (t_head_line x F).trans h⟩)
noncomputable def s_head_head_first : Spec Kd := { params := [(.pin 82 [.str, .str, .str, (.row 89 .fd)]), (.a .str)], ret := (.one (.a .bool)), pins := [[.str, .str, .str, (.row 89 .fd)]], pl := { nt := 31, cuts := [(3, [(5, ⟨[.tmp 0 (.a (.ptr 1 0)), .tmp 6 (.a .str), .tmp 26 (.a .bool), .box 1 (.cells 82 [.str, .str, .str, (.rowp 1000067)]), .box 1000067 (.row 89 .fd)], [], [.cellRow 1 3 1000067 89 .fd]⟩), (4, ⟨[.tmp 0 (.a (.ptr 1 0)), .tmp 30 (.a .bool), .box 1 (.cells 82 [.str, .str, .str, (.rowp 1000067)]), .box 1000067 (.row 89 .fd)], [], [.cellRow 1 3 1000067 89 .fd]⟩)]), (2, [(10, ⟨[.tmp 0 (.a (.ptr 1 0)), .tmp 5 (.a .str), .tmp 6 (.a .str), .tmp 7 (.a .bool), .box 1 (.cells 82 [.str, .str, .str, (.rowp 1000067)]), .box 1000067 (.row 89 .fd)], [], [.cellRow 1 3 1000067 89 .fd]⟩)])] }, rfrz := [], ts := [4] }
noncomputable def e_head_head_first (F : Nat) : Env El := (envS 94 (conOf TT s_strings_Cut (M_strings_Cut F)) envN)
noncomputable def M_head_head_first (F : Nat) (x : ((List UInt8) × (List UInt8) × (List UInt8) × (List (El .fd)) × Unit) × (List UInt8)) : Option ((Bool) × ((List UInt8) × (List UInt8) × (List UInt8) × (List (El .fd)) × Unit)) :=
  (M_strings_Cut F (x.2, [32])).bind fun (v0 : List UInt8 × List UInt8 × Bool) =>
    (if v0.2.2 = true then some ((), v0.2.1, !decide (v0.1 = []), (v0.1, v0.2.1, x.1.2.2.1, (), ()), x.1.2.2.2.1, ())
        else some ((), v0.2.1, false, (v0.1, v0.2.1, x.1.2.2.1, (), ()), x.1.2.2.2.1, ())).bind
      fun (v1 : Unit × List UInt8 × Bool × (List UInt8 × List UInt8 × List UInt8 × Unit × Unit) × List (List UInt8 × List UInt8 × Unit) × Unit) =>
      (if v1.2.2.1 = true then some ((), !decide (v1.2.1 = []), (v1.2.2.2.1.1, v1.2.2.2.1.2.1, v1.2.2.2.1.2.2.1, (), ()), v1.2.2.2.2.1, ())
          else some ((), false, (v1.2.2.2.1.1, v1.2.2.2.1.2.1, v1.2.2.2.1.2.2.1, (), ()), v1.2.2.2.2.1, ())).bind
        fun (v2 : Unit × Bool × (List UInt8 × List UInt8 × List UInt8 × Unit × Unit) × List (List UInt8 × List UInt8 × Unit) × Unit) =>
        some (v2.2.1, v2.2.2.1.1, v2.2.2.1.2.1, v2.2.2.1.2.2.1, v2.2.2.2.1, ())
theorem t_head_head_first (x : ((List UInt8) × (List UInt8) × (List UInt8) × (List (El .fd)) × Unit) × (List UInt8)) (F : Nat) : fnRun TT Tryd.prog (e_head_head_first F) s_head_head_first (bodyOf 75) F x = M_head_head_first F x := by kernel_rfl
theorem c_head_head_first (F : Nat) : Ctr TT Tryd.prog 75 (conOf TT s_head_head_first (M_head_head_first F)) :=
  ctr_of (code := bodyOf 75) Tryd.func75 (by kernel_rfl) (by kernel_rfl) (by kernel_rfl) (by kernel_rfl) (envS_ok envN_ok (c_strings_Cut F)) hm (by kernel_rfl) (fun x r h => ⟨F, (t_head_head_first x F).trans h⟩)
noncomputable def s_head_head_get : Spec Kd := { params := [(.pin 82 [.str, .str, .str, (.row 89 .fd)]), (.a .str)], ret := (.tup [(.a .str), (.a .bool)]), pins := [[.str, .str, .str, (.row 89 .fd)]], pl := { nt := 24, loops := [(0, ⟨[.tmp 0 (.a (.ptr 1 0)), .tmp 1 (.a .str), .tmp 11 (.a (.rowp 1000067)), .tmp 12 (.a (.int .i64)), .tmp 13 (.a (.int .i64)), .box 1 (.cells 82 [.str, .str, .str, (.rowp 1000067)]), .box 1000067 (.row 89 .fd)], [], [.cellRow 1 3 1000067 89 .fd]⟩, (.exit 0, ⟨[.tmp 0 (.a (.ptr 1 0)), .box 1 (.cells 82 [.str, .str, .str, (.rowp 1000067)]), .box 1000067 (.row 89 .fd)], [], [.cellRow 1 3 1000067 89 .fd]⟩), [(.ret, ⟨[.tmp 0 (.a (.ptr 1 0)), .tmp 4 (.a .str), .tmp 5 (.a .bool), .box 1 (.cells 82 [.str, .str, .str, (.rowp 1000067)]), .box 1000067 (.row 89 .fd)], [], [.cellRow 1 3 1000067 89 .fd]⟩)])] }, rfrz := [], ts := [4, 5] }
noncomputable def e_head_head_get (F : Nat) : Env El := envN
noncomputable def M_head_head_get_l0 (F : Nat) (v0 : (Unit × List UInt8 × Unit × Int × Int × (List UInt8 × List UInt8 × List UInt8 × Unit × Unit) × List (List UInt8 × List UInt8 × Unit) × Unit)) : Option ((Unit × List UInt8 × Unit × Int × Int × (List UInt8 × List UInt8 × List UInt8 × Unit × Unit) × List (List UInt8 × List UInt8 × Unit) × Unit) ⊕ (Unit × (List UInt8 × List UInt8 × List UInt8 × Unit × Unit) × List (List UInt8 × List UInt8 × Unit) × Unit ⊕
        Unit × List UInt8 × Bool × (List UInt8 × List UInt8 × List UInt8 × Unit × Unit) × List (List UInt8 × List UInt8 × Unit) × Unit)) :=
  if decide (v0.2.2.2.2.1 < v0.2.2.2.1) = true then
          (idx v0.2.2.2.2.2.2.1 v0.2.2.2.2.1).bind fun (v1 : List UInt8 × List UInt8 × Unit) =>
            if decide (v1.1 = v0.2.1) = true then
              some (Sum.inr (Sum.inr ((), v1.2.1, true, (v0.2.2.2.2.2.1.1, v0.2.2.2.2.2.1.2.1, v0.2.2.2.2.2.1.2.2.1, (), ()), v0.2.2.2.2.2.2.1, ())))
            else
              some
                (Sum.inl
                  ((), v0.2.1, (), v0.2.2.2.1, IntKind.i64.wrap (v0.2.2.2.2.1 + 1), (v0.2.2.2.2.2.1.1, v0.2.2.2.2.2.1.2.1, v0.2.2.2.2.2.1.2.2.1, (), ()),
                    v0.2.2.2.2.2.2.1, ()))
        else some (Sum.inr (Sum.inl ((), (v0.2.2.2.2.2.1.1, v0.2.2.2.2.2.1.2.1, v0.2.2.2.2.2.1.2.2.1, (), ()), v0.2.2.2.2.2.2.1, ())))
noncomputable def M_head_head_get (F : Nat) (x : ((List UInt8) × (List UInt8) × (List UInt8) × (List (El .fd)) × Unit) × (List UInt8)) : Option (((List UInt8) × (Bool)) × ((List UInt8) × (List UInt8) × (List UInt8) × (List (El .fd)) × Unit)) :=
  (loopM (M_head_head_get_l0 F)
        F ((), x.2, (), (↑x.1.2.2.2.1.length : Int), 0, (x.1.1, x.1.2.1, x.1.2.2.1, (), ()), x.1.2.2.2.1, ())).bind
    fun
      (v2 :
        Unit × (List UInt8 × List UInt8 × List UInt8 × Unit × Unit) × List (List UInt8 × List UInt8 × Unit) × Unit ⊕
          Unit × List UInt8 × Bool × (List UInt8 × List UInt8 × List UInt8 × Unit × Unit) × List (List UInt8 × List UInt8 × Unit) × Unit) =>
    sumC v2
      (fun (v3 : Unit × (List UInt8 × List UInt8 × List UInt8 × Unit × Unit) × List (List UInt8 × List UInt8 × Unit) × Unit) =>
        some (([], false), v3.2.1.1, v3.2.1.2.1, v3.2.1.2.2.1, v3.2.2.1, ()))
      fun (v4 : Unit × List UInt8 × Bool × (List UInt8 × List UInt8 × List UInt8 × Unit × Unit) × List (List UInt8 × List UInt8 × Unit) × Unit) =>
      some ((v4.2.1, v4.2.2.1), v4.2.2.2.1.1, v4.2.2.2.1.2.1, v4.2.2.2.1.2.2.1, v4.2.2.2.2.1, ())
theorem t_head_head_get (x : ((List UInt8) × (List UInt8) × (List UInt8) × (List (El .fd)) × Unit) × (List UInt8)) (F : Nat) : fnRun TT Tryd.prog (e_head_head_get F) s_head_head_get (bodyOf 45) F x = M_head_head_get F x := by kernel_rfl
theorem c_head_head_get (F : Nat) : Ctr TT Tryd.prog 45 (conOf TT s_head_head_get (M_head_head_get F)) :=
  ctr_of (code := bodyOf 45) Tryd.func45 (by kernel_rfl) (by kernel_rfl) (by kernel_rfl) (by kernel_rfl) envN_ok hm (by kernel_rfl) (fun x r h => ⟨F, (t_head_head_get x F).trans h⟩)
noncomputable def s_head_head_one : Spec Kd := { params := [(.pin 82 [.str, .str, .str, (.row 89 .fd)]), (.a .str)], ret := (.one (.a (.int .i64))), pins := [[.str, .str, .str, (.row 89 .fd)]], pl := { nt := 60, cuts := [(8, [(13, ⟨[.tmp 0 (.a (.ptr 1 0)), .box 1 (.cells 82 [.str, .str, .str, (.rowp 1000067)]), .box 1000067 (.row 89 .fd)], [], [.cellRow 1 3 1000067 89 .fd]⟩)]), (3, [(6, ⟨[.tmp 0 (.a (.ptr 1 0)), .tmp 5 (.a .str), .tmp 6 (.a .str), .tmp 25 (.a .bool), .box 1 (.cells 82 [.str, .str, .str, (.rowp 1000067)]), .box 1000067 (.row 89 .fd)], [], [.cellRow 1 3 1000067 89 .fd]⟩), (5, ⟨[.tmp 0 (.a (.ptr 1 0)), .tmp 5 (.a .str), .tmp 6 (.a .str), .tmp 30 (.a .bool), .box 1 (.cells 82 [.str, .str, .str, (.rowp 1000067)]), .box 1000067 (.row 89 .fd)], [], [.cellRow 1 3 1000067 89 .fd]⟩), (5, ⟨[.tmp 0 (.a (.ptr 1 0)), .tmp 5 (.a .str), .tmp 6 (.a .str), .tmp 35 (.a .bool), .box 1 (.cells 82 [.str, .str, .str, (.rowp 1000067)]), .box 1000067 (.row 89 .fd)], [], [.cellRow 1 3 1000067 89 .fd]⟩), (5, ⟨[.tmp 0 (.a (.ptr 1 0)), .tmp 5 (.a .str), .tmp 6 (.a .str), .tmp 40 (.a .bool), .box 1 (.cells 82 [.str, .str, .str, (.rowp 1000067)]), .box 1000067 (.row 89 .fd)], [], [.cellRow 1 3 1000067 89 .fd]⟩)])] }, rfrz := [], ts := [4] }
noncomputable def e_head_head_one (F : Nat) : Env El := (envS 45 (conOf TT s_head_head_get (M_head_head_get F)) (envS 97 (conOf TT s_head_right (M_head_right F)) (envS 96 (conOf TT s_strings_Trim (M_strings_Trim F)) (envS 51 (conOf TT s_head_fold (M_head_fold F)) (envS 94 (conOf TT s_strings_Cut (M_strings_Cut F)) envN)))))
noncomputable def M_head_head_one (F : Nat) (x : ((List UInt8) × (List UInt8) × (List UInt8) × (List (El .fd)) × Unit) × (List UInt8)) : Option ((Int) × ((List UInt8) × (List UInt8) × (List UInt8) × (List (El .fd)) × Unit)) :=
  (M_strings_Cut F (x.2, [58])).bind fun (v0 : List UInt8 × List UInt8 × Bool) =>
    (M_head_fold F v0.1).bind fun (v1 : List UInt8) =>
      (M_strings_Trim F (v0.2.1, [32, 9])).bind fun (v2 : List UInt8) =>
        (if (!v0.2.2) = false then some ((), v1, v2, decide (v1 = []), (x.1.1, x.1.2.1, x.1.2.2.1, (), ()), x.1.2.2.2.1, ())
            else some ((), v1, v2, true, (x.1.1, x.1.2.1, x.1.2.2.1, (), ()), x.1.2.2.2.1, ())).bind
          fun
            (v3 :
              Unit × List UInt8 × List UInt8 × Bool × (List UInt8 × List UInt8 × List UInt8 × Unit × Unit) × List (List UInt8 × List UInt8 × Unit) × Unit) =>
          (if v3.2.2.2.1 = false then
                some
                  ((), v3.2.1, v3.2.2.1, decide (20 < (↑v3.2.1.length : Int)), (v3.2.2.2.2.1.1, v3.2.2.2.2.1.2.1, v3.2.2.2.2.1.2.2.1, (), ()), v3.2.2.2.2.2.1, ())
              else some ((), v3.2.1, v3.2.2.1, true, (v3.2.2.2.2.1.1, v3.2.2.2.2.1.2.1, v3.2.2.2.2.1.2.2.1, (), ()), v3.2.2.2.2.2.1, ())).bind
            fun
              (v4 :
                Unit ×
                  List UInt8 × List UInt8 × Bool × (List UInt8 × List UInt8 × List UInt8 × Unit × Unit) × List (List UInt8 × List UInt8 × Unit) × Unit) =>
            (if v4.2.2.2.1 = false then
                  (M_strings_Trim F
                        (v4.2.1,
                          [97, 98, 99, 100, 101, 102, 103, 104, 105, 106, 107, 108, 109, 110, 111, 112, 113, 114, 115, 116, 117, 118, 119, 120, 121, 122, 48, 49,
                            50, 51, 52, 53, 54, 55, 56, 57, 45])).bind
                    fun (v5 : List UInt8) =>
                    some ((), v4.2.1, v4.2.2.1, !decide (v5 = []), (v4.2.2.2.2.1.1, v4.2.2.2.2.1.2.1, v4.2.2.2.2.1.2.2.1, (), ()), v4.2.2.2.2.2.1, ())
                else some ((), v4.2.1, v4.2.2.1, true, (v4.2.2.2.2.1.1, v4.2.2.2.2.1.2.1, v4.2.2.2.2.1.2.2.1, (), ()), v4.2.2.2.2.2.1, ())).bind
              fun
                (v6 :
                  Unit ×
                    List UInt8 × List UInt8 × Bool × (List UInt8 × List UInt8 × List UInt8 × Unit × Unit) × List (List UInt8 × List UInt8 × Unit) × Unit) =>
              (if v6.2.2.2.1 = false then
                    (M_head_right F v6.2.2.1).bind fun (v7 : Bool) =>
                      some ((), v6.2.1, v6.2.2.1, !v7, (v6.2.2.2.2.1.1, v6.2.2.2.2.1.2.1, v6.2.2.2.2.1.2.2.1, (), ()), v6.2.2.2.2.2.1, ())
                  else some ((), v6.2.1, v6.2.2.1, true, (v6.2.2.2.2.1.1, v6.2.2.2.2.1.2.1, v6.2.2.2.2.1.2.2.1, (), ()), v6.2.2.2.2.2.1, ())).bind
                fun
                  (v8 :
                    Unit ×
                      List UInt8 × List UInt8 × Bool × (List UInt8 × List UInt8 × List UInt8 × Unit × Unit) × List (List UInt8 × List UInt8 × Unit) × Unit) =>
                if v8.2.2.2.1 = true then some (3, v8.2.2.2.2.1.1, v8.2.2.2.2.1.2.1, v8.2.2.2.2.1.2.2.1, v8.2.2.2.2.2.1, ())
                else
                  (M_head_head_get F ((v8.2.2.2.2.1.1, v8.2.2.2.2.1.2.1, v8.2.2.2.2.1.2.2.1, v8.2.2.2.2.2.1, ()), v8.2.1)).bind
                    fun (v9 : (List UInt8 × Bool) × List UInt8 × List UInt8 × List UInt8 × List (List UInt8 × List UInt8 × Unit) × Unit) =>
                    if v9.1.2 = true then some (7, v9.2.1, v9.2.2.1, v9.2.2.2.1, v9.2.2.2.2.1, ())
                    else
                      (if decide ((v9.2.2.2.2.1.length + [(v8.2.1, v8.2.2.1, Unit.unit)].length) * 32 ≤ 140737488355328) = true then
                            some ((), (v9.2.1, v9.2.2.1, v9.2.2.2.1, (), ()), v9.2.2.2.2.1 ++ [(v8.2.1, v8.2.2.1, Unit.unit)], ())
                          else none).bind
                        fun (v10 : Unit × (List UInt8 × List UInt8 × List UInt8 × Unit × Unit) × List (List UInt8 × List UInt8 × Unit) × Unit) =>
                        some (0, v10.2.1.1, v10.2.1.2.1, v10.2.1.2.2.1, v10.2.2.1, ())
theorem t_head_head_one (x : ((List UInt8) × (List UInt8) × (List UInt8) × (List (El .fd)) × Unit) × (List UInt8)) (F : Nat) : fnRun TT Tryd.prog (e_head_head_one F) s_head_head_one (bodyOf 76) F x = M_head_head_one F x := by kernel_rfl
theorem c_head_head_one (F : Nat) : Ctr TT Tryd.prog 76 (conOf TT s_head_head_one (M_head_head_one F)) :=
  ctr_of (code := bodyOf 76) Tryd.func76 (by kernel_rfl) (by kernel_rfl) (by kernel_rfl) (by kernel_rfl) (envS_ok (envS_ok (envS_ok (envS_ok (envS_ok envN_ok (c_strings_Cut F)) (c_head_fold F)) (c_strings_Trim F)) (c_head_right F)) (c_head_head_get F)) hm (by kernel_rfl) (fun x r h => ⟨F, (t_head_head_one x F).trans h⟩)
noncomputable def s_head_read : Spec Kd := { params := [(.a .str)], ret := (.tup [(.opt [.str, .str, .str, (.slc .fd)]), (.a (.int .i64))]), pins := [], pl := { nt := 51, loops := [(0, ⟨[.tmp 4 (.a (.ptr 832 0)), .tmp 6 (.a .str), .box 832 (.cells 82 [.str, .str, .str, (.rowp 1053251)]), .box 1053251 (.row 89 .fd)], [], [.cellRow 832 3 1053251 89 .fd]⟩, (.ret, ⟨[.tmp 2 (.opt [.str, .str, .str, (.slc .fd)]), .tmp 3 (.a (.int .i64))], [832], [.tmpOpt 2 [.str, .str, .str, .slc .fd]]⟩), [])], cuts := [(5, [(8, ⟨[.tmp 4 (.a (.ptr 832 0)), .tmp 6 (.a .str), .tmp 27 (.a .bool), .box 832 (.cells 82 [.str, .str, .str, (.rowp 1053251)]), .box 1053251 (.row 89 .fd)], [], [.cellRow 832 3 1053251 89 .fd]⟩)])], frz := [(12, [1053251])] }, rfrz := [832], ts := [2, 3], rco := [.tmpOpt 2 [.str, .str, .str, .slc .fd]] }
noncomputable def e_head_read (F : Nat) : Env El := (envS 76 (conOf TT s_head_head_one (M_head_head_one F)) (envS 75 (conOf TT s_head_head_first (M_head_head_first F)) (envS 74 (conOf TT s_head_line (M_head_line F)) envN)))
noncomputable def M_head_read_l0 (F : Nat) (v3 : (Unit × List UInt8 × (List UInt8 × List UInt8 × List UInt8 × Unit × Unit) × List (List UInt8 × List UInt8 × Unit) × Unit)) : Option ((Unit × List UInt8 × (List UInt8 × List UInt8 × List UInt8 × Unit × Unit) × List (List UInt8 × List UInt8 × Unit) × Unit) ⊕ ((Bool × List UInt8 × List UInt8 × List UInt8 × List (List UInt8 × List UInt8 × Unit) × Unit) × Int × Unit)) :=
  (M_head_line F v3.2.1).bind fun (v4 : List UInt8 × List UInt8 × Bool) =>
                  if (!v4.2.2) = true then some (Sum.inr ((false, [], [], [], [], ()), 3, ()))
                  else
                    if decide (v4.1 = []) = true then some (Sum.inr ((true, v3.2.2.1.1, v3.2.2.1.2.1, v4.2.1, v3.2.2.2.1, ()), 0, ()))
                    else
                      (M_head_head_one F ((v3.2.2.1.1, v3.2.2.1.2.1, v3.2.2.1.2.2.1, v3.2.2.2.1, ()), v4.1)).bind
                        fun (v5 : Int × List UInt8 × List UInt8 × List UInt8 × List (List UInt8 × List UInt8 × Unit) × Unit) =>
                        if (!decide (v5.1 = 0)) = true then some (Sum.inr ((false, [], [], [], [], ()), v5.1, ()))
                        else some (Sum.inl ((), v4.2.1, (v5.2.1, v5.2.2.1, v5.2.2.2.1, (), ()), v5.2.2.2.2.1, ()))
noncomputable def M_head_read (F : Nat) (x : (List UInt8)) : Option ((Bool × ((List UInt8) × (List UInt8) × (List UInt8) × (List (El .fd)) × Unit)) × (Int)) :=
  if decide (600 < (↑x.length : Int)) = true then some ((false, [], [], [], [], ()), 5)
  else
    (M_head_line F x).bind fun (v0 : List UInt8 × List UInt8 × Bool) =>
      (if (!v0.2.2) = false then
            (M_head_head_first F (([], [], [], [], ()), v0.1)).bind
              fun (v1 : Bool × List UInt8 × List UInt8 × List UInt8 × List (List UInt8 × List UInt8 × Unit) × Unit) =>
              some ((), v0.2.1, !v1.1, (v1.2.1, v1.2.2.1, v1.2.2.2.1, (), ()), v1.2.2.2.2.1, ())
          else some ((), v0.2.1, true, ([], [], [], (), ()), [], ())).bind
        fun (v2 : Unit × List UInt8 × Bool × (List UInt8 × List UInt8 × List UInt8 × Unit × Unit) × List (List UInt8 × List UInt8 × Unit) × Unit) =>
        if v2.2.2.1 = true then some ((false, [], [], [], [], ()), 3)
        else
          (loopM (M_head_read_l0 F)
                F ((), v2.2.1, (v2.2.2.2.1.1, v2.2.2.2.1.2.1, v2.2.2.2.1.2.2.1, (), ()), v2.2.2.2.2.1, ())).bind
            fun (v6 : (Bool × List UInt8 × List UInt8 × List UInt8 × List (List UInt8 × List UInt8 × Unit) × Unit) × Int × Unit) => some (v6.1, v6.2.1)
theorem t_head_read (x : (List UInt8)) (F : Nat) : fnRun TT Tryd.prog (e_head_read F) s_head_read (bodyOf 44) F x = M_head_read F x := by kernel_rfl
theorem c_head_read (F : Nat) : Ctr TT Tryd.prog 44 (conOf TT s_head_read (M_head_read F)) :=
  ctr_of (code := bodyOf 44) Tryd.func44 (by kernel_rfl) (by kernel_rfl) (by kernel_rfl) (by kernel_rfl) (envS_ok (envS_ok (envS_ok envN_ok (c_head_line F)) (c_head_head_first F)) (c_head_head_one F)) hm (by kernel_rfl) (fun x r h => ⟨F, (t_head_read x F).trans h⟩)
noncomputable def s_head_get_o : Spec Kd := { params := [(.opt [.str, .str, .str, (.slc .fd)]), (.a .str)], ret := (.tup [(.a .str), (.a .bool)]), pins := [], pl := { nt := 24, loops := [(0, ⟨[.tmp 1 (.a .str), .tmp 11 (.a (.slc .fd)), .tmp 12 (.a (.int .i64)), .tmp 13 (.a (.int .i64))], [], []⟩, (.exit 0, ⟨[], [], []⟩), [(.ret, ⟨[.tmp 4 (.a .str), .tmp 5 (.a .bool)], [], []⟩)])] }, rfrz := [], ts := [4, 5] }
noncomputable def e_head_get_o (F : Nat) : Env El := envN
noncomputable def M_head_get_o_l0 (F : Nat) (v0 : (List UInt8 × List (List UInt8 × List UInt8 × Unit) × Int × Int × Unit)) : Option ((List UInt8 × List (List UInt8 × List UInt8 × Unit) × Int × Int × Unit) ⊕ (Unit ⊕ List UInt8 × Bool × Unit)) :=
  if decide (v0.2.2.2.1 < v0.2.2.1) = true then
            (idx v0.2.1 v0.2.2.2.1).bind fun (v1 : List UInt8 × List UInt8 × Unit) =>
              if decide (v1.1 = v0.1) = true then some (Sum.inr (Sum.inr (v1.2.1, true, ())))
              else some (Sum.inl (v0.1, v0.2.1, v0.2.2.1, IntKind.i64.wrap (v0.2.2.2.1 + 1), ()))
          else some (Sum.inr (Sum.inl ()))
noncomputable def M_head_get_o (F : Nat) (x : (Bool × ((List UInt8) × (List UInt8) × (List UInt8) × (List (El .fd)) × Unit)) × (List UInt8)) : Option ((List UInt8) × (Bool)) :=
  if x.1.1 = true then
    (loopM (M_head_get_o_l0 F)
          F (x.2, x.1.2.2.2.2.1, (↑x.1.2.2.2.2.1.length : Int), 0, ())).bind
      fun (v2 : Unit ⊕ List UInt8 × Bool × Unit) => sumC v2 (fun (v3 : Unit) => some ([], false)) fun (v4 : List UInt8 × Bool × Unit) => some (v4.1, v4.2.1)
  else none
theorem t_head_get_o (x : (Bool × ((List UInt8) × (List UInt8) × (List UInt8) × (List (El .fd)) × Unit)) × (List UInt8)) (F : Nat) : fnRun TT Tryd.prog (e_head_get_o F) s_head_get_o (bodyOf 45) F x = M_head_get_o F x := by kernel_rfl
theorem c_head_get_o (F : Nat) : Ctr TT Tryd.prog 45 (conOf TT s_head_get_o (M_head_get_o F)) :=
  ctr_of (code := bodyOf 45) Tryd.func45 (by kernel_rfl) (by kernel_rfl) (by kernel_rfl) (by kernel_rfl) envN_ok hm (by kernel_rfl) (fun x r h => ⟨F, (t_head_get_o x F).trans h⟩)
noncomputable def s_head_Parse : Spec Kd := { params := [(.a .str)], ret := (.tup [(.agg [(.int .i64), (.int .i64), (.int .i64), .str, .str, .str, .str]), (.a (.int .i64))]), pins := [], pl := { nt := 68, joins := [(1100047, (.norm, ⟨[.tmp 2 (.a (.ptr 128 0)), .tmp 8 (.a (.ptr 512 0)), .box 128 (.cells 37 [(.int .i64), (.int .i64), (.int .i64), .str, .str, .str, .str]), .box 512 (.cells 37 [(.int .i64), (.int .i64), (.int .i64), .str, .str, .str, .str])], [], []⟩), [(.ret, ⟨[.tmp 2 (.a (.ptr 128 0)), .tmp 3 (.a (.int .i64)), .box 128 (.cells 37 [(.int .i64), (.int .i64), (.int .i64), .str, .str, .str, .str])], [], []⟩)])], cuts := [(10, [(8, ⟨[.tmp 2 (.a (.ptr 128 0)), .tmp 8 (.a (.ptr 512 0)), .tmp 9 (.a .str), .tmp 55 (.a .bool), .box 128 (.cells 37 [(.int .i64), (.int .i64), (.int .i64), .str, .str, .str, .str]), .box 512 (.cells 37 [(.int .i64), (.int .i64), (.int .i64), .str, .str, .str, .str])], [], []⟩), (5, ⟨[.tmp 2 (.a (.ptr 128 0)), .tmp 8 (.a (.ptr 512 0)), .tmp 9 (.a .str), .tmp 60 (.a .bool), .box 128 (.cells 37 [(.int .i64), (.int .i64), (.int .i64), .str, .str, .str, .str]), .box 512 (.cells 37 [(.int .i64), (.int .i64), (.int .i64), .str, .str, .str, .str])], [], []⟩)])], ends := [(7, ⟨[.tmp 2 (.a (.ptr 128 0)), .tmp 4 (.opt [.str, .str, .str, (.slc .fd)]), .tmp 8 (.a (.ptr 512 0)), .box 128 (.cells 37 [(.int .i64), (.int .i64), (.int .i64), .str, .str, .str, .str]), .box 512 (.cells 37 [(.int .i64), (.int .i64), (.int .i64), .str, .str, .str, .str])], [], [.tmpOpt 4 [.str, .str, .str, .slc .fd]]⟩)] }, rfrz := [], ts := [68, 69], rc := [(2, some 37), (3, none)] }
noncomputable def e_head_Parse (F : Nat) : Env El := (envS 45 (conOf TT s_head_get_o (M_head_get_o F)) (envS 44 (conOf TT s_head_read (M_head_read F)) envN))
noncomputable def M_head_Parse (F : Nat) (x : (List UInt8)) : Option (((Int) × (Int) × (Int) × (List UInt8) × (List UInt8) × (List UInt8) × (List UInt8) × Unit) × (Int)) :=
  (M_head_read F x).bind fun (v0 : (Bool × List UInt8 × List UInt8 × List UInt8 × List (List UInt8 × List UInt8 × Unit) × Unit) × Int) =>
    if (!decide (v0.2 = 0)) = true then some ((0, 0, 0, [], [], [], [], ()), v0.2)
    else
      (M_head_get_o F (v0.1, [105, 100, 101, 109, 112, 111, 116, 101, 110, 99, 121, 45, 107, 101, 121])).bind fun (v1 : List UInt8 × Bool) =>
        if (!v1.2) = true then some ((0, 0, 0, [], [], [], [], ()), 6)
        else
          (if v0.1.1 = true then
                if v0.1.1 = true then
                  if v0.1.1 = true then some ((), v0.1, (), (0, 0, 0, [], [], [], [], ()), (0, 0, 0, v1.1, v0.1.2.1, v0.1.2.2.1, v0.1.2.2.2.1, ()), ()) else none
                else none
              else none).bind
            fun
              (v2 :
                Unit ×
                  (Bool × List UInt8 × List UInt8 × List UInt8 × List (List UInt8 × List UInt8 × Unit) × Unit) ×
                    Unit ×
                      (Int × Int × Int × List UInt8 × List UInt8 × List UInt8 × List UInt8 × Unit) ×
                        (Int × Int × Int × List UInt8 × List UInt8 × List UInt8 × List UInt8 × Unit) × Unit) =>
            (M_head_get_o F (v2.2.1, [116, 101, 110, 97, 110, 116])).bind fun (v3 : List UInt8 × Bool) =>
              (if v3.2 = true then
                    (if (!decide ((↑v3.1.length : Int) = 1)) = false then
                          (idx v3.1 0).bind fun (v4 : UInt8) => some ((), (), v3.1, decide ((↑v4.toNat : Int) < 48), v2.2.2.2.1, v2.2.2.2.2.1, ())
                        else some ((), (), v3.1, true, v2.2.2.2.1, v2.2.2.2.2.1, ())).bind
                      fun
                        (v5 :
                          Unit ×
                            Unit ×
                              List UInt8 ×
                                Bool ×
                                  (Int × Int × Int × List UInt8 × List UInt8 × List UInt8 × List UInt8 × Unit) ×
                                    (Int × Int × Int × List UInt8 × List UInt8 × List UInt8 × List UInt8 × Unit) × Unit) =>
                      (if v5.2.2.2.1 = false then
                            (idx v5.2.2.1 0).bind fun (v6 : UInt8) => some ((), (), v5.2.2.1, decide (52 ≤ (↑v6.toNat : Int)), v5.2.2.2.2.1, v5.2.2.2.2.2.1, ())
                          else some ((), (), v5.2.2.1, true, v5.2.2.2.2.1, v5.2.2.2.2.2.1, ())).bind
                        fun
                          (v7 :
                            Unit ×
                              Unit ×
                                List UInt8 ×
                                  Bool ×
                                    (Int × Int × Int × List UInt8 × List UInt8 × List UInt8 × List UInt8 × Unit) ×
                                      (Int × Int × Int × List UInt8 × List UInt8 × List UInt8 × List UInt8 × Unit) × Unit) =>
                        if v7.2.2.2.1 = true then some (Sum.inr ((), 1, (0, 0, 0, [], [], [], [], ()), ()))
                        else
                          (idx v7.2.2.1 0).bind fun (v8 : UInt8) =>
                            some
                              (Sum.inl
                                ((), (), v7.2.2.2.2.1,
                                  (v7.2.2.2.2.2.1.1, v7.2.2.2.2.2.1.2.1, IntKind.i64.wrap (IntKind.u8.wrap ((↑v8.toNat : Int) - 48)), v7.2.2.2.2.2.1.2.2.2.1,
                                    v7.2.2.2.2.2.1.2.2.2.2.1, v7.2.2.2.2.2.1.2.2.2.2.2.1, v7.2.2.2.2.2.1.2.2.2.2.2.2.1, ()),
                                  ()))
                  else some (Sum.inl ((), (), v2.2.2.2.1, v2.2.2.2.2.1, ()))).bind
                fun
                  (v9 :
                    Unit ×
                        Unit ×
                          (Int × Int × Int × List UInt8 × List UInt8 × List UInt8 × List UInt8 × Unit) ×
                            (Int × Int × Int × List UInt8 × List UInt8 × List UInt8 × List UInt8 × Unit) × Unit ⊕
                      Unit × Int × (Int × Int × Int × List UInt8 × List UInt8 × List UInt8 × List UInt8 × Unit) × Unit) =>
                sumC v9
                  (fun
                      (v10 :
                        Unit ×
                          Unit ×
                            (Int × Int × Int × List UInt8 × List UInt8 × List UInt8 × List UInt8 × Unit) ×
                              (Int × Int × Int × List UInt8 × List UInt8 × List UInt8 × List UInt8 × Unit) × Unit) =>
                    some (v10.2.2.2.1, 0))
                  fun (v11 : Unit × Int × (Int × Int × Int × List UInt8 × List UInt8 × List UInt8 × List UInt8 × Unit) × Unit) => some (v11.2.2.1, v11.2.1)
theorem t_head_Parse (x : (List UInt8)) (F : Nat) : fnRun TT Tryd.prog (e_head_Parse F) s_head_Parse (bodyOf 15) F x = M_head_Parse F x := by kernel_rfl
theorem c_head_Parse (F : Nat) : Ctr TT Tryd.prog 15 (conOf TT s_head_Parse (M_head_Parse F)) :=
  ctr_of (code := bodyOf 15) Tryd.func15 (by kernel_rfl) (by kernel_rfl) (by kernel_rfl) (by kernel_rfl) (envS_ok (envS_ok envN_ok (c_head_read F)) (c_head_get_o F)) hm (by kernel_rfl) (fun x r h => ⟨F, (t_head_Parse x F).trans h⟩)
noncomputable def s_head_Field : Spec Kd := { params := [(.a .str), (.a .str)], ret := (.tup [(.a .str), (.a .bool)]), pins := [], pl := { nt := 21 }, rfrz := [], ts := [4, 5] }
noncomputable def e_head_Field (F : Nat) : Env El := (envS 45 (conOf TT s_head_get_o (M_head_get_o F)) (envS 51 (conOf TT s_head_fold (M_head_fold F)) (envS 44 (conOf TT s_head_read (M_head_read F)) envN)))
noncomputable def M_head_Field (F : Nat) (x : (List UInt8) × (List UInt8)) : Option ((List UInt8) × (Bool)) :=
  (M_head_read F x.1).bind fun (v0 : (Bool × List UInt8 × List UInt8 × List UInt8 × List (List UInt8 × List UInt8 × Unit) × Unit) × Int) =>
    if (!decide (v0.2 = 0)) = true then some ([], false)
    else (M_head_fold F x.2).bind fun (v1 : List UInt8) => (M_head_get_o F (v0.1, v1)).bind fun (v2 : List UInt8 × Bool) => some v2
theorem t_head_Field (x : (List UInt8) × (List UInt8)) (F : Nat) : fnRun TT Tryd.prog (e_head_Field F) s_head_Field (bodyOf 18) F x = M_head_Field F x := by kernel_rfl
theorem c_head_Field (F : Nat) : Ctr TT Tryd.prog 18 (conOf TT s_head_Field (M_head_Field F)) :=
  ctr_of (code := bodyOf 18) Tryd.func18 (by kernel_rfl) (by kernel_rfl) (by kernel_rfl) (by kernel_rfl) (envS_ok (envS_ok (envS_ok envN_ok (c_head_read F)) (c_head_fold F)) (c_head_get_o F)) hm (by kernel_rfl) (fun x r h => ⟨F, (t_head_Field x F).trans h⟩)
noncomputable def s_head_Names : Spec Kd := { params := [(.a .str)], ret := (.one (.a (.row 9 .str))), pins := [], pl := { nt := 33, orc := { rv := [2, 5, 24, 28, 32], gv := [], ln := [30] }, loops := [(0, ⟨[.tmp 5 (.a (.rowp 320)), .tmp 18 (.a (.slc .fd)), .tmp 19 (.a (.int .i64)), .tmp 20 (.a (.int .i64)), .box 320 (.row 9 .str)], [], [.tmpRow 5 320 9 .str]⟩, (.exit 0, ⟨[.tmp 5 (.a (.rowp 320)), .box 320 (.row 9 .str)], [], [.tmpRow 5 320 9 .str]⟩), [])] }, rfrz := [], ts := [2] }
noncomputable def e_head_Names (F : Nat) : Env El := (envS 52 (conOf TT s_slices_Sort_string_string (M_slices_Sort_string_string F)) (envS 44 (conOf TT s_head_read (M_head_read F)) envN))
noncomputable def M_head_Names_l0 (F : Nat) (v1 : (Unit × List (List UInt8 × List UInt8 × Unit) × Int × Int × List (List UInt8) × Unit)) : Option ((Unit × List (List UInt8 × List UInt8 × Unit) × Int × Int × List (List UInt8) × Unit) ⊕ (Unit × List (List UInt8) × Unit)) :=
  if decide (v1.2.2.2.1 < v1.2.2.1) = true then
                (idx v1.2.1 v1.2.2.2.1).bind fun (v2 : List UInt8 × List UInt8 × Unit) =>
                  if decide ((v1.2.2.2.2.1.length + [v2.1].length) * 16 ≤ 140737488355328) = true then
                    some (Sum.inl ((), v1.2.1, v1.2.2.1, IntKind.i64.wrap (v1.2.2.2.1 + 1), v1.2.2.2.2.1 ++ [v2.1], ()))
                  else none
              else some (Sum.inr ((), v1.2.2.2.2.1, ()))
noncomputable def M_head_Names (F : Nat) (x : (List UInt8)) : Option (List (El .str)) :=
  (M_head_read F x).bind fun (v0 : (Bool × List UInt8 × List UInt8 × List UInt8 × List (List UInt8 × List UInt8 × Unit) × Unit) × Int) =>
    if (!decide (v0.2 = 0)) = true then some []
    else
      if v0.1.1 = true then
        (loopM (M_head_Names_l0 F)
              F ((), v0.1.2.2.2.2.1, (↑v0.1.2.2.2.2.1.length : Int), 0, [], ())).bind
          fun (v3 : Unit × List (List UInt8) × Unit) =>
          (M_slices_Sort_string_string F (v3.2.1, ())).bind fun (v4 : Unit × List (List UInt8) × Unit) => some v4.2.1
      else none
theorem t_head_Names (x : (List UInt8)) (F : Nat) : fnRun TT Tryd.prog (e_head_Names F) s_head_Names (bodyOf 21) F x = M_head_Names F x := by kernel_rfl
theorem c_head_Names (F : Nat) : Ctr TT Tryd.prog 21 (conOf TT s_head_Names (M_head_Names F)) :=
  ctr_of (code := bodyOf 21) Tryd.func21 (by kernel_rfl) (by kernel_rfl) (by kernel_rfl) (by kernel_rfl) (envS_ok (envS_ok envN_ok (c_head_read F)) (c_slices_Sort_string_string F)) hm (by kernel_rfl) (fun x r h => ⟨F, (t_head_Names x F).trans h⟩)
end Go.Vm
