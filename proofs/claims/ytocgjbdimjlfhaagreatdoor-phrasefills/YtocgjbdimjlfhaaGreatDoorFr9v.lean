/- Models of functions of the program, and that each keeps its contract: for all arguments of its shape. No condition. -/
import Derived.Test.YtocgjbdimjlfhaaGreatDoorKt
import Derived.Test.YtocgjbdimjlfhaaGreatDoorFr9
namespace Go.Vm
open Go.Proofs
set_option linter.unusedVariables false
noncomputable def s_conciergeref09_Read_Value : Spec Kd := { params := [(.pin 144 [.str, (.int .i64), (.int .i64), (.int .i64)])], ret := (.one (.agg [(.int .i64), .str, .str, (.int .i64), (.slc .str), (.slc .str)])), pins := [[.str, (.int .i64), (.int .i64), (.int .i64)]], pl := { nt := 39 }, rfrz := [], ts := [39], rc := [(2, some 110)], rco := [.cellSlc 128 4 .str, .cellSlc 128 5 .str] }
noncomputable def s_conciergeref09_Read_list : Spec Kd := { params := [(.pin 144 [.str, (.int .i64), (.int .i64), (.int .i64)])], ret := (.one (.agg [(.int .i64), .str, .str, (.int .i64), (.slc .str), (.slc .str)])), pins := [[.str, (.int .i64), (.int .i64), (.int .i64)]], pl := { nt := 70, joins := [(1600050, (.norm, ⟨[.tmp 0 (.a (.ptr 1 0)), .tmp 2 (.a (.ptr 128 0)), .tmp 3 (.a (.ptr 192 0)), .tmp 4 (.a (.int .i64)), .box 1 (.cells 144 [.str, (.int .i64), (.int .i64), (.int .i64)]), .box 128 (.cells 110 [(.int .i64), .str, .str, (.int .i64), (.slc .str), (.slc .str)]), .box 192 (.cells 110 [(.int .i64), .str, .str, (.int .i64), (.slc .str), (.rowp 1012293)]), .box 1012293 (.row 9 .str)], [], [.cellSlc 128 4 .str, .cellSlc 128 5 .str, .cellSlc 192 4 .str, .cellRow 192 5 1012293 9 .str]⟩), [])], loops := [(2, ⟨[.tmp 0 (.a (.ptr 1 0)), .tmp 2 (.a (.ptr 128 0)), .tmp 3 (.a (.ptr 192 0)), .tmp 4 (.a (.int .i64)), .box 1 (.cells 144 [.str, (.int .i64), (.int .i64), (.int .i64)]), .box 128 (.cells 110 [(.int .i64), .str, .str, (.int .i64), (.slc .str), (.slc .str)]), .box 192 (.cells 110 [(.int .i64), .str, .str, (.int .i64), (.slc .str), (.rowp 1012293)]), .box 1012293 (.row 9 .str)], [], [.cellSlc 128 4 .str, .cellSlc 128 5 .str, .cellSlc 192 4 .str, .cellRow 192 5 1012293 9 .str]⟩, (.exit 2, ⟨[.tmp 0 (.a (.ptr 1 0)), .tmp 2 (.a (.ptr 128 0)), .tmp 3 (.a (.ptr 192 0)), .box 1 (.cells 144 [.str, (.int .i64), (.int .i64), (.int .i64)]), .box 128 (.cells 110 [(.int .i64), .str, .str, (.int .i64), (.slc .str), (.slc .str)]), .box 192 (.cells 110 [(.int .i64), .str, .str, (.int .i64), (.slc .str), (.rowp 1012293)]), .box 1012293 (.row 9 .str)], [], [.cellSlc 128 4 .str, .cellSlc 128 5 .str, .cellSlc 192 4 .str, .cellRow 192 5 1012293 9 .str]⟩), []), (0, ⟨[.tmp 0 (.a (.ptr 1 0)), .tmp 2 (.a (.ptr 128 0)), .tmp 3 (.a (.ptr 192 0)), .box 1 (.cells 144 [.str, (.int .i64), (.int .i64), (.int .i64)]), .box 128 (.cells 110 [(.int .i64), .str, .str, (.int .i64), (.slc .str), (.slc .str)]), .box 192 (.cells 110 [(.int .i64), .str, .str, (.int .i64), (.slc .str), (.rowp 1012293)]), .box 1012293 (.row 9 .str)], [], [.cellSlc 128 4 .str, .cellSlc 128 5 .str, .cellSlc 192 4 .str, .cellRow 192 5 1012293 9 .str]⟩, (.exit 0, ⟨[.tmp 0 (.a (.ptr 1 0)), .tmp 2 (.a (.ptr 128 0)), .tmp 3 (.a (.ptr 192 0)), .box 1 (.cells 144 [.str, (.int .i64), (.int .i64), (.int .i64)]), .box 128 (.cells 110 [(.int .i64), .str, .str, (.int .i64), (.slc .str), (.slc .str)]), .box 192 (.cells 110 [(.int .i64), .str, .str, (.int .i64), (.slc .str), (.rowp 1012293)]), .box 1012293 (.row 9 .str)], [], [.cellSlc 128 4 .str, .cellSlc 128 5 .str, .cellSlc 192 4 .str, .cellRow 192 5 1012293 9 .str]⟩), [])], ends := [(9, ⟨[.tmp 0 (.a (.ptr 1 0)), .tmp 2 (.a (.ptr 128 0)), .tmp 3 (.a (.ptr 192 0)), .box 1 (.cells 144 [.str, (.int .i64), (.int .i64), (.int .i64)]), .box 128 (.cells 110 [(.int .i64), .str, .str, (.int .i64), (.slc .str), (.slc .str)]), .box 192 (.cells 110 [(.int .i64), .str, .str, (.int .i64), (.slc .str), (.rowp 1012293)]), .box 1012293 (.row 9 .str)], [], [.cellSlc 128 4 .str, .cellSlc 128 5 .str, .cellSlc 192 4 .str, .cellRow 192 5 1012293 9 .str]⟩)], frz := [(7, [1012293]), (18, [1012293])] }, rfrz := [], ts := [70], rc := [(2, some 110)], rco := [.cellSlc 128 4 .str, .cellSlc 128 5 .str] }
noncomputable def e_conciergeref09_Read_list (F : Nat) (R : tyS El s_conciergeref09_Read_Value.params → Option (s_conciergeref09_Read_Value.R El)) : Env El := (envS 118 (conOf TT s_conciergeref09_Read_Value R) (envS 198 (conOf TT s_conciergeref09_Read_more (M_conciergeref09_Read_more F)) (envS 160 (conOf TT s_conciergeref09_Read_is (M_conciergeref09_Read_is F)) (envS 196 (conOf TT s_conciergeref09_Read_open (M_conciergeref09_Read_open F)) envN))))
noncomputable def M_conciergeref09_Read_list_l0 (F : Nat) (R : ((List UInt8) × (Int) × (Int) × (Int) × Unit) → Option (((Int) × (List UInt8) × (List UInt8) × (Int) × (List (El .str)) × (List (El .str)) × Unit) × ((List UInt8) × (Int) × (Int) × (Int) × Unit))) (v2 : (Unit ×
       Unit ×
        Unit ×
         (List UInt8 × Int × Int × Int × Unit) ×
          (Int × List UInt8 × List UInt8 × Int × List (List UInt8) × List (List UInt8) × Unit) ×
           (Int × List UInt8 × List UInt8 × Int × List (List UInt8) × Unit × Unit) × List (List UInt8) × Unit)) : Option ((Unit ×
       Unit ×
        Unit ×
         (List UInt8 × Int × Int × Int × Unit) ×
          (Int × List UInt8 × List UInt8 × Int × List (List UInt8) × List (List UInt8) × Unit) ×
           (Int × List UInt8 × List UInt8 × Int × List (List UInt8) × Unit × Unit) × List (List UInt8) × Unit) ⊕ (Unit ×
       Unit ×
        Unit ×
         (List UInt8 × Int × Int × Int × Unit) ×
          (Int × List UInt8 × List UInt8 × Int × List (List UInt8) × List (List UInt8) × Unit) ×
           (Int × List UInt8 × List UInt8 × Int × List (List UInt8) × Unit × Unit) × List (List UInt8) × Unit)) :=
 if decide (v2.2.2.2.1.2.2.2.1 = 0) = true then
        ((R (v2.2.2.2.1.1, v2.2.2.2.1.2.1, v2.2.2.2.1.2.2.1, v2.2.2.2.1.2.2.2.1, ())).bind
           fun (v3 : (Int × List UInt8 × List UInt8 × Int × List (List UInt8) × List (List UInt8) × Unit) × List UInt8 × Int × Int × Int × Unit) =>
           if decide ((v2.2.2.2.2.2.2.1.length + [v3.1.2.1].length) * 16 ≤ 140737488355328) = true then
            some
             ((), (), (), (v3.2.1, v3.2.2.1, v3.2.2.2.1, v3.2.2.2.2.1, ()), v2.2.2.2.2.1,
               (v2.2.2.2.2.2.1.1, v2.2.2.2.2.2.1.2.1, v2.2.2.2.2.2.1.2.2.1, v2.2.2.2.2.2.1.2.2.2.1, v2.2.2.2.2.2.1.2.2.2.2.1, (), ()),
               v2.2.2.2.2.2.2.1 ++ [v3.1.2.1], ())
           else none).bind
         fun
          (v4 :
           Unit ×
            Unit ×
             Unit ×
              (List UInt8 × Int × Int × Int × Unit) ×
               (Int × List UInt8 × List UInt8 × Int × List (List UInt8) × List (List UInt8) × Unit) ×
                (Int × List UInt8 × List UInt8 × Int × List (List UInt8) × Unit × Unit) × List (List UInt8) × Unit) =>
         (M_conciergeref09_Read_more F ((v4.2.2.2.1.1, v4.2.2.2.1.2.1, v4.2.2.2.1.2.2.1, v4.2.2.2.1.2.2.2.1, ()), 93)).bind
          fun (v5 : Bool × List UInt8 × Int × Int × Int × Unit) =>
          if (!v5.1) = true then
           some
            (Sum.inr
             ((), (), (), (v5.2.1, v5.2.2.1, v5.2.2.2.1, v5.2.2.2.2.1, ()), v4.2.2.2.2.1,
               (v4.2.2.2.2.2.1.1, v4.2.2.2.2.2.1.2.1, v4.2.2.2.2.2.1.2.2.1, v4.2.2.2.2.2.1.2.2.2.1, v4.2.2.2.2.2.1.2.2.2.2.1, (), ()),
               v4.2.2.2.2.2.2.1, ()))
          else
           some
            (Sum.inl
             ((), (), (), (v5.2.1, v5.2.2.1, v5.2.2.2.1, v5.2.2.2.2.1, ()), v4.2.2.2.2.1,
               (v4.2.2.2.2.2.1.1, v4.2.2.2.2.2.1.2.1, v4.2.2.2.2.2.1.2.2.1, v4.2.2.2.2.2.1.2.2.2.1, v4.2.2.2.2.2.1.2.2.2.2.1, (), ()),
               v4.2.2.2.2.2.2.1, ()))
       else
        some
         (Sum.inr
          ((), (), (), (v2.2.2.2.1.1, v2.2.2.2.1.2.1, v2.2.2.2.1.2.2.1, v2.2.2.2.1.2.2.2.1, ()), v2.2.2.2.2.1,
            (v2.2.2.2.2.2.1.1, v2.2.2.2.2.2.1.2.1, v2.2.2.2.2.2.1.2.2.1, v2.2.2.2.2.2.1.2.2.2.1, v2.2.2.2.2.2.1.2.2.2.2.1, (), ()), v2.2.2.2.2.2.2.1,
            ()))
noncomputable def M_conciergeref09_Read_list_l1 (F : Nat) (R : ((List UInt8) × (Int) × (Int) × (Int) × Unit) → Option (((Int) × (List UInt8) × (List UInt8) × (Int) × (List (El .str)) × (List (El .str)) × Unit) × ((List UInt8) × (Int) × (Int) × (Int) × Unit))) (v7 : (Unit ×
        Unit ×
         Unit ×
          Int ×
           (List UInt8 × Int × Int × Int × Unit) ×
            (Int × List UInt8 × List UInt8 × Int × List (List UInt8) × List (List UInt8) × Unit) ×
             (Int × List UInt8 × List UInt8 × Int × List (List UInt8) × Unit × Unit) × List (List UInt8) × Unit)) : Option ((Unit ×
        Unit ×
         Unit ×
          Int ×
           (List UInt8 × Int × Int × Int × Unit) ×
            (Int × List UInt8 × List UInt8 × Int × List (List UInt8) × List (List UInt8) × Unit) ×
             (Int × List UInt8 × List UInt8 × Int × List (List UInt8) × Unit × Unit) × List (List UInt8) × Unit) ⊕ (Unit ×
        Unit ×
         Unit ×
          (List UInt8 × Int × Int × Int × Unit) ×
           (Int × List UInt8 × List UInt8 × Int × List (List UInt8) × List (List UInt8) × Unit) ×
            (Int × List UInt8 × List UInt8 × Int × List (List UInt8) × Unit × Unit) × List (List UInt8) × Unit)) :=
 if decide (v7.2.2.2.1 < (↑v7.2.2.2.2.2.2.2.1.length : Int)) = true then
         (if decide (0 < v7.2.2.2.1) = true then
            if decide (v7.2.2.2.2.2.2.1.2.1.length + [44].length ≤ 9223372036854775807) = true then
             some
              ((), (), (), v7.2.2.2.1, (v7.2.2.2.2.1.1, v7.2.2.2.2.1.2.1, v7.2.2.2.2.1.2.2.1, v7.2.2.2.2.1.2.2.2.1, ()), v7.2.2.2.2.2.1,
                (v7.2.2.2.2.2.2.1.1, v7.2.2.2.2.2.2.1.2.1 ++ [44], v7.2.2.2.2.2.2.1.2.2.1, v7.2.2.2.2.2.2.1.2.2.2.1, v7.2.2.2.2.2.2.1.2.2.2.2.1,
                  (), ()),
                v7.2.2.2.2.2.2.2.1, ())
            else none
           else
            some
             ((), (), (), v7.2.2.2.1, (v7.2.2.2.2.1.1, v7.2.2.2.2.1.2.1, v7.2.2.2.2.1.2.2.1, v7.2.2.2.2.1.2.2.2.1, ()), v7.2.2.2.2.2.1,
               (v7.2.2.2.2.2.2.1.1, v7.2.2.2.2.2.2.1.2.1, v7.2.2.2.2.2.2.1.2.2.1, v7.2.2.2.2.2.2.1.2.2.2.1, v7.2.2.2.2.2.2.1.2.2.2.2.1, (), ()),
               v7.2.2.2.2.2.2.2.1, ())).bind
          fun
           (v8 :
            Unit ×
             Unit ×
              Unit ×
               Int ×
                (List UInt8 × Int × Int × Int × Unit) ×
                 (Int × List UInt8 × List UInt8 × Int × List (List UInt8) × List (List UInt8) × Unit) ×
                  (Int × List UInt8 × List UInt8 × Int × List (List UInt8) × Unit × Unit) × List (List UInt8) × Unit) =>
          (idx v8.2.2.2.2.2.2.2.1 v8.2.2.2.1).bind fun (v9 : List UInt8) =>
           if decide (v8.2.2.2.2.2.2.1.2.1.length + v9.length ≤ 9223372036854775807) = true then
            some
             (Sum.inl
              ((), (), (), IntKind.i64.wrap (v8.2.2.2.1 + 1), (v8.2.2.2.2.1.1, v8.2.2.2.2.1.2.1, v8.2.2.2.2.1.2.2.1, v8.2.2.2.2.1.2.2.2.1, ()),
                v8.2.2.2.2.2.1,
                (v8.2.2.2.2.2.2.1.1, v8.2.2.2.2.2.2.1.2.1 ++ v9, v8.2.2.2.2.2.2.1.2.2.1, v8.2.2.2.2.2.2.1.2.2.2.1, v8.2.2.2.2.2.2.1.2.2.2.2.1, (),
                  ()),
                v8.2.2.2.2.2.2.2.1, ()))
           else none
        else
         some
          (Sum.inr
           ((), (), (), (v7.2.2.2.2.1.1, v7.2.2.2.2.1.2.1, v7.2.2.2.2.1.2.2.1, v7.2.2.2.2.1.2.2.2.1, ()), v7.2.2.2.2.2.1,
             (v7.2.2.2.2.2.2.1.1, v7.2.2.2.2.2.2.1.2.1, v7.2.2.2.2.2.2.1.2.2.1, v7.2.2.2.2.2.2.1.2.2.2.1, v7.2.2.2.2.2.2.1.2.2.2.2.1, (), ()),
             v7.2.2.2.2.2.2.2.1, ()))
noncomputable def M_conciergeref09_Read_list (F : Nat) (R : ((List UInt8) × (Int) × (Int) × (Int) × Unit) → Option (((Int) × (List UInt8) × (List UInt8) × (Int) × (List (El .str)) × (List (El .str)) × Unit) × ((List UInt8) × (Int) × (Int) × (Int) × Unit))) (x : ((List UInt8) × (Int) × (Int) × (Int) × Unit)) : Option (((Int) × (List UInt8) × (List UInt8) × (Int) × (List (El .str)) × (List (El .str)) × Unit) × ((List UInt8) × (Int) × (Int) × (Int) × Unit)) :=
 (M_conciergeref09_Read_open F (x.1, x.2.1, x.2.2.1, x.2.2.2.1, ())).bind fun (v0 : Unit × List UInt8 × Int × Int × Int × Unit) =>
  (M_conciergeref09_Read_is F ((v0.2.1, v0.2.2.1, v0.2.2.2.1, v0.2.2.2.2.1, ()), 93)).bind fun (v1 : Bool × List UInt8 × Int × Int × Int × Unit) =>
   if v1.1 = true then some ((5, [91, 93], [], 0, [], [], ()), v1.2.1, IntKind.i64.wrap (v1.2.2.1 + 1), IntKind.i64.wrap (v1.2.2.2.1 - 1), v1.2.2.2.2.1, ())
   else
    (loopM (M_conciergeref09_Read_list_l0 F R)
       F ((), (), (), (v1.2.1, v1.2.2.1, v1.2.2.2.1, v1.2.2.2.2.1, ()), (0, [], [], 0, [], [], ()), (5, [], [], 0, [], (), ()), [], ())).bind
     fun
      (v6 :
       Unit ×
        Unit ×
         Unit ×
          (List UInt8 × Int × Int × Int × Unit) ×
           (Int × List UInt8 × List UInt8 × Int × List (List UInt8) × List (List UInt8) × Unit) ×
            (Int × List UInt8 × List UInt8 × Int × List (List UInt8) × Unit × Unit) × List (List UInt8) × Unit) =>
     (loopM (M_conciergeref09_Read_list_l1 F R)
        F
        ((), (), (), 0, (v6.2.2.2.1.1, v6.2.2.2.1.2.1, v6.2.2.2.1.2.2.1, v6.2.2.2.1.2.2.2.1, ()), v6.2.2.2.2.1,
          (v6.2.2.2.2.2.1.1, v6.2.2.2.2.2.1.2.1, v6.2.2.2.2.2.1.2.2.1, v6.2.2.2.2.2.1.2.2.2.1, v6.2.2.2.2.2.1.2.2.2.2.1, (), ()), v6.2.2.2.2.2.2.1,
          ())).bind
      fun
       (v10 :
        Unit ×
         Unit ×
          Unit ×
           (List UInt8 × Int × Int × Int × Unit) ×
            (Int × List UInt8 × List UInt8 × Int × List (List UInt8) × List (List UInt8) × Unit) ×
             (Int × List UInt8 × List UInt8 × Int × List (List UInt8) × Unit × Unit) × List (List UInt8) × Unit) =>
      if decide ([91].length + v10.2.2.2.2.2.1.2.1.length ≤ 9223372036854775807) = true then
       if decide (([91] ++ v10.2.2.2.2.2.1.2.1).length + [93].length ≤ 9223372036854775807) = true then
        some
         ((v10.2.2.2.2.2.1.1, [91] ++ v10.2.2.2.2.2.1.2.1 ++ [93], v10.2.2.2.2.2.1.2.2.1, v10.2.2.2.2.2.1.2.2.2.1, v10.2.2.2.2.2.1.2.2.2.2.1,
           v10.2.2.2.2.2.2.1, ()),
          v10.2.2.2.1.1, v10.2.2.2.1.2.1, v10.2.2.2.1.2.2.1, v10.2.2.2.1.2.2.2.1, ())
       else none
      else none
theorem t_conciergeref09_Read_list (x : ((List UInt8) × (Int) × (Int) × (Int) × Unit)) (F : Nat) (R : ((List UInt8) × (Int) × (Int) × (Int) × Unit) → Option (((Int) × (List UInt8) × (List UInt8) × (Int) × (List (El .str)) × (List (El .str)) × Unit) × ((List UInt8) × (Int) × (Int) × (Int) × Unit))) : fnRun TT Tryz.prog (e_conciergeref09_Read_list F R) s_conciergeref09_Read_list (bodyOf 162) F x = M_conciergeref09_Read_list F R x := by kernel_rfl
theorem c_conciergeref09_Read_list (F : Nat) (R : ((List UInt8) × (Int) × (Int) × (Int) × Unit) → Option (((Int) × (List UInt8) × (List UInt8) × (Int) × (List (El .str)) × (List (El .str)) × Unit) × ((List UInt8) × (Int) × (Int) × (Int) × Unit))) (hR : Ctr TT Tryz.prog 118 (conOf TT s_conciergeref09_Read_Value R)) : Ctr TT Tryz.prog 162 (conOf TT s_conciergeref09_Read_list (M_conciergeref09_Read_list F R)) :=
 ctr_of (code := bodyOf 162) Tryz.func162 (by kernel_rfl) (by kernel_rfl) (by kernel_rfl) (by kernel_rfl) (envS_ok (envS_ok (envS_ok (envS_ok envN_ok (c_conciergeref09_Read_open F)) (c_conciergeref09_Read_is F)) (c_conciergeref09_Read_more F)) hR) hm (by kernel_rfl) (fun x r h => ⟨F, (t_conciergeref09_Read_list x F R).trans h⟩)
noncomputable def s_conciergeref09_Read_member : Spec Kd := { params := [(.pin 144 [.str, (.int .i64), (.int .i64), (.int .i64)]), (.agg [(.int .i64), .str, .str, (.int .i64), (.slc .str), (.slc .str)])], ret := (.one (.agg [(.int .i64), .str, .str, (.int .i64), (.slc .str), (.slc .str)])), pins := [[.str, (.int .i64), (.int .i64), (.int .i64)]], pl := { nt := 60, joins := [(900026, (.norm, ⟨[.tmp 0 (.a (.ptr 1 0)), .tmp 3 (.a (.ptr 192 0)), .tmp 4 (.a (.ptr 256 0)), .tmp 5 (.a .str), .tmp 6 (.a (.int .i64)), .box 1 (.cells 144 [.str, (.int .i64), (.int .i64), (.int .i64)]), .box 192 (.cells 110 [(.int .i64), .str, .str, (.int .i64), (.slc .str), (.slc .str)]), .box 256 (.cells 110 [(.int .i64), .str, .str, (.int .i64), (.slc .str), (.slc .str)])], [], [.cellSlc 192 4 .str, .cellSlc 192 5 .str, .cellSlc 256 4 .str, .cellSlc 256 5 .str]⟩), [])] }, rfrz := [], ts := [60], rc := [(4, some 110)], rco := [.cellSlc 256 4 .str, .cellSlc 256 5 .str] }
noncomputable def e_conciergeref09_Read_member (F : Nat) (R : tyS El s_conciergeref09_Read_Value.params → Option (s_conciergeref09_Read_Value.R El)) : Env El := (envS 118 (conOf TT s_conciergeref09_Read_Value R) (envS 225 (conOf TT s_conciergeref09_put (M_conciergeref09_put F)) (envS 224 (conOf TT s_conciergeref09_place (M_conciergeref09_place F)) (envS 163 (conOf TT s_conciergeref09_Read_text (M_conciergeref09_Read_text F)) (envS 120 (conOf TT s_conciergeref09_Read_bad (M_conciergeref09_Read_bad F)) (envS 160 (conOf TT s_conciergeref09_Read_is (M_conciergeref09_Read_is F)) (envS 119 (conOf TT s_conciergeref09_Read_blanks (M_conciergeref09_Read_blanks F)) envN)))))))
noncomputable def M_conciergeref09_Read_member (F : Nat) (R : ((List UInt8) × (Int) × (Int) × (Int) × Unit) → Option (((Int) × (List UInt8) × (List UInt8) × (Int) × (List (El .str)) × (List (El .str)) × Unit) × ((List UInt8) × (Int) × (Int) × (Int) × Unit))) (x : ((List UInt8) × (Int) × (Int) × (Int) × Unit) × ((Int) × (List UInt8) × (List UInt8) × (Int) × (List (El .str)) × (List (El .str)) × Unit)) : Option (((Int) × (List UInt8) × (List UInt8) × (Int) × (List (El .str)) × (List (El .str)) × Unit) × ((List UInt8) × (Int) × (Int) × (Int) × Unit)) :=
 (M_conciergeref09_Read_blanks F (x.1.1, x.1.2.1, x.1.2.2.1, x.1.2.2.2.1, ())).bind fun (v0 : Unit × List UInt8 × Int × Int × Int × Unit) =>
  (M_conciergeref09_Read_is F ((v0.2.1, v0.2.2.1, v0.2.2.2.1, v0.2.2.2.2.1, ()), 34)).bind fun (v1 : Bool × List UInt8 × Int × Int × Int × Unit) =>
   if (!v1.1) = true then
    (M_conciergeref09_Read_bad F ((v1.2.1, v1.2.2.1, v1.2.2.2.1, v1.2.2.2.2.1, ()), 3)).bind fun (v2 : Unit × List UInt8 × Int × Int × Int × Unit) =>
     some (x.2, v2.2.1, v2.2.2.1, v2.2.2.2.1, v2.2.2.2.2.1, ())
   else
    (M_conciergeref09_Read_text F (v1.2.1, v1.2.2.1, v1.2.2.2.1, v1.2.2.2.2.1, ())).bind fun (v3 : List UInt8 × List UInt8 × Int × Int × Int × Unit) =>
     (M_conciergeref09_place F (x.2.2.2.2.2.1, v3.1)).bind fun (v4 : Int × Bool) =>
      (if v4.2 = true then
         (M_conciergeref09_Read_bad F ((v3.2.1, v3.2.2.1, v3.2.2.2.1, v3.2.2.2.2.1, ()), 7)).bind
          fun (v5 : Unit × List UInt8 × Int × Int × Int × Unit) =>
          some ((), (), (), v3.1, v4.1, (v5.2.1, v5.2.2.1, v5.2.2.2.1, v5.2.2.2.2.1, ()), x.2, (0, [], [], 0, [], [], ()), ())
        else some ((), (), (), v3.1, v4.1, (v3.2.1, v3.2.2.1, v3.2.2.2.1, v3.2.2.2.2.1, ()), x.2, (0, [], [], 0, [], [], ()), ())).bind
       fun
        (v6 :
         Unit ×
          Unit ×
           Unit ×
            List UInt8 ×
             Int ×
              (List UInt8 × Int × Int × Int × Unit) ×
               (Int × List UInt8 × List UInt8 × Int × List (List UInt8) × List (List UInt8) × Unit) ×
                (Int × List UInt8 × List UInt8 × Int × List (List UInt8) × List (List UInt8) × Unit) × Unit) =>
       (M_conciergeref09_Read_blanks F (v6.2.2.2.2.2.1.1, v6.2.2.2.2.2.1.2.1, v6.2.2.2.2.2.1.2.2.1, v6.2.2.2.2.2.1.2.2.2.1, ())).bind
        fun (v7 : Unit × List UInt8 × Int × Int × Int × Unit) =>
        (M_conciergeref09_Read_is F ((v7.2.1, v7.2.2.1, v7.2.2.2.1, v7.2.2.2.2.1, ()), 58)).bind fun (v8 : Bool × List UInt8 × Int × Int × Int × Unit) =>
         if (!v8.1) = true then
          (M_conciergeref09_Read_bad F ((v8.2.1, v8.2.2.1, v8.2.2.2.1, v8.2.2.2.2.1, ()), 3)).bind
           fun (v9 : Unit × List UInt8 × Int × Int × Int × Unit) => some (v6.2.2.2.2.2.2.1, v9.2.1, v9.2.2.1, v9.2.2.2.1, v9.2.2.2.2.1, ())
         else
          (R (v8.2.1, IntKind.i64.wrap (v8.2.2.1 + 1), v8.2.2.2.1, v8.2.2.2.2.1, ())).bind
           fun (v10 : (Int × List UInt8 × List UInt8 × Int × List (List UInt8) × List (List UInt8) × Unit) × List UInt8 × Int × Int × Int × Unit) =>
           (M_conciergeref09_put F (v6.2.2.2.2.2.2.1.2.2.2.2.1, v6.2.2.2.2.1, v6.2.2.2.1)).bind fun (v11 : List (List UInt8)) =>
            (M_conciergeref09_put F (v6.2.2.2.2.2.2.1.2.2.2.2.2.1, v6.2.2.2.2.1, v10.1.2.1)).bind fun (v12 : List (List UInt8)) =>
             some
              ((v6.2.2.2.2.2.2.1.1, v6.2.2.2.2.2.2.1.2.1, v6.2.2.2.2.2.2.1.2.2.1, v6.2.2.2.2.2.2.1.2.2.2.1, v11, v12, ()), v10.2.1, v10.2.2.1,
                v10.2.2.2.1, v10.2.2.2.2.1, ())
theorem t_conciergeref09_Read_member (x : ((List UInt8) × (Int) × (Int) × (Int) × Unit) × ((Int) × (List UInt8) × (List UInt8) × (Int) × (List (El .str)) × (List (El .str)) × Unit)) (F : Nat) (R : ((List UInt8) × (Int) × (Int) × (Int) × Unit) → Option (((Int) × (List UInt8) × (List UInt8) × (Int) × (List (El .str)) × (List (El .str)) × Unit) × ((List UInt8) × (Int) × (Int) × (Int) × Unit))) : fnRun TT Tryz.prog (e_conciergeref09_Read_member F R) s_conciergeref09_Read_member (bodyOf 197) F x = M_conciergeref09_Read_member F R x := by kernel_rfl
theorem c_conciergeref09_Read_member (F : Nat) (R : ((List UInt8) × (Int) × (Int) × (Int) × Unit) → Option (((Int) × (List UInt8) × (List UInt8) × (Int) × (List (El .str)) × (List (El .str)) × Unit) × ((List UInt8) × (Int) × (Int) × (Int) × Unit))) (hR : Ctr TT Tryz.prog 118 (conOf TT s_conciergeref09_Read_Value R)) : Ctr TT Tryz.prog 197 (conOf TT s_conciergeref09_Read_member (M_conciergeref09_Read_member F R)) :=
 ctr_of (code := bodyOf 197) Tryz.func197 (by kernel_rfl) (by kernel_rfl) (by kernel_rfl) (by kernel_rfl) (envS_ok (envS_ok (envS_ok (envS_ok (envS_ok (envS_ok (envS_ok envN_ok (c_conciergeref09_Read_blanks F)) (c_conciergeref09_Read_is F)) (c_conciergeref09_Read_bad F)) (c_conciergeref09_Read_text F)) (c_conciergeref09_place F)) (c_conciergeref09_put F)) hR) hm (by kernel_rfl) (fun x r h => ⟨F, (t_conciergeref09_Read_member x F R).trans h⟩)
noncomputable def s_conciergeref09_Read_object : Spec Kd := { params := [(.pin 144 [.str, (.int .i64), (.int .i64), (.int .i64)])], ret := (.one (.agg [(.int .i64), .str, .str, (.int .i64), (.slc .str), (.slc .str)])), pins := [[.str, (.int .i64), (.int .i64), (.int .i64)]], pl := { nt := 73, joins := [(1600045, (.norm, ⟨[.tmp 0 (.a (.ptr 1 0)), .tmp 2 (.a (.ptr 128 0)), .tmp 3 (.a (.ptr 192 0)), .tmp 4 (.a (.int .i64)), .box 1 (.cells 144 [.str, (.int .i64), (.int .i64), (.int .i64)]), .box 128 (.cells 110 [(.int .i64), .str, .str, (.int .i64), (.slc .str), (.slc .str)]), .box 192 (.cells 110 [(.int .i64), .str, .str, (.int .i64), (.slc .str), (.slc .str)])], [], [.cellSlc 128 4 .str, .cellSlc 128 5 .str, .cellSlc 192 4 .str, .cellSlc 192 5 .str]⟩), [])], loops := [(2, ⟨[.tmp 0 (.a (.ptr 1 0)), .tmp 2 (.a (.ptr 128 0)), .tmp 3 (.a (.ptr 192 0)), .tmp 4 (.a (.int .i64)), .box 1 (.cells 144 [.str, (.int .i64), (.int .i64), (.int .i64)]), .box 128 (.cells 110 [(.int .i64), .str, .str, (.int .i64), (.slc .str), (.slc .str)]), .box 192 (.cells 110 [(.int .i64), .str, .str, (.int .i64), (.slc .str), (.slc .str)])], [], [.cellSlc 128 4 .str, .cellSlc 128 5 .str, .cellSlc 192 4 .str, .cellSlc 192 5 .str]⟩, (.exit 2, ⟨[.tmp 0 (.a (.ptr 1 0)), .tmp 2 (.a (.ptr 128 0)), .tmp 3 (.a (.ptr 192 0)), .box 1 (.cells 144 [.str, (.int .i64), (.int .i64), (.int .i64)]), .box 128 (.cells 110 [(.int .i64), .str, .str, (.int .i64), (.slc .str), (.slc .str)]), .box 192 (.cells 110 [(.int .i64), .str, .str, (.int .i64), (.slc .str), (.slc .str)])], [], [.cellSlc 128 4 .str, .cellSlc 128 5 .str, .cellSlc 192 4 .str, .cellSlc 192 5 .str]⟩), []), (0, ⟨[.tmp 0 (.a (.ptr 1 0)), .tmp 2 (.a (.ptr 128 0)), .tmp 3 (.a (.ptr 192 0)), .box 1 (.cells 144 [.str, (.int .i64), (.int .i64), (.int .i64)]), .box 128 (.cells 110 [(.int .i64), .str, .str, (.int .i64), (.slc .str), (.slc .str)]), .box 192 (.cells 110 [(.int .i64), .str, .str, (.int .i64), (.slc .str), (.slc .str)])], [], [.cellSlc 128 4 .str, .cellSlc 128 5 .str, .cellSlc 192 4 .str, .cellSlc 192 5 .str]⟩, (.exit 0, ⟨[.tmp 0 (.a (.ptr 1 0)), .tmp 2 (.a (.ptr 128 0)), .tmp 3 (.a (.ptr 192 0)), .box 1 (.cells 144 [.str, (.int .i64), (.int .i64), (.int .i64)]), .box 128 (.cells 110 [(.int .i64), .str, .str, (.int .i64), (.slc .str), (.slc .str)]), .box 192 (.cells 110 [(.int .i64), .str, .str, (.int .i64), (.slc .str), (.slc .str)])], [], [.cellSlc 128 4 .str, .cellSlc 128 5 .str, .cellSlc 192 4 .str, .cellSlc 192 5 .str]⟩), [])] }, rfrz := [], ts := [73], rc := [(2, some 110)], rco := [.cellSlc 128 4 .str, .cellSlc 128 5 .str] }
noncomputable def e_conciergeref09_Read_object (F : Nat) (R : tyS El s_conciergeref09_Read_Value.params → Option (s_conciergeref09_Read_Value.R El)) : Env El := (envS 118 (conOf TT s_conciergeref09_Read_Value R) (envS 84 (conOf TT s_conciergeref09_Quote (M_conciergeref09_Quote F)) (envS 198 (conOf TT s_conciergeref09_Read_more (M_conciergeref09_Read_more F)) (envS 197 (conOf TT s_conciergeref09_Read_member (M_conciergeref09_Read_member F R)) (envS 160 (conOf TT s_conciergeref09_Read_is (M_conciergeref09_Read_is F)) (envS 196 (conOf TT s_conciergeref09_Read_open (M_conciergeref09_Read_open F)) envN))))))
noncomputable def M_conciergeref09_Read_object_l0 (F : Nat) (R : ((List UInt8) × (Int) × (Int) × (Int) × Unit) → Option (((Int) × (List UInt8) × (List UInt8) × (Int) × (List (El .str)) × (List (El .str)) × Unit) × ((List UInt8) × (Int) × (Int) × (Int) × Unit))) (v2 : (Unit ×
       Unit ×
        Unit ×
         (List UInt8 × Int × Int × Int × Unit) ×
          (Int × List UInt8 × List UInt8 × Int × List (List UInt8) × List (List UInt8) × Unit) ×
           (Int × List UInt8 × List UInt8 × Int × List (List UInt8) × List (List UInt8) × Unit) × Unit)) : Option ((Unit ×
       Unit ×
        Unit ×
         (List UInt8 × Int × Int × Int × Unit) ×
          (Int × List UInt8 × List UInt8 × Int × List (List UInt8) × List (List UInt8) × Unit) ×
           (Int × List UInt8 × List UInt8 × Int × List (List UInt8) × List (List UInt8) × Unit) × Unit) ⊕ (Unit ×
       Unit ×
        Unit ×
         (List UInt8 × Int × Int × Int × Unit) ×
          (Int × List UInt8 × List UInt8 × Int × List (List UInt8) × List (List UInt8) × Unit) ×
           (Int × List UInt8 × List UInt8 × Int × List (List UInt8) × List (List UInt8) × Unit) × Unit)) :=
 if decide (v2.2.2.2.1.2.2.2.1 = 0) = true then
        (M_conciergeref09_Read_member F R ((v2.2.2.2.1.1, v2.2.2.2.1.2.1, v2.2.2.2.1.2.2.1, v2.2.2.2.1.2.2.2.1, ()), v2.2.2.2.2.2.1)).bind
         fun (v3 : (Int × List UInt8 × List UInt8 × Int × List (List UInt8) × List (List UInt8) × Unit) × List UInt8 × Int × Int × Int × Unit) =>
         (M_conciergeref09_Read_more F ((v3.2.1, v3.2.2.1, v3.2.2.2.1, v3.2.2.2.2.1, ()), 125)).bind
          fun (v4 : Bool × List UInt8 × Int × Int × Int × Unit) =>
          if (!v4.1) = true then some (Sum.inr ((), (), (), (v4.2.1, v4.2.2.1, v4.2.2.2.1, v4.2.2.2.2.1, ()), v2.2.2.2.2.1, v3.1, ()))
          else some (Sum.inl ((), (), (), (v4.2.1, v4.2.2.1, v4.2.2.2.1, v4.2.2.2.2.1, ()), v2.2.2.2.2.1, v3.1, ()))
       else some (Sum.inr ((), v2.2))
noncomputable def M_conciergeref09_Read_object_l1 (F : Nat) (R : ((List UInt8) × (Int) × (Int) × (Int) × Unit) → Option (((Int) × (List UInt8) × (List UInt8) × (Int) × (List (El .str)) × (List (El .str)) × Unit) × ((List UInt8) × (Int) × (Int) × (Int) × Unit))) (v6 : (Unit ×
        Unit ×
         Unit ×
          Int ×
           (List UInt8 × Int × Int × Int × Unit) ×
            (Int × List UInt8 × List UInt8 × Int × List (List UInt8) × List (List UInt8) × Unit) ×
             (Int × List UInt8 × List UInt8 × Int × List (List UInt8) × List (List UInt8) × Unit) × Unit)) : Option ((Unit ×
        Unit ×
         Unit ×
          Int ×
           (List UInt8 × Int × Int × Int × Unit) ×
            (Int × List UInt8 × List UInt8 × Int × List (List UInt8) × List (List UInt8) × Unit) ×
             (Int × List UInt8 × List UInt8 × Int × List (List UInt8) × List (List UInt8) × Unit) × Unit) ⊕ (Unit ×
        Unit ×
         Unit ×
          (List UInt8 × Int × Int × Int × Unit) ×
           (Int × List UInt8 × List UInt8 × Int × List (List UInt8) × List (List UInt8) × Unit) ×
            (Int × List UInt8 × List UInt8 × Int × List (List UInt8) × List (List UInt8) × Unit) × Unit)) :=
 if decide (v6.2.2.2.1 < (↑v6.2.2.2.2.2.2.1.2.2.2.2.1.length : Int)) = true then
         (if decide (0 < v6.2.2.2.1) = true then
            if decide (v6.2.2.2.2.2.2.1.2.1.length + [44].length ≤ 9223372036854775807) = true then
             some
              ((), (), (), v6.2.2.2.1, (v6.2.2.2.2.1.1, v6.2.2.2.2.1.2.1, v6.2.2.2.2.1.2.2.1, v6.2.2.2.2.1.2.2.2.1, ()), v6.2.2.2.2.2.1,
                (v6.2.2.2.2.2.2.1.1, v6.2.2.2.2.2.2.1.2.1 ++ [44], v6.2.2.2.2.2.2.1.2.2.1, v6.2.2.2.2.2.2.1.2.2.2.1, v6.2.2.2.2.2.2.1.2.2.2.2.1,
                  v6.2.2.2.2.2.2.1.2.2.2.2.2.1, ()),
                ())
            else none
           else some ((), (), v6.2.2)).bind
          fun
           (v7 :
            Unit ×
             Unit ×
              Unit ×
               Int ×
                (List UInt8 × Int × Int × Int × Unit) ×
                 (Int × List UInt8 × List UInt8 × Int × List (List UInt8) × List (List UInt8) × Unit) ×
                  (Int × List UInt8 × List UInt8 × Int × List (List UInt8) × List (List UInt8) × Unit) × Unit) =>
          (idx v7.2.2.2.2.2.2.1.2.2.2.2.1 v7.2.2.2.1).bind fun (v8 : List UInt8) =>
           (M_conciergeref09_Quote F v8).bind fun (v9 : List UInt8) =>
            if decide (v7.2.2.2.2.2.2.1.2.1.length + v9.length ≤ 9223372036854775807) = true then
             if decide ((v7.2.2.2.2.2.2.1.2.1 ++ v9).length + [58].length ≤ 9223372036854775807) = true then
              (idx v7.2.2.2.2.2.2.1.2.2.2.2.2.1 v7.2.2.2.1).bind fun (v10 : List UInt8) =>
               if decide ((v7.2.2.2.2.2.2.1.2.1 ++ v9 ++ [58]).length + v10.length ≤ 9223372036854775807) = true then
                some
                 (Sum.inl
                  ((), (), (), IntKind.i64.wrap (v7.2.2.2.1 + 1),
                    (v7.2.2.2.2.1.1, v7.2.2.2.2.1.2.1, v7.2.2.2.2.1.2.2.1, v7.2.2.2.2.1.2.2.2.1, ()), v7.2.2.2.2.2.1,
                    (v7.2.2.2.2.2.2.1.1, v7.2.2.2.2.2.2.1.2.1 ++ v9 ++ [58] ++ v10, v7.2.2.2.2.2.2.1.2.2.1, v7.2.2.2.2.2.2.1.2.2.2.1,
                      v7.2.2.2.2.2.2.1.2.2.2.2.1, v7.2.2.2.2.2.2.1.2.2.2.2.2.1, ()),
                    ()))
               else none
             else none
            else none
        else
         some
          (Sum.inr
           ((), (), (), (v6.2.2.2.2.1.1, v6.2.2.2.2.1.2.1, v6.2.2.2.2.1.2.2.1, v6.2.2.2.2.1.2.2.2.1, ()), v6.2.2.2.2.2.1, v6.2.2.2.2.2.2.1, ()))
noncomputable def M_conciergeref09_Read_object (F : Nat) (R : ((List UInt8) × (Int) × (Int) × (Int) × Unit) → Option (((Int) × (List UInt8) × (List UInt8) × (Int) × (List (El .str)) × (List (El .str)) × Unit) × ((List UInt8) × (Int) × (Int) × (Int) × Unit))) (x : ((List UInt8) × (Int) × (Int) × (Int) × Unit)) : Option (((Int) × (List UInt8) × (List UInt8) × (Int) × (List (El .str)) × (List (El .str)) × Unit) × ((List UInt8) × (Int) × (Int) × (Int) × Unit)) :=
 (M_conciergeref09_Read_open F (x.1, x.2.1, x.2.2.1, x.2.2.2.1, ())).bind fun (v0 : Unit × List UInt8 × Int × Int × Int × Unit) =>
  (M_conciergeref09_Read_is F ((v0.2.1, v0.2.2.1, v0.2.2.2.1, v0.2.2.2.2.1, ()), 125)).bind fun (v1 : Bool × List UInt8 × Int × Int × Int × Unit) =>
   if v1.1 = true then some ((6, [123, 125], [], 0, [], [], ()), v1.2.1, IntKind.i64.wrap (v1.2.2.1 + 1), IntKind.i64.wrap (v1.2.2.2.1 - 1), v1.2.2.2.2.1, ())
   else
    (loopM (M_conciergeref09_Read_object_l0 F R)
       F ((), (), (), (v1.2.1, v1.2.2.1, v1.2.2.2.1, v1.2.2.2.2.1, ()), (0, [], [], 0, [], [], ()), (6, [], [], 0, [], [], ()), ())).bind
     fun
      (v5 :
       Unit ×
        Unit ×
         Unit ×
          (List UInt8 × Int × Int × Int × Unit) ×
           (Int × List UInt8 × List UInt8 × Int × List (List UInt8) × List (List UInt8) × Unit) ×
            (Int × List UInt8 × List UInt8 × Int × List (List UInt8) × List (List UInt8) × Unit) × Unit) =>
     (loopM (M_conciergeref09_Read_object_l1 F R)
        F ((), (), (), 0, (v5.2.2.2.1.1, v5.2.2.2.1.2.1, v5.2.2.2.1.2.2.1, v5.2.2.2.1.2.2.2.1, ()), v5.2.2.2.2.1, v5.2.2.2.2.2.1, ())).bind
      fun
       (v11 :
        Unit ×
         Unit ×
          Unit ×
           (List UInt8 × Int × Int × Int × Unit) ×
            (Int × List UInt8 × List UInt8 × Int × List (List UInt8) × List (List UInt8) × Unit) ×
             (Int × List UInt8 × List UInt8 × Int × List (List UInt8) × List (List UInt8) × Unit) × Unit) =>
      if decide ([123].length + v11.2.2.2.2.2.1.2.1.length ≤ 9223372036854775807) = true then
       if decide (([123] ++ v11.2.2.2.2.2.1.2.1).length + [125].length ≤ 9223372036854775807) = true then
        some
         ((v11.2.2.2.2.2.1.1, [123] ++ v11.2.2.2.2.2.1.2.1 ++ [125], v11.2.2.2.2.2.1.2.2.1, v11.2.2.2.2.2.1.2.2.2.1, v11.2.2.2.2.2.1.2.2.2.2.1,
           v11.2.2.2.2.2.1.2.2.2.2.2.1, ()),
          v11.2.2.2.1.1, v11.2.2.2.1.2.1, v11.2.2.2.1.2.2.1, v11.2.2.2.1.2.2.2.1, ())
       else none
      else none
theorem t_conciergeref09_Read_object (x : ((List UInt8) × (Int) × (Int) × (Int) × Unit)) (F : Nat) (R : ((List UInt8) × (Int) × (Int) × (Int) × Unit) → Option (((Int) × (List UInt8) × (List UInt8) × (Int) × (List (El .str)) × (List (El .str)) × Unit) × ((List UInt8) × (Int) × (Int) × (Int) × Unit))) : fnRun TT Tryz.prog (e_conciergeref09_Read_object F R) s_conciergeref09_Read_object (bodyOf 161) F x = M_conciergeref09_Read_object F R x := by kernel_rfl
theorem c_conciergeref09_Read_object (F : Nat) (R : ((List UInt8) × (Int) × (Int) × (Int) × Unit) → Option (((Int) × (List UInt8) × (List UInt8) × (Int) × (List (El .str)) × (List (El .str)) × Unit) × ((List UInt8) × (Int) × (Int) × (Int) × Unit))) (hR : Ctr TT Tryz.prog 118 (conOf TT s_conciergeref09_Read_Value R)) : Ctr TT Tryz.prog 161 (conOf TT s_conciergeref09_Read_object (M_conciergeref09_Read_object F R)) :=
 ctr_of (code := bodyOf 161) Tryz.func161 (by kernel_rfl) (by kernel_rfl) (by kernel_rfl) (by kernel_rfl) (envS_ok (envS_ok (envS_ok (envS_ok (envS_ok (envS_ok envN_ok (c_conciergeref09_Read_open F)) (c_conciergeref09_Read_is F)) (c_conciergeref09_Read_member F R hR)) (c_conciergeref09_Read_more F)) (c_conciergeref09_Quote F)) hR) hm (by kernel_rfl) (fun x r h => ⟨F, (t_conciergeref09_Read_object x F R).trans h⟩)
noncomputable def e_conciergeref09_Read_Value (F : Nat) (R : tyS El s_conciergeref09_Read_Value.params → Option (s_conciergeref09_Read_Value.R El)) : Env El := (envS 118 (conOf TT s_conciergeref09_Read_Value R) (envS 165 (conOf TT s_conciergeref09_Read_number (M_conciergeref09_Read_number F)) (envS 164 (conOf TT s_conciergeref09_Read_word (M_conciergeref09_Read_word F)) (envS 84 (conOf TT s_conciergeref09_Quote (M_conciergeref09_Quote F)) (envS 163 (conOf TT s_conciergeref09_Read_text (M_conciergeref09_Read_text F)) (envS 162 (conOf TT s_conciergeref09_Read_list (M_conciergeref09_Read_list F R)) (envS 161 (conOf TT s_conciergeref09_Read_object (M_conciergeref09_Read_object F R)) (envS 160 (conOf TT s_conciergeref09_Read_is (M_conciergeref09_Read_is F)) (envS 119 (conOf TT s_conciergeref09_Read_blanks (M_conciergeref09_Read_blanks F)) envN)))))))))
noncomputable def Mb_conciergeref09_Read_Value (F : Nat) (R : ((List UInt8) × (Int) × (Int) × (Int) × Unit) → Option (((Int) × (List UInt8) × (List UInt8) × (Int) × (List (El .str)) × (List (El .str)) × Unit) × ((List UInt8) × (Int) × (Int) × (Int) × Unit))) (x : ((List UInt8) × (Int) × (Int) × (Int) × Unit)) : Option (((Int) × (List UInt8) × (List UInt8) × (Int) × (List (El .str)) × (List (El .str)) × Unit) × ((List UInt8) × (Int) × (Int) × (Int) × Unit)) :=
 (M_conciergeref09_Read_blanks F (x.1, x.2.1, x.2.2.1, x.2.2.2.1, ())).bind fun (v0 : Unit × List UInt8 × Int × Int × Int × Unit) =>
  if (!decide (v0.2.2.2.2.1 = 0)) = true then some ((0, [], [], 0, [], [], ()), v0.2.1, v0.2.2.1, v0.2.2.2.1, v0.2.2.2.2.1, ())
  else
   (M_conciergeref09_Read_is F ((v0.2.1, v0.2.2.1, v0.2.2.2.1, v0.2.2.2.2.1, ()), 123)).bind fun (v1 : Bool × List UInt8 × Int × Int × Int × Unit) =>
    if v1.1 = true then
     (M_conciergeref09_Read_object F R (v1.2.1, v1.2.2.1, v1.2.2.2.1, v1.2.2.2.2.1, ())).bind
      fun (v2 : (Int × List UInt8 × List UInt8 × Int × List (List UInt8) × List (List UInt8) × Unit) × List UInt8 × Int × Int × Int × Unit) => some v2
    else
     (M_conciergeref09_Read_is F ((v1.2.1, v1.2.2.1, v1.2.2.2.1, v1.2.2.2.2.1, ()), 91)).bind fun (v3 : Bool × List UInt8 × Int × Int × Int × Unit) =>
      if v3.1 = true then
       (M_conciergeref09_Read_list F R (v3.2.1, v3.2.2.1, v3.2.2.2.1, v3.2.2.2.2.1, ())).bind
        fun (v4 : (Int × List UInt8 × List UInt8 × Int × List (List UInt8) × List (List UInt8) × Unit) × List UInt8 × Int × Int × Int × Unit) => some v4
      else
       (M_conciergeref09_Read_is F ((v3.2.1, v3.2.2.1, v3.2.2.2.1, v3.2.2.2.2.1, ()), 34)).bind fun (v5 : Bool × List UInt8 × Int × Int × Int × Unit) =>
        if v5.1 = true then
         (M_conciergeref09_Read_text F (v5.2.1, v5.2.2.1, v5.2.2.2.1, v5.2.2.2.2.1, ())).bind
          fun (v6 : List UInt8 × List UInt8 × Int × Int × Int × Unit) =>
          (M_conciergeref09_Quote F v6.1).bind fun (v7 : List UInt8) =>
           some ((4, v7, v6.1, 0, [], [], ()), v6.2.1, v6.2.2.1, v6.2.2.2.1, v6.2.2.2.2.1, ())
        else
         (M_conciergeref09_Read_word F ((v5.2.1, v5.2.2.1, v5.2.2.2.1, v5.2.2.2.2.1, ()), [110, 117, 108, 108])).bind
          fun (v8 : Bool × List UInt8 × Int × Int × Int × Unit) =>
          if v8.1 = true then some ((1, [110, 117, 108, 108], [], 0, [], [], ()), v8.2.1, v8.2.2.1, v8.2.2.2.1, v8.2.2.2.2.1, ())
          else
           (M_conciergeref09_Read_word F ((v8.2.1, v8.2.2.1, v8.2.2.2.1, v8.2.2.2.2.1, ()), [116, 114, 117, 101])).bind
            fun (v9 : Bool × List UInt8 × Int × Int × Int × Unit) =>
            if v9.1 = true then some ((2, [116, 114, 117, 101], [], 0, [], [], ()), v9.2.1, v9.2.2.1, v9.2.2.2.1, v9.2.2.2.2.1, ())
            else
             (M_conciergeref09_Read_word F ((v9.2.1, v9.2.2.1, v9.2.2.2.1, v9.2.2.2.2.1, ()), [102, 97, 108, 115, 101])).bind
              fun (v10 : Bool × List UInt8 × Int × Int × Int × Unit) =>
              if v10.1 = true then some ((2, [102, 97, 108, 115, 101], [], 0, [], [], ()), v10.2.1, v10.2.2.1, v10.2.2.2.1, v10.2.2.2.2.1, ())
              else
               (M_conciergeref09_Read_number F (v10.2.1, v10.2.2.1, v10.2.2.2.1, v10.2.2.2.2.1, ())).bind
                fun
                 (v11 :
                  (Int × List UInt8 × List UInt8 × Int × List (List UInt8) × List (List UInt8) × Unit) ×
                   List UInt8 × Int × Int × Int × Unit) =>
                some v11
noncomputable def Mr_conciergeref09_Read_Value (F : Nat) : Nat → (((List UInt8) × (Int) × (Int) × (Int) × Unit)) → Option (((Int) × (List UInt8) × (List UInt8) × (Int) × (List (El .str)) × (List (El .str)) × Unit) × ((List UInt8) × (Int) × (Int) × (Int) × Unit))
 | 0, _ => none
 | d + 1, x => Mb_conciergeref09_Read_Value F (Mr_conciergeref09_Read_Value F d) x
noncomputable def M_conciergeref09_Read_Value (F : Nat) (x : ((List UInt8) × (Int) × (Int) × (Int) × Unit)) : Option (((Int) × (List UInt8) × (List UInt8) × (Int) × (List (El .str)) × (List (El .str)) × Unit) × ((List UInt8) × (Int) × (Int) × (Int) × Unit)) := Mr_conciergeref09_Read_Value F F x
theorem t_conciergeref09_Read_Value (x : ((List UInt8) × (Int) × (Int) × (Int) × Unit)) (F : Nat) (R : ((List UInt8) × (Int) × (Int) × (Int) × Unit) → Option (((Int) × (List UInt8) × (List UInt8) × (Int) × (List (El .str)) × (List (El .str)) × Unit) × ((List UInt8) × (Int) × (Int) × (Int) × Unit))) : fnRun TT Tryz.prog (e_conciergeref09_Read_Value F R) s_conciergeref09_Read_Value (bodyOf 118) F x = Mb_conciergeref09_Read_Value F R x := by kernel_rfl
theorem cr_conciergeref09_Read_Value (F : Nat) : ∀ d, Ctr TT Tryz.prog 118 (conOf TT s_conciergeref09_Read_Value (Mr_conciergeref09_Read_Value F d))
 | 0 => ctr_none _ _ _ _ (fun _ => rfl)
 | d + 1 => ctr_of (code := bodyOf 118) Tryz.func118 (by kernel_rfl) (by kernel_rfl) (by kernel_rfl) (by kernel_rfl) (envS_ok (envS_ok (envS_ok (envS_ok (envS_ok (envS_ok (envS_ok (envS_ok (envS_ok envN_ok (c_conciergeref09_Read_blanks F)) (c_conciergeref09_Read_is F)) (c_conciergeref09_Read_object F (Mr_conciergeref09_Read_Value F d) (cr_conciergeref09_Read_Value F d))) (c_conciergeref09_Read_list F (Mr_conciergeref09_Read_Value F d) (cr_conciergeref09_Read_Value F d))) (c_conciergeref09_Read_text F)) (c_conciergeref09_Quote F)) (c_conciergeref09_Read_word F)) (c_conciergeref09_Read_number F)) (cr_conciergeref09_Read_Value F d)) hm (by kernel_rfl) (fun x r h => ⟨F, (t_conciergeref09_Read_Value x F (Mr_conciergeref09_Read_Value F d)).trans h⟩)
theorem c_conciergeref09_Read_Value (F : Nat) : Ctr TT Tryz.prog 118 (conOf TT s_conciergeref09_Read_Value (M_conciergeref09_Read_Value F)) := cr_conciergeref09_Read_Value F F
noncomputable def s_conciergeref09_Of : Spec Kd := { params := [(.a .str)], ret := (.tup [(.agg [(.int .i64), .str, .str, (.int .i64), (.slc .str), (.slc .str)]), (.a (.int .i64))]), pins := [], pl := { nt := 37, joins := [(800023, (.norm, ⟨[.tmp 2 (.a (.ptr 128 0)), .tmp 4 (.a (.ptr 768 0)), .tmp 5 (.a (.ptr 320 0)), .box 128 (.cells 110 [(.int .i64), .str, .str, (.int .i64), (.slc .str), (.slc .str)]), .box 768 (.cells 144 [.str, (.int .i64), (.int .i64), (.int .i64)]), .box 320 (.cells 110 [(.int .i64), .str, .str, (.int .i64), (.slc .str), (.slc .str)])], [], [.cellSlc 128 4 .str, .cellSlc 128 5 .str, .cellSlc 320 4 .str, .cellSlc 320 5 .str]⟩), [])], frz := [(9, [768])] }, rfrz := [], ts := [37, 38], rc := [(2, some 110), (3, none)], rco := [.cellSlc 128 4 .str, .cellSlc 128 5 .str] }
noncomputable def e_conciergeref09_Of (F : Nat) : Env El := (envS 120 (conOf TT s_conciergeref09_Read_bad (M_conciergeref09_Read_bad F)) (envS 119 (conOf TT s_conciergeref09_Read_blanks (M_conciergeref09_Read_blanks F)) (envS 118 (conOf TT s_conciergeref09_Read_Value (M_conciergeref09_Read_Value F)) envN)))
noncomputable def M_conciergeref09_Of (F : Nat) (x : (List UInt8)) : Option (((Int) × (List UInt8) × (List UInt8) × (Int) × (List (El .str)) × (List (El .str)) × Unit) × (Int)) :=
 if decide (400 < (↑x.length : Int)) = true then some ((0, [], [], 0, [], [], ()), 5)
 else
  (M_conciergeref09_Read_Value F (x, 0, 0, 0, ())).bind
   fun (v0 : (Int × List UInt8 × List UInt8 × Int × List (List UInt8) × List (List UInt8) × Unit) × List UInt8 × Int × Int × Int × Unit) =>
   (M_conciergeref09_Read_blanks F (v0.2.1, v0.2.2.1, v0.2.2.2.1, v0.2.2.2.2.1, ())).bind fun (v1 : Unit × List UInt8 × Int × Int × Int × Unit) =>
    (if decide (v1.2.2.1 < (↑x.length : Int)) = true then
       (M_conciergeref09_Read_bad F ((v1.2.1, v1.2.2.1, v1.2.2.2.1, v1.2.2.2.2.1, ()), 3)).bind fun (v2 : Unit × List UInt8 × Int × Int × Int × Unit) =>
        some ((), (), (), (0, [], [], 0, [], [], ()), (v2.2.1, v2.2.2.1, v2.2.2.2.1, v2.2.2.2.2.1, ()), v0.1, ())
      else some ((), (), (), (0, [], [], 0, [], [], ()), (v1.2.1, v1.2.2.1, v1.2.2.2.1, v1.2.2.2.2.1, ()), v0.1, ())).bind
     fun
      (v3 :
       Unit ×
        Unit ×
         Unit ×
          (Int × List UInt8 × List UInt8 × Int × List (List UInt8) × List (List UInt8) × Unit) ×
           (List UInt8 × Int × Int × Int × Unit) × (Int × List UInt8 × List UInt8 × Int × List (List UInt8) × List (List UInt8) × Unit) × Unit) =>
     if (!decide (v3.2.2.2.2.1.2.2.2.1 = 0)) = true then some ((0, [], [], 0, [], [], ()), v3.2.2.2.2.1.2.2.2.1) else some (v3.2.2.2.2.2.1, 0)
theorem t_conciergeref09_Of (x : (List UInt8)) (F : Nat) : fnRun TT Tryz.prog (e_conciergeref09_Of F) s_conciergeref09_Of (bodyOf 86) F x = M_conciergeref09_Of F x := by kernel_rfl
theorem c_conciergeref09_Of (F : Nat) : Ctr TT Tryz.prog 86 (conOf TT s_conciergeref09_Of (M_conciergeref09_Of F)) :=
 ctr_of (code := bodyOf 86) Tryz.func86 (by kernel_rfl) (by kernel_rfl) (by kernel_rfl) (by kernel_rfl) (envS_ok (envS_ok (envS_ok envN_ok (c_conciergeref09_Read_Value F)) (c_conciergeref09_Read_blanks F)) (c_conciergeref09_Read_bad F)) hm (by kernel_rfl) (fun x r h => ⟨F, (t_conciergeref09_Of x F).trans h⟩)
end Go.Vm
