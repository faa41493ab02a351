/- Models of functions of the program, and that each keeps its contract: for all arguments of its shape. No condition. -/
import Derived.Test.YtihpjgcbmipdbaaGreatDoorKt
import Derived.Test.YtihpjgcbmipdbaaGreatDoorFprog2
import Derived.Test.YtihpjgcbmipdbaaGreatDoorFlaw22
namespace Go.Vm
open Go.Proofs
set_option linter.unusedVariables false
noncomputable def s_conciergelaw23_awake : Spec Kd := { params := [], ret := (.one (.a .bool)), pins := [], pl := { nt := 37, cuts := [(3, [(6, ⟨[.tmp 1 (.a (.slc .ph)), .tmp 3 (.a (.ptr 192 0)), .tmp 20 (.a .bool), .box 192 (.cells 54 [(.int .i64), (.int .i64), .str, (.int .i64), .str, (.int .i64), (.int .i64), (.int .i64), .str, .str])], [385], []⟩), (5, ⟨[.tmp 3 (.a (.ptr 192 0)), .tmp 25 (.a .bool), .box 192 (.cells 54 [(.int .i64), (.int .i64), .str, (.int .i64), .str, (.int .i64), (.int .i64), (.int .i64), .str, .str])], [385], []⟩), (5, ⟨[.tmp 3 (.a (.ptr 192 0)), .tmp 30 (.a .bool), .box 192 (.cells 54 [(.int .i64), (.int .i64), .str, (.int .i64), .str, (.int .i64), (.int .i64), (.int .i64), .str, .str])], [385], []⟩), (6, ⟨[.tmp 36 (.a .bool)], [385], []⟩)])], frz := [(2, [385])] }, rfrz := [], ts := [0] }
noncomputable def e_conciergelaw23_awake (F : Nat) : Env El := (envS 30 (conOf TT s_prog_Next (M_prog_Next F)) (envS 27 (conOf TT s_prog_Parse (M_prog_Parse F)) envN))
noncomputable def M_conciergelaw23_awake (F : Nat) (x : Unit) : Option (Bool) :=
 (M_prog_Parse F
    [110, 101, 101, 100, 32, 115, 117, 109, 32, 49, 48, 48, 59, 32, 99, 97, 108, 108, 32, 100, 101, 98, 105, 116, 32, 37, 123, 115, 117, 109, 125, 59, 32,
     101, 110, 100, 32, 50, 48, 49, 32, 112, 97, 105, 100]).bind
  fun (v0 : List (Int × List UInt8 × Int × List UInt8 × Unit) × Int) =>
  (M_prog_Next F (v0.1, 0, [107], 0, 3, 2, 1, [], 0, 0, 0, [], [], [], [123, 34, 115, 117, 109, 34, 58, 53, 125], ())).bind
   fun (v1 : (Int × Int × List UInt8 × Int × List UInt8 × Int × Int × Int × List UInt8 × List UInt8 × Unit) × Int) =>
   (if decide (v0.2 = 0) = true then some (v0.1, (), decide (v1.2 = 0), v1.1, ()) else some (v0.1, (), false, v1.1, ())).bind
    fun
     (v2 :
      List (Int × List UInt8 × Int × List UInt8 × Unit) ×
       Unit × Bool × (Int × Int × List UInt8 × Int × List UInt8 × Int × Int × Int × List UInt8 × List UInt8 × Unit) × Unit) =>
    (if v2.2.2.1 = true then some ((), decide ((↑v2.1.length : Int) = 3), v2.2.2.2.1, ()) else some ((), false, v2.2.2.2.1, ())).bind
     fun (v3 : Unit × Bool × (Int × Int × List UInt8 × Int × List UInt8 × Int × Int × Int × List UInt8 × List UInt8 × Unit) × Unit) =>
     (if v3.2.1 = true then some ((), decide (v3.2.2.1.1 = 3), v3.2.2.1, ()) else some ((), false, v3.2.2.1, ())).bind
      fun (v4 : Unit × Bool × (Int × Int × List UInt8 × Int × List UInt8 × Int × Int × Int × List UInt8 × List UInt8 × Unit) × Unit) =>
      (if v4.2.1 = true then
         some
          (decide (v4.2.2.1.2.2.2.1 = 0) &&
            (decide (v4.2.2.1.2.2.2.2.1 = [107]) &&
             (decide (v4.2.2.1.2.2.2.2.2.1 = 3) &&
              (decide (v4.2.2.1.2.2.2.2.2.2.1 = 1) &&
               (decide (v4.2.2.1.2.2.2.2.2.2.2.1 = 2) &&
                (decide (v4.2.2.1.2.2.2.2.2.2.2.2.1 = [100, 101, 98, 105, 116]) && (decide (v4.2.2.1.2.2.2.2.2.2.2.2.2.1 = [53]) && true)))))),
           ())
        else some (false, ())).bind
       fun (v5 : Bool × Unit) => some v5.1
theorem t_conciergelaw23_awake (x : Unit) (F : Nat) : fnRun TT Tryz.prog (e_conciergelaw23_awake F) s_conciergelaw23_awake (bodyOf 26) F x = M_conciergelaw23_awake F x := by kernel_rfl
theorem c_conciergelaw23_awake (F : Nat) : Ctr TT Tryz.prog 26 (conOf TT s_conciergelaw23_awake (M_conciergelaw23_awake F)) :=
 ctr_of (code := bodyOf 26) Tryz.func26 (by kernel_rfl) (by kernel_rfl) (by kernel_rfl) (by kernel_rfl) (envS_ok (envS_ok envN_ok (c_prog_Parse F)) (c_prog_Next F)) hm (by kernel_rfl) (fun x r h => ⟨F, (t_conciergelaw23_awake x F).trans h⟩)
noncomputable def s_conciergelaw23_ProgEnds : Spec Kd := { params := [(.a (.slc .ph)), (.agg [(.int .i64), .str, (.int .i64), (.int .i64), (.int .i64), (.int .i64), .str, (.int .i64), (.int .i64), (.int .i64), .str, .str, .str, .str])], ret := (.one (.a .bool)), pins := [], pl := { nt := 125, bjoins := [(1, (.norm, ⟨[.tmp 0 (.a (.slc .ph)), .tmp 3 (.a (.ptr 192 0)), .tmp 5 (.a (.int .i64)), .tmp 6 (.a (.int .i64)), .tmp 7 (.a (.int .i64)), .tmp 8 (.a (.int .i64)), .box 192 (.cells 35 [(.int .i64), .str, (.int .i64), (.int .i64), (.int .i64), (.int .i64), .str, (.int .i64), (.int .i64), (.int .i64), .str, .str, .str, .str])], [], []⟩), [(.ret, ⟨[.tmp 4 (.a .bool)], [], []⟩)])], loops := [(0, ⟨[.tmp 0 (.a (.slc .ph)), .tmp 3 (.a (.ptr 192 0)), .tmp 5 (.a (.int .i64)), .tmp 6 (.a (.int .i64)), .tmp 7 (.a (.int .i64)), .tmp 8 (.a (.int .i64)), .box 192 (.cells 35 [(.int .i64), .str, (.int .i64), (.int .i64), (.int .i64), (.int .i64), .str, (.int .i64), (.int .i64), (.int .i64), .str, .str, .str, .str])], [], []⟩, (.exit 0, ⟨[], [], []⟩), [(.ret, ⟨[.tmp 4 (.a .bool)], [], []⟩)])], cuts := [(19, [(13, ⟨[.tmp 0 (.a (.slc .ph)), .tmp 3 (.a (.ptr 192 0)), .tmp 5 (.a (.int .i64)), .tmp 6 (.a (.int .i64)), .tmp 8 (.a (.int .i64)), .tmp 9 (.a (.ptr 576 0)), .tmp 78 (.a .bool), .box 192 (.cells 35 [(.int .i64), .str, (.int .i64), (.int .i64), (.int .i64), (.int .i64), .str, (.int .i64), (.int .i64), (.int .i64), .str, .str, .str, .str]), .box 576 (.cells 54 [(.int .i64), (.int .i64), .str, (.int .i64), .str, (.int .i64), (.int .i64), (.int .i64), .str, .str])], [], []⟩), (8, ⟨[.tmp 0 (.a (.slc .ph)), .tmp 3 (.a (.ptr 192 0)), .tmp 5 (.a (.int .i64)), .tmp 6 (.a (.int .i64)), .tmp 8 (.a (.int .i64)), .tmp 9 (.a (.ptr 576 0)), .tmp 86 (.a .bool), .box 192 (.cells 35 [(.int .i64), .str, (.int .i64), (.int .i64), (.int .i64), (.int .i64), .str, (.int .i64), (.int .i64), (.int .i64), .str, .str, .str, .str]), .box 576 (.cells 54 [(.int .i64), (.int .i64), .str, (.int .i64), .str, (.int .i64), (.int .i64), (.int .i64), .str, .str])], [], []⟩)]), (26, [(11, ⟨[.tmp 124 (.a .bool)], [], []⟩)]), (3, [(10, ⟨[.tmp 0 (.a (.slc .ph)), .tmp 3 (.a (.ptr 192 0)), .tmp 22 (.a .bool), .box 192 (.cells 35 [(.int .i64), .str, (.int .i64), (.int .i64), (.int .i64), (.int .i64), .str, (.int .i64), (.int .i64), (.int .i64), .str, .str, .str, .str])], [], []⟩), (5, ⟨[.tmp 0 (.a (.slc .ph)), .tmp 3 (.a (.ptr 192 0)), .tmp 27 (.a .bool), .box 192 (.cells 35 [(.int .i64), .str, (.int .i64), (.int .i64), (.int .i64), (.int .i64), .str, (.int .i64), (.int .i64), (.int .i64), .str, .str, .str, .str])], [], []⟩), (5, ⟨[.tmp 0 (.a (.slc .ph)), .tmp 3 (.a (.ptr 192 0)), .tmp 32 (.a .bool), .box 192 (.cells 35 [(.int .i64), .str, (.int .i64), (.int .i64), (.int .i64), (.int .i64), .str, (.int .i64), (.int .i64), (.int .i64), .str, .str, .str, .str])], [], []⟩), (7, ⟨[.tmp 0 (.a (.slc .ph)), .tmp 3 (.a (.ptr 192 0)), .tmp 39 (.a .bool), .box 192 (.cells 35 [(.int .i64), .str, (.int .i64), (.int .i64), (.int .i64), (.int .i64), .str, (.int .i64), (.int .i64), (.int .i64), .str, .str, .str, .str])], [], []⟩)])], ends := [(24, ⟨[.tmp 0 (.a (.slc .ph)), .tmp 6 (.a (.int .i64)), .tmp 8 (.a (.int .i64)), .tmp 9 (.a (.ptr 576 0)), .tmp 113 (.a .bool), .box 576 (.cells 54 [(.int .i64), (.int .i64), .str, (.int .i64), .str, (.int .i64), (.int .i64), (.int .i64), .str, .str])], [], []⟩)] }, rfrz := [], ts := [4] }
noncomputable def e_conciergelaw23_ProgEnds (F : Nat) : Env El := (envS 32 (conOf TT s_prog_Calls (M_prog_Calls F)) (envS 30 (conOf TT s_prog_Next (M_prog_Next F)) (envS 34 (conOf TT s_conciergeref23_May (M_conciergeref23_May F)) (envS 21 (conOf TT s_conciergelaw18_Small (M_conciergelaw18_Small F)) (envS 29 (conOf TT s_conciergelaw23_Small (M_conciergelaw23_Small F)) (envS 26 (conOf TT s_conciergelaw23_awake (M_conciergelaw23_awake F)) envN))))))
noncomputable def M_conciergelaw23_ProgEnds_l0 (F : Nat) (v8 : (List (Int × List UInt8 × Int × List UInt8 × Unit) ×
           Unit ×
            Int ×
             Int ×
              Int ×
               Int ×
                (Int ×
                  List UInt8 ×
                   Int × Int × Int × Int × List UInt8 × Int × Int × Int × List UInt8 × List UInt8 × List UInt8 × List UInt8 × Unit) ×
                 Unit)) : Option ((List (Int × List UInt8 × Int × List UInt8 × Unit) ×
           Unit ×
            Int ×
             Int ×
              Int ×
               Int ×
                (Int ×
                  List UInt8 ×
                   Int × Int × Int × Int × List UInt8 × Int × Int × Int × List UInt8 × List UInt8 × List UInt8 × List UInt8 × Unit) ×
                 Unit) ⊕ (Unit ⊕ Bool × Unit)) :=
 if decide (v8.2.2.2.2.2.1 < (↑v8.1.length : Int)) = true then
            ((M_prog_Next F
                 (v8.1, v8.2.2.2.2.2.2.1.1, v8.2.2.2.2.2.2.1.2.1, v8.2.2.2.2.2.2.1.2.2.1, v8.2.2.2.2.2.2.1.2.2.2.1, v8.2.2.2.2.2.2.1.2.2.2.2.1,
                  v8.2.2.2.2.2.1, v8.2.2.2.2.2.2.1.2.2.2.2.2.2)).bind
               fun (v9 : (Int × Int × List UInt8 × Int × List UInt8 × Int × Int × Int × List UInt8 × List UInt8 × Unit) × Int) =>
               if (!decide (v9.2 = 0)) = true then some (Sum.inr (false, ()))
               else
                if decide (v9.1.1 = 1) = true then
                 some
                  (Sum.inl
                   (v8.1, (), IntKind.i64.wrap (v8.2.2.1 + 1), v8.2.2.2.1, v8.2.2.2.2.1, v8.2.2.2.2.2.1,
                    (v8.2.2.2.2.2.2.1.1, v8.2.2.2.2.2.2.1.2.1, v8.2.2.2.2.2.2.1.2.2.1, v8.2.2.2.2.2.2.1.2.2.2.1, v8.2.2.2.2.2.2.1.2.2.2.2.1,
                     v8.2.2.2.2.2.1, v8.2.2.2.2.2.2.1.2.2.2.2.2.2),
                    ()))
                else
                 if decide (v9.1.1 = 3) = true then
                  (if decide (v9.1.2.2.2.2.2.2.1 ≤ v8.2.2.2.2.1) = false then
                     some
                      (v8.1, (), IntKind.i64.wrap (v8.2.2.1 + 1), v8.2.2.2.1, v8.2.2.2.2.2.1, (),
                       !decide (v9.1.2.2.2.2.2.2.2.1 = v8.2.2.2.2.2.2.1.2.2.2.2.1),
                       (v8.2.2.2.2.2.2.1.1, v8.2.2.2.2.2.2.1.2.1, v8.2.2.2.2.2.2.1.2.2.1, v8.2.2.2.2.2.2.1.2.2.2.1,
                        v8.2.2.2.2.2.2.1.2.2.2.2.1, v8.2.2.2.2.2.1, v8.2.2.2.2.2.2.1.2.2.2.2.2.2),
                       v9.1, ())
                    else
                     some
                      (v8.1, (), IntKind.i64.wrap (v8.2.2.1 + 1), v8.2.2.2.1, v8.2.2.2.2.2.1, (), true,
                       (v8.2.2.2.2.2.2.1.1, v8.2.2.2.2.2.2.1.2.1, v8.2.2.2.2.2.2.1.2.2.1, v8.2.2.2.2.2.2.1.2.2.2.1,
                        v8.2.2.2.2.2.2.1.2.2.2.2.1, v8.2.2.2.2.2.1, v8.2.2.2.2.2.2.1.2.2.2.2.2.2),
                       v9.1, ())).bind
                   fun
                    (v10 :
                     List (Int × List UInt8 × Int × List UInt8 × Unit) ×
                      Unit ×
                       Int ×
                        Int ×
                         Int ×
                          Unit ×
                           Bool ×
                            (Int ×
                              List UInt8 ×
                               Int ×
                                Int ×
                                 Int ×
                                  Int ×
                                   List UInt8 ×
                                    Int × Int × Int × List UInt8 × List UInt8 × List UInt8 × List UInt8 × Unit) ×
                             (Int × Int × List UInt8 × Int × List UInt8 × Int × Int × Int × List UInt8 × List UInt8 × Unit) ×
                              Unit) =>
                   (if v10.2.2.2.2.2.2.1 = false then
                      some
                       (v10.1, (), v10.2.2.1, v10.2.2.2.1, v10.2.2.2.2.1, (),
                        !decide (v10.2.2.2.2.2.2.2.2.1.2.2.2.2.2.1 = v10.2.2.2.2.2.2.2.1.2.2.2.1), v10.2.2.2.2.2.2.2.1,
                        v10.2.2.2.2.2.2.2.2.1, ())
                     else
                      some
                       (v10.1, (), v10.2.2.1, v10.2.2.2.1, v10.2.2.2.2.1, (), true, v10.2.2.2.2.2.2.2.1, v10.2.2.2.2.2.2.2.2.1, ())).bind
                    fun
                     (v11 :
                      List (Int × List UInt8 × Int × List UInt8 × Unit) ×
                       Unit ×
                        Int ×
                         Int ×
                          Int ×
                           Unit ×
                            Bool ×
                             (Int ×
                               List UInt8 ×
                                Int ×
                                 Int ×
                                  Int ×
                                   Int ×
                                    List UInt8 ×
                                     Int × Int × Int × List UInt8 × List UInt8 × List UInt8 × List UInt8 × Unit) ×
                              (Int × Int × List UInt8 × Int × List UInt8 × Int × Int × Int × List UInt8 × List UInt8 × Unit) ×
                               Unit) =>
                    if v11.2.2.2.2.2.2.1 = true then some (Sum.inr (false, ()))
                    else
                     some
                      (Sum.inl
                       (v11.1, (), v11.2.2.1, IntKind.i64.wrap (v11.2.2.2.1 + 1), v11.2.2.2.2.2.2.2.2.1.2.2.2.2.2.2.1, v11.2.2.2.2.1,
                        v11.2.2.2.2.2.2.2.1, ()))
                 else
                  if decide (v9.1.1 = 2) = true then
                   (if (!decide (v9.1.2.1 = 402)) = true then
                      if (!decide (v8.2.2.2.2.2.1 = IntKind.i64.wrap ((↑v8.1.length : Int) - 1))) = false then
                       (idx v8.1 v8.2.2.2.2.2.1).bind fun (v12 : Int × List UInt8 × Int × List UInt8 × Unit) =>
                        some (v8.1, v8.2.2.2.1, v8.2.2.2.2.2.1, (), !decide (v9.1.2.1 = v12.2.2.1), v9.1, ())
                      else some (v8.1, v8.2.2.2.1, v8.2.2.2.2.2.1, (), true, v9.1, ())
                     else some (v8.1, v8.2.2.2.1, v8.2.2.2.2.2.1, (), false, v9.1, ())).bind
                    fun
                     (v13 :
                      List (Int × List UInt8 × Int × List UInt8 × Unit) ×
                       Int ×
                        Int ×
                         Unit ×
                          Bool ×
                           (Int × Int × List UInt8 × Int × List UInt8 × Int × Int × Int × List UInt8 × List UInt8 × Unit) ×
                            Unit) =>
                    if v13.2.2.2.2.1 = true then some (Sum.inr (false, ()))
                    else
                     (if decide ((↑v13.2.2.2.2.2.1.2.2.1.length : Int) ≤ 40) = true then
                        (M_prog_Calls F (v13.1, v13.2.2.1)).bind fun (v14 : Int) => some (decide (v13.2.1 ≤ v14), ())
                       else some (false, ())).bind
                      fun (v15 : Bool × Unit) => some (Sum.inr (v15.1, ()))
                  else some (Sum.inr (false, ()))).bind
             fun
              (v16 :
               List (Int × List UInt8 × Int × List UInt8 × Unit) ×
                 Unit ×
                  Int ×
                   Int ×
                    Int ×
                     Int ×
                      (Int ×
                        List UInt8 ×
                         Int ×
                          Int ×
                           Int × Int × List UInt8 × Int × Int × Int × List UInt8 × List UInt8 × List UInt8 × List UInt8 × Unit) ×
                       Unit ⊕
                Bool × Unit) =>
             sumC v16
              (fun
                (v17 :
                 List (Int × List UInt8 × Int × List UInt8 × Unit) ×
                  Unit ×
                   Int ×
                    Int ×
                     Int ×
                      Int ×
                       (Int ×
                         List UInt8 ×
                          Int ×
                           Int ×
                            Int × Int × List UInt8 × Int × Int × Int × List UInt8 × List UInt8 × List UInt8 × List UInt8 × Unit) ×
                        Unit) =>
               some (Sum.inl (v17.1, (), v17.2.2.1, v17.2.2.2.1, v17.2.2.2.2.1, IntKind.i64.wrap (v17.2.2.2.2.2.1 + 1), v17.2.2.2.2.2.2.1, ())))
              fun (v18 : Bool × Unit) => some (Sum.inr (Sum.inr (v18.1, ())))
           else some (Sum.inr (Sum.inl ()))
noncomputable def M_conciergelaw23_ProgEnds (F : Nat) (x : (List (El .ph)) × ((Int) × (List UInt8) × (Int) × (Int) × (Int) × (Int) × (List UInt8) × (Int) × (Int) × (Int) × (List UInt8) × (List UInt8) × (List UInt8) × (List UInt8) × Unit)) : Option (Bool) :=
 (M_conciergelaw23_awake F ()).bind fun (v0 : Bool) =>
  if (!v0) = true then some false
  else
   ((M_conciergelaw23_Small F x.1).bind fun (v1 : Bool) =>
      if (!v1) = false then (M_conciergelaw18_Small F ([(0, x.2)], 1)).bind fun (v2 : Bool) => some (x.1, (), !v2, x.2, ())
      else some (x.1, (), true, x.2, ())).bind
    fun
     (v3 :
      List (Int × List UInt8 × Int × List UInt8 × Unit) ×
       Unit ×
        Bool ×
         (Int × List UInt8 × Int × Int × Int × Int × List UInt8 × Int × Int × Int × List UInt8 × List UInt8 × List UInt8 × List UInt8 × Unit) ×
          Unit) =>
    (if v3.2.2.1 = false then (M_conciergeref23_May F v3.1).bind fun (v4 : Bool) => some (v3.1, (), !v4, v3.2.2.2.1, ())
      else some (v3.1, (), true, v3.2.2.2.1, ())).bind
     fun
      (v5 :
       List (Int × List UInt8 × Int × List UInt8 × Unit) ×
        Unit ×
         Bool ×
          (Int × List UInt8 × Int × Int × Int × Int × List UInt8 × Int × Int × Int × List UInt8 × List UInt8 × List UInt8 × List UInt8 × Unit) ×
           Unit) =>
     (if v5.2.2.1 = false then some (v5.1, (), decide (v5.2.2.2.1.2.2.2.2.2.1 < 0), v5.2.2.2.1, ()) else some (v5.1, (), true, v5.2.2.2.1, ())).bind
      fun
       (v6 :
        List (Int × List UInt8 × Int × List UInt8 × Unit) ×
         Unit ×
          Bool ×
           (Int × List UInt8 × Int × Int × Int × Int × List UInt8 × Int × Int × Int × List UInt8 × List UInt8 × List UInt8 × List UInt8 × Unit) ×
            Unit) =>
      (if v6.2.2.1 = false then some (v6.1, (), decide ((↑v6.1.length : Int) ≤ v6.2.2.2.1.2.2.2.2.2.1), v6.2.2.2.1, ())
        else some (v6.1, (), true, v6.2.2.2.1, ())).bind
       fun
        (v7 :
         List (Int × List UInt8 × Int × List UInt8 × Unit) ×
          Unit ×
           Bool ×
            (Int × List UInt8 × Int × Int × Int × Int × List UInt8 × Int × Int × Int × List UInt8 × List UInt8 × List UInt8 × List UInt8 × Unit) ×
             Unit) =>
       if v7.2.2.1 = true then some true
       else
        (loopM (M_conciergelaw23_ProgEnds_l0 F)
           F (v7.1, (), 0, 0, -1, v7.2.2.2.1.2.2.2.2.2.1, v7.2.2.2.1, ())).bind
         fun (v19 : Unit ⊕ Bool × Unit) => sumC v19 (fun (v20 : Unit) => some false) fun (v21 : Bool × Unit) => some v21.1
theorem t_conciergelaw23_ProgEnds (x : (List (El .ph)) × ((Int) × (List UInt8) × (Int) × (Int) × (Int) × (Int) × (List UInt8) × (Int) × (Int) × (Int) × (List UInt8) × (List UInt8) × (List UInt8) × (List UInt8) × Unit)) (F : Nat) : fnRun TT Tryz.prog (e_conciergelaw23_ProgEnds F) s_conciergelaw23_ProgEnds (bodyOf 8) F x = M_conciergelaw23_ProgEnds F x := by kernel_rfl
theorem c_conciergelaw23_ProgEnds (F : Nat) : Ctr TT Tryz.prog 8 (conOf TT s_conciergelaw23_ProgEnds (M_conciergelaw23_ProgEnds F)) :=
 ctr_of (code := bodyOf 8) Tryz.func8 (by kernel_rfl) (by kernel_rfl) (by kernel_rfl) (by kernel_rfl) (envS_ok (envS_ok (envS_ok (envS_ok (envS_ok (envS_ok envN_ok (c_conciergelaw23_awake F)) (c_conciergelaw23_Small F)) (c_conciergelaw18_Small F)) (c_conciergeref23_May F)) (c_prog_Next F)) (c_prog_Calls F)) hm (by kernel_rfl) (fun x r h => ⟨F, (t_conciergelaw23_ProgEnds x F).trans h⟩)
end Go.Vm
