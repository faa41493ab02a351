/- Models of functions of the program, and that each keeps its contract: for all arguments of its shape. No condition. -/
import Derived.Test.YtihpjgcbmipdbaaGreatDoorKt
import Derived.Test.YtihpjgcbmipdbaaGreatDoorFjob
import Derived.Test.YtihpjgcbmipdbaaGreatDoorFlaw22
namespace Go.Vm
open Go.Proofs
set_option linter.unusedVariables false
noncomputable def s_conciergelaw29_awake : Spec Kd := { params := [], ret := (.one (.a .bool)), pins := [], pl := { nt := 48, cuts := [(6, [(9, ⟨[.tmp 4 (.a (.ptr 256 0)), .tmp 5 (.a (.ptr 320 0)), .tmp 30 (.a .bool), .box 256 (.cells 82 [(.int .i64), (.int .i64), .str, (.int .i64), (.int .i64), (.int .i64), (.int .i64), .str, (.int .i64), (.int .i64), (.int .i64), .str, .str, .str, .str, (.int .i64), .str, (.int .i64), (.int .i64), (.int .i64), .str, .str, (.int .i64), (.int .i64), (.int .i64), .str, (.int .i64), (.int .i64)]), .box 320 (.cells 82 [(.int .i64), (.int .i64), .str, (.int .i64), (.int .i64), (.int .i64), (.int .i64), .str, (.int .i64), (.int .i64), (.int .i64), .str, .str, .str, .str, (.int .i64), .str, (.int .i64), (.int .i64), (.int .i64), .str, .str, (.int .i64), (.int .i64), (.int .i64), .str, (.int .i64), (.int .i64)])], [], []⟩), (6, ⟨[.tmp 5 (.a (.ptr 320 0)), .tmp 36 (.a .bool), .box 320 (.cells 82 [(.int .i64), (.int .i64), .str, (.int .i64), (.int .i64), (.int .i64), (.int .i64), .str, (.int .i64), (.int .i64), (.int .i64), .str, .str, .str, .str, (.int .i64), .str, (.int .i64), (.int .i64), (.int .i64), .str, .str, (.int .i64), (.int .i64), (.int .i64), .str, (.int .i64), (.int .i64)])], [], []⟩), (5, ⟨[.tmp 5 (.a (.ptr 320 0)), .tmp 41 (.a .bool), .box 320 (.cells 82 [(.int .i64), (.int .i64), .str, (.int .i64), (.int .i64), (.int .i64), (.int .i64), .str, (.int .i64), (.int .i64), (.int .i64), .str, .str, .str, .str, (.int .i64), .str, (.int .i64), (.int .i64), (.int .i64), .str, .str, (.int .i64), (.int .i64), (.int .i64), .str, (.int .i64), (.int .i64)])], [], []⟩), (6, ⟨[.tmp 47 (.a .bool)], [], []⟩)])] }, rfrz := [], ts := [0] }
noncomputable def e_conciergelaw29_awake (F : Nat) : Env El := (envS 42 (conOf TT s_job_Step (M_job_Step F)) (envS 39 (conOf TT s_job_Of (M_job_Of F)) envN))
noncomputable def M_conciergelaw29_awake (F : Nat) (x : Unit) : Option (Bool) :=
 (M_job_Of F
    ((3, 4, 0, [], [], [], [], ()), 0, [107], 1, 1, 2, 0,
      [48, 49, 50, 51, 52, 53, 54, 55, 56, 57, 97, 98, 99, 100, 101, 102, 48, 49, 50, 51, 52, 53, 54, 55, 56, 57, 97, 98, 99, 100, 101, 102], 9, 20, 0, [],
      [71, 69, 84], [47], [], ())).bind
  fun (v0 : Int × Int × Int × List UInt8 × Int × Int × Bool × Int × Unit) =>
  (M_job_Step F
     (v0,
      (0, [107], 1, 1, 2, 0,
       [48, 49, 50, 51, 52, 53, 54, 55, 56, 57, 97, 98, 99, 100, 101, 102, 48, 49, 50, 51, 52, 53, 54, 55, 56, 57, 97, 98, 99, 100, 101, 102], 9, 20, 0,
       [], [71, 69, 84], [47], [], ()),
      [(4, [], 200, [111, 107], Unit.unit)], 5, 0, 0, 0, 0, 0, 0, ())).bind
   fun
    (v1 :
     Int ×
      Int ×
       List UInt8 ×
        Int ×
         Int ×
          Int ×
           Int ×
            List UInt8 ×
             Int ×
              Int ×
               Int ×
                List UInt8 ×
                 List UInt8 ×
                  List UInt8 ×
                   List UInt8 ×
                    Int × List UInt8 × Int × Int × Int × List UInt8 × List UInt8 × Int × Int × Int × List UInt8 × Int × Int × Unit) =>
   (M_job_Step F
      (v0,
       (0, [107], 1, 1, 2, 0,
        [48, 49, 50, 51, 52, 53, 54, 55, 56, 57, 97, 98, 99, 100, 101, 102, 48, 49, 50, 51, 52, 53, 54, 55, 56, 57, 97, 98, 99, 100, 101, 102], 9, 20, 0,
        [], [71, 69, 84], [47], [], ()),
       [(4, [], 200, [111, 107], Unit.unit)], 9, 0, 0, 0, 0, 0, 0, ())).bind
    fun
     (v2 :
      Int ×
       Int ×
        List UInt8 ×
         Int ×
          Int ×
           Int ×
            Int ×
             List UInt8 ×
              Int ×
               Int ×
                Int ×
                 List UInt8 ×
                  List UInt8 ×
                   List UInt8 ×
                    List UInt8 ×
                     Int × List UInt8 × Int × Int × Int × List UInt8 × List UInt8 × Int × Int × Int × List UInt8 × Int × Int × Unit) =>
    (if decide (v1.1 = 4) = true then some ((), (), decide (v1.2.2.2.1 = 2), v1, v2, ()) else some ((), (), false, v1, v2, ())).bind
     fun
      (v3 :
       Unit ×
        Unit ×
         Bool ×
          (Int ×
            Int ×
             List UInt8 ×
              Int ×
               Int ×
                Int ×
                 Int ×
                  List UInt8 ×
                   Int ×
                    Int ×
                     Int ×
                      List UInt8 ×
                       List UInt8 ×
                        List UInt8 ×
                         List UInt8 ×
                          Int ×
                           List UInt8 × Int × Int × Int × List UInt8 × List UInt8 × Int × Int × Int × List UInt8 × Int × Int × Unit) ×
           (Int ×
             Int ×
              List UInt8 ×
               Int ×
                Int ×
                 Int ×
                  Int ×
                   List UInt8 ×
                    Int ×
                     Int ×
                      Int ×
                       List UInt8 ×
                        List UInt8 ×
                         List UInt8 ×
                          List UInt8 ×
                           Int ×
                            List UInt8 ×
                             Int × Int × Int × List UInt8 × List UInt8 × Int × Int × Int × List UInt8 × Int × Int × Unit) ×
            Unit) =>
     (if v3.2.2.1 = true then
        some
         ((),
           decide (v3.2.2.2.1.2.2.2.2.2.2.2.2.2.2.2.2.2.2.2.2.2.2.2.2.2.2.1 = 3) &&
             (decide (v3.2.2.2.1.2.2.2.2.2.2.2.2.2.2.2.2.2.2.2.2.2.2.2.2.2.2.2.1 = 4) &&
               (decide (v3.2.2.2.1.2.2.2.2.2.2.2.2.2.2.2.2.2.2.2.2.2.2.2.2.2.2.2.2.1 = 200) &&
                 (decide (v3.2.2.2.1.2.2.2.2.2.2.2.2.2.2.2.2.2.2.2.2.2.2.2.2.2.2.2.2.2.1 = [111, 107]) &&
                   (decide (v3.2.2.2.1.2.2.2.2.2.2.2.2.2.2.2.2.2.2.2.2.2.2.2.2.2.2.2.2.2.2.1 = 0) &&
                     (decide (v3.2.2.2.1.2.2.2.2.2.2.2.2.2.2.2.2.2.2.2.2.2.2.2.2.2.2.2.2.2.2.2.1 = 1) && true))))),
           v3.2.2.2.2.1, ())
       else some ((), false, v3.2.2.2.2.1, ())).bind
      fun
       (v4 :
        Unit ×
         Bool ×
          (Int ×
            Int ×
             List UInt8 ×
              Int ×
               Int ×
                Int ×
                 Int ×
                  List UInt8 ×
                   Int ×
                    Int ×
                     Int ×
                      List UInt8 ×
                       List UInt8 ×
                        List UInt8 ×
                         List UInt8 ×
                          Int ×
                           List UInt8 × Int × Int × Int × List UInt8 × List UInt8 × Int × Int × Int × List UInt8 × Int × Int × Unit) ×
           Unit) =>
      (if v4.2.1 = true then some ((), decide (v4.2.2.1.1 = 1), v4.2.2.1, ()) else some ((), false, v4.2.2.1, ())).bind
       fun
        (v5 :
         Unit ×
          Bool ×
           (Int ×
             Int ×
              List UInt8 ×
               Int ×
                Int ×
                 Int ×
                  Int ×
                   List UInt8 ×
                    Int ×
                     Int ×
                      Int ×
                       List UInt8 ×
                        List UInt8 ×
                         List UInt8 ×
                          List UInt8 ×
                           Int ×
                            List UInt8 ×
                             Int × Int × Int × List UInt8 × List UInt8 × Int × Int × Int × List UInt8 × Int × Int × Unit) ×
            Unit) =>
       (if v5.2.1 = true then some (decide (v5.2.2.1.2.2.2.2.2.2.2.2.2.2.2.2.2.2.2.2.2.2.2.2.2.2.2.2.1 = 503), ()) else some (false, ())).bind
        fun (v6 : Bool × Unit) => some v6.1
theorem t_conciergelaw29_awake (x : Unit) (F : Nat) : fnRun TT Tryz.prog (e_conciergelaw29_awake F) s_conciergelaw29_awake (bodyOf 38) F x = M_conciergelaw29_awake F x := by kernel_rfl
theorem c_conciergelaw29_awake (F : Nat) : Ctr TT Tryz.prog 38 (conOf TT s_conciergelaw29_awake (M_conciergelaw29_awake F)) :=
 ctr_of (code := bodyOf 38) Tryz.func38 (by kernel_rfl) (by kernel_rfl) (by kernel_rfl) (by kernel_rfl) (envS_ok (envS_ok envN_ok (c_job_Of F)) (c_job_Step F)) hm (by kernel_rfl) (fun x r h => ⟨F, (t_conciergelaw29_awake x F).trans h⟩)
noncomputable def s_conciergelaw29_Small : Spec Kd := { params := [(.agg [(.int .i64), (.int .i64), (.int .i64), .str, (.int .i64), (.int .i64), .bool, (.int .i64), (.int .i64), .str, (.int .i64), (.int .i64), (.int .i64), (.int .i64), .str, (.int .i64), (.int .i64), (.int .i64), .str, .str, .str, .str, (.slc .ph), (.int .i64), .str, (.int .i64), (.int .i64), (.int .i64), (.int .i64), (.int .i64), (.int .i64), (.int .i64), (.int .i64), (.int .i64), (.int .i64), (.int .i64)])], ret := (.one (.a .bool)), pins := [], pl := { nt := 27, cuts := [(1, [(10, ⟨[.tmp 1 (.a (.ptr 64 0)), .tmp 12 (.a .bool), .box 64 (.cells 77 [(.int .i64), (.int .i64), (.int .i64), .str, (.int .i64), (.int .i64), .bool, (.int .i64), (.int .i64), .str, (.int .i64), (.int .i64), (.int .i64), (.int .i64), .str, (.int .i64), (.int .i64), (.int .i64), .str, .str, .str, .str, (.slc .ph), (.int .i64), .str, (.int .i64), (.int .i64), (.int .i64), (.int .i64), (.int .i64), (.int .i64), (.int .i64), (.int .i64), (.int .i64), (.int .i64), (.int .i64)])], [], [.cellSlc 64 22 .ph]⟩), (7, ⟨[.tmp 1 (.a (.ptr 64 0)), .tmp 19 (.a .bool), .box 64 (.cells 77 [(.int .i64), (.int .i64), (.int .i64), .str, (.int .i64), (.int .i64), .bool, (.int .i64), (.int .i64), .str, (.int .i64), (.int .i64), (.int .i64), (.int .i64), .str, (.int .i64), (.int .i64), (.int .i64), .str, .str, .str, .str, (.slc .ph), (.int .i64), .str, (.int .i64), (.int .i64), (.int .i64), (.int .i64), (.int .i64), (.int .i64), (.int .i64), (.int .i64), (.int .i64), (.int .i64), (.int .i64)])], [], [.cellSlc 64 22 .ph]⟩), (7, ⟨[.tmp 26 (.a .bool)], [], []⟩)])] }, rfrz := [], ts := [2] }
noncomputable def e_conciergelaw29_Small (F : Nat) : Env El := (envS 29 (conOf TT s_conciergelaw23_Small (M_conciergelaw23_Small F)) (envS 21 (conOf TT s_conciergelaw18_Small (M_conciergelaw18_Small F)) envN))
noncomputable def M_conciergelaw29_Small (F : Nat) (x : ((Int) × (Int) × (Int) × (List UInt8) × (Int) × (Int) × (Bool) × (Int) × (Int) × (List UInt8) × (Int) × (Int) × (Int) × (Int) × (List UInt8) × (Int) × (Int) × (Int) × (List UInt8) × (List UInt8) × (List UInt8) × (List UInt8) × (List (El .ph)) × (Int) × (List UInt8) × (Int) × (Int) × (Int) × (Int) × (Int) × (Int) × (Int) × (Int) × (Int) × (Int) × (Int) × Unit)) : Option (Bool) :=
 ((M_conciergelaw18_Small F
      ([(0, x.2.2.2.2.2.2.2.2.1, x.2.2.2.2.2.2.2.2.2.1, x.2.2.2.2.2.2.2.2.2.2.1, x.2.2.2.2.2.2.2.2.2.2.2.1, x.2.2.2.2.2.2.2.2.2.2.2.2.1,
         x.2.2.2.2.2.2.2.2.2.2.2.2.2.1, x.2.2.2.2.2.2.2.2.2.2.2.2.2.2.1, x.2.2.2.2.2.2.2.2.2.2.2.2.2.2.2.1, x.2.2.2.2.2.2.2.2.2.2.2.2.2.2.2.2.1,
         x.2.2.2.2.2.2.2.2.2.2.2.2.2.2.2.2.2.1, x.2.2.2.2.2.2.2.2.2.2.2.2.2.2.2.2.2.2.1, x.2.2.2.2.2.2.2.2.2.2.2.2.2.2.2.2.2.2.2.1,
         x.2.2.2.2.2.2.2.2.2.2.2.2.2.2.2.2.2.2.2.2.1, x.2.2.2.2.2.2.2.2.2.2.2.2.2.2.2.2.2.2.2.2.2.1, Unit.unit)],
       1)).bind
    fun (v0 : Bool) =>
    if v0 = true then (M_conciergelaw23_Small F x.2.2.2.2.2.2.2.2.2.2.2.2.2.2.2.2.2.2.2.2.2.2.1).bind fun (v1 : Bool) => some ((), v1, x, ())
    else some ((), false, x, ())).bind
  fun
   (v2 :
    Unit ×
     Bool ×
      (Int ×
        Int ×
         Int ×
          List UInt8 ×
           Int ×
            Int ×
             Bool ×
              Int ×
               Int ×
                List UInt8 ×
                 Int ×
                  Int ×
                   Int ×
                    Int ×
                     List UInt8 ×
                      Int ×
                       Int ×
                        Int ×
                         List UInt8 ×
                          List UInt8 ×
                           List UInt8 ×
                            List UInt8 ×
                             List (Int × List UInt8 × Int × List UInt8 × Unit) ×
                              Int × List UInt8 × Int × Int × Int × Int × Int × Int × Int × Int × Int × Int × Int × Unit) ×
       Unit) =>
  (if v2.2.1 = true then some ((), decide ((↑v2.2.2.1.2.2.2.1.length : Int) ≤ 100), v2.2.2.1, ()) else some ((), false, v2.2.2.1, ())).bind
   fun
    (v3 :
     Unit ×
      Bool ×
       (Int ×
         Int ×
          Int ×
           List UInt8 ×
            Int ×
             Int ×
              Bool ×
               Int ×
                Int ×
                 List UInt8 ×
                  Int ×
                   Int ×
                    Int ×
                     Int ×
                      List UInt8 ×
                       Int ×
                        Int ×
                         Int ×
                          List UInt8 ×
                           List UInt8 ×
                            List UInt8 ×
                             List UInt8 ×
                              List (Int × List UInt8 × Int × List UInt8 × Unit) ×
                               Int × List UInt8 × Int × Int × Int × Int × Int × Int × Int × Int × Int × Int × Int × Unit) ×
        Unit) =>
   (if v3.2.1 = true then some (decide ((↑v3.2.2.1.2.2.2.2.2.2.2.2.2.2.2.2.2.2.2.2.2.2.2.2.2.2.2.2.1.length : Int) ≤ 100), ()) else some (false, ())).bind
    fun (v4 : Bool × Unit) => some v4.1
theorem t_conciergelaw29_Small (x : ((Int) × (Int) × (Int) × (List UInt8) × (Int) × (Int) × (Bool) × (Int) × (Int) × (List UInt8) × (Int) × (Int) × (Int) × (Int) × (List UInt8) × (Int) × (Int) × (Int) × (List UInt8) × (List UInt8) × (List UInt8) × (List UInt8) × (List (El .ph)) × (Int) × (List UInt8) × (Int) × (Int) × (Int) × (Int) × (Int) × (Int) × (Int) × (Int) × (Int) × (Int) × (Int) × Unit)) (F : Nat) : fnRun TT Tryz.prog (e_conciergelaw29_Small F) s_conciergelaw29_Small (bodyOf 41) F x = M_conciergelaw29_Small F x := by kernel_rfl
theorem c_conciergelaw29_Small (F : Nat) : Ctr TT Tryz.prog 41 (conOf TT s_conciergelaw29_Small (M_conciergelaw29_Small F)) :=
 ctr_of (code := bodyOf 41) Tryz.func41 (by kernel_rfl) (by kernel_rfl) (by kernel_rfl) (by kernel_rfl) (envS_ok (envS_ok envN_ok (c_conciergelaw18_Small F)) (c_conciergelaw23_Small F)) hm (by kernel_rfl) (fun x r h => ⟨F, (t_conciergelaw29_Small x F).trans h⟩)
noncomputable def s_conciergelaw29_JobFails : Spec Kd := { params := [(.agg [(.int .i64), (.int .i64), (.int .i64), .str, (.int .i64), (.int .i64), .bool, (.int .i64), (.int .i64), .str, (.int .i64), (.int .i64), (.int .i64), (.int .i64), .str, (.int .i64), (.int .i64), (.int .i64), .str, .str, .str, .str, (.slc .ph), (.int .i64), .str, (.int .i64), (.int .i64), (.int .i64), (.int .i64), (.int .i64), (.int .i64), (.int .i64), (.int .i64), (.int .i64), (.int .i64), (.int .i64)])], ret := (.one (.a .bool)), pins := [], pl := { nt := 61, cuts := [(9, [(19, ⟨[.tmp 4 (.a (.ptr 256 0)), .tmp 56 (.a .bool), .box 256 (.cells 82 [(.int .i64), (.int .i64), .str, (.int .i64), (.int .i64), (.int .i64), (.int .i64), .str, (.int .i64), (.int .i64), (.int .i64), .str, .str, .str, .str, (.int .i64), .str, (.int .i64), (.int .i64), (.int .i64), .str, .str, (.int .i64), (.int .i64), (.int .i64), .str, (.int .i64), (.int .i64)])], [], []⟩)]), (6, [(15, ⟨[.tmp 1 (.a (.ptr 64 0)), .tmp 3 (.a (.ptr 192 0)), .tmp 4 (.a (.ptr 256 0)), .box 64 (.cells 77 [(.int .i64), (.int .i64), (.int .i64), .str, (.int .i64), (.int .i64), .bool, (.int .i64), (.int .i64), .str, (.int .i64), (.int .i64), (.int .i64), (.int .i64), .str, (.int .i64), (.int .i64), (.int .i64), .str, .str, .str, .str, (.slc .ph), (.int .i64), .str, (.int .i64), (.int .i64), (.int .i64), (.int .i64), (.int .i64), (.int .i64), (.int .i64), (.int .i64), (.int .i64), (.int .i64), (.int .i64)]), .box 192 (.cells 82 [(.int .i64), (.int .i64), .str, (.int .i64), (.int .i64), (.int .i64), (.int .i64), .str, (.int .i64), (.int .i64), (.int .i64), .str, .str, .str, .str, (.int .i64), .str, (.int .i64), (.int .i64), (.int .i64), .str, .str, (.int .i64), (.int .i64), (.int .i64), .str, (.int .i64), (.int .i64)]), .box 256 (.cells 82 [(.int .i64), (.int .i64), .str, (.int .i64), (.int .i64), (.int .i64), (.int .i64), .str, (.int .i64), (.int .i64), (.int .i64), .str, .str, .str, .str, (.int .i64), .str, (.int .i64), (.int .i64), (.int .i64), .str, .str, (.int .i64), (.int .i64), (.int .i64), .str, (.int .i64), (.int .i64)])], [], [.cellSlc 64 22 .ph]⟩)]), (5, [(13, ⟨[.tmp 1 (.a (.ptr 64 0)), .tmp 3 (.a (.ptr 192 0)), .box 64 (.cells 77 [(.int .i64), (.int .i64), (.int .i64), .str, (.int .i64), (.int .i64), .bool, (.int .i64), (.int .i64), .str, (.int .i64), (.int .i64), (.int .i64), (.int .i64), .str, (.int .i64), (.int .i64), (.int .i64), .str, .str, .str, .str, (.slc .ph), (.int .i64), .str, (.int .i64), (.int .i64), (.int .i64), (.int .i64), (.int .i64), (.int .i64), (.int .i64), (.int .i64), (.int .i64), (.int .i64), (.int .i64)]), .box 192 (.cells 82 [(.int .i64), (.int .i64), .str, (.int .i64), (.int .i64), (.int .i64), (.int .i64), .str, (.int .i64), (.int .i64), (.int .i64), .str, .str, .str, .str, (.int .i64), .str, (.int .i64), (.int .i64), (.int .i64), .str, .str, (.int .i64), (.int .i64), (.int .i64), .str, (.int .i64), (.int .i64)])], [], [.cellSlc 64 22 .ph]⟩)])] }, rfrz := [], ts := [2] }
noncomputable def e_conciergelaw29_JobFails (F : Nat) : Env El := (envS 33 (conOf TT s_conciergeref23_Calls (M_conciergeref23_Calls F)) (envS 44 (conOf TT s_job_Hear (M_job_Hear F)) (envS 42 (conOf TT s_job_Step (M_job_Step F)) (envS 41 (conOf TT s_conciergelaw29_Small (M_conciergelaw29_Small F)) (envS 38 (conOf TT s_conciergelaw29_awake (M_conciergelaw29_awake F)) envN)))))
noncomputable def M_conciergelaw29_JobFails (F : Nat) (x : ((Int) × (Int) × (Int) × (List UInt8) × (Int) × (Int) × (Bool) × (Int) × (Int) × (List UInt8) × (Int) × (Int) × (Int) × (Int) × (List UInt8) × (Int) × (Int) × (Int) × (List UInt8) × (List UInt8) × (List UInt8) × (List UInt8) × (List (El .ph)) × (Int) × (List UInt8) × (Int) × (Int) × (Int) × (Int) × (Int) × (Int) × (Int) × (Int) × (Int) × (Int) × (Int) × Unit)) : Option (Bool) :=
 (M_conciergelaw29_awake F ()).bind fun (v0 : Bool) =>
  if (!v0) = true then some false
  else
   (M_conciergelaw29_Small F x).bind fun (v1 : Bool) =>
    if (!v1) = true then some true
    else
     ((M_job_Step F
          ((x.1, x.2.1, x.2.2.1, x.2.2.2.1, x.2.2.2.2.1, x.2.2.2.2.2.1, x.2.2.2.2.2.2.1, x.2.2.2.2.2.2.2.1, ()),
            (x.2.2.2.2.2.2.2.2.1, x.2.2.2.2.2.2.2.2.2.1, x.2.2.2.2.2.2.2.2.2.2.1, x.2.2.2.2.2.2.2.2.2.2.2.1, x.2.2.2.2.2.2.2.2.2.2.2.2.1,
              x.2.2.2.2.2.2.2.2.2.2.2.2.2.1, x.2.2.2.2.2.2.2.2.2.2.2.2.2.2.1, x.2.2.2.2.2.2.2.2.2.2.2.2.2.2.2.1, x.2.2.2.2.2.2.2.2.2.2.2.2.2.2.2.2.1,
              x.2.2.2.2.2.2.2.2.2.2.2.2.2.2.2.2.2.1, x.2.2.2.2.2.2.2.2.2.2.2.2.2.2.2.2.2.2.1, x.2.2.2.2.2.2.2.2.2.2.2.2.2.2.2.2.2.2.2.1,
              x.2.2.2.2.2.2.2.2.2.2.2.2.2.2.2.2.2.2.2.2.1, x.2.2.2.2.2.2.2.2.2.2.2.2.2.2.2.2.2.2.2.2.2.1, ()),
            x.2.2.2.2.2.2.2.2.2.2.2.2.2.2.2.2.2.2.2.2.2.2.1, x.2.2.2.2.2.2.2.2.2.2.2.2.2.2.2.2.2.2.2.2.2.2.2.2.2.2.2.2.2)).bind
        fun
         (v2 :
          Int ×
           Int ×
            List UInt8 ×
             Int ×
              Int ×
               Int ×
                Int ×
                 List UInt8 ×
                  Int ×
                   Int ×
                    Int ×
                     List UInt8 ×
                      List UInt8 ×
                       List UInt8 ×
                        List UInt8 ×
                         Int ×
                          List UInt8 × Int × Int × Int × List UInt8 × List UInt8 × Int × Int × Int × List UInt8 × Int × Int × Unit) =>
        some ((), (), x, v2, ())).bind
      fun
       (v3 :
        Unit ×
         Unit ×
          (Int ×
            Int ×
             Int ×
              List UInt8 ×
               Int ×
                Int ×
                 Bool ×
                  Int ×
                   Int ×
                    List UInt8 ×
                     Int ×
                      Int ×
                       Int ×
                        Int ×
                         List UInt8 ×
                          Int ×
                           Int ×
                            Int ×
                             List UInt8 ×
                              List UInt8 ×
                               List UInt8 ×
                                List UInt8 ×
                                 List (Int × List UInt8 × Int × List UInt8 × Unit) ×
                                  Int × List UInt8 × Int × Int × Int × Int × Int × Int × Int × Int × Int × Int × Int × Unit) ×
           (Int ×
             Int ×
              List UInt8 ×
               Int ×
                Int ×
                 Int ×
                  Int ×
                   List UInt8 ×
                    Int ×
                     Int ×
                      Int ×
                       List UInt8 ×
                        List UInt8 ×
                         List UInt8 ×
                          List UInt8 ×
                           Int ×
                            List UInt8 ×
                             Int × Int × Int × List UInt8 × List UInt8 × Int × Int × Int × List UInt8 × Int × Int × Unit) ×
            Unit) =>
      ((M_job_Hear F
           ((v3.2.2.1.1, v3.2.2.1.2.1, v3.2.2.1.2.2.1, v3.2.2.1.2.2.2.1, v3.2.2.1.2.2.2.2.1, v3.2.2.1.2.2.2.2.2.1, v3.2.2.1.2.2.2.2.2.2.1,
             v3.2.2.1.2.2.2.2.2.2.2.1, ()),
            (v3.2.2.1.2.2.2.2.2.2.2.2.1, v3.2.2.1.2.2.2.2.2.2.2.2.2.1, v3.2.2.1.2.2.2.2.2.2.2.2.2.2.1, v3.2.2.1.2.2.2.2.2.2.2.2.2.2.2.1,
             v3.2.2.1.2.2.2.2.2.2.2.2.2.2.2.2.1, v3.2.2.1.2.2.2.2.2.2.2.2.2.2.2.2.2.1, v3.2.2.1.2.2.2.2.2.2.2.2.2.2.2.2.2.2.1,
             v3.2.2.1.2.2.2.2.2.2.2.2.2.2.2.2.2.2.2.1, v3.2.2.1.2.2.2.2.2.2.2.2.2.2.2.2.2.2.2.2.1, v3.2.2.1.2.2.2.2.2.2.2.2.2.2.2.2.2.2.2.2.2.1,
             v3.2.2.1.2.2.2.2.2.2.2.2.2.2.2.2.2.2.2.2.2.2.1, v3.2.2.1.2.2.2.2.2.2.2.2.2.2.2.2.2.2.2.2.2.2.2.1,
             v3.2.2.1.2.2.2.2.2.2.2.2.2.2.2.2.2.2.2.2.2.2.2.2.1, v3.2.2.1.2.2.2.2.2.2.2.2.2.2.2.2.2.2.2.2.2.2.2.2.2.1, ()),
            v3.2.2.1.2.2.2.2.2.2.2.2.2.2.2.2.2.2.2.2.2.2.2.2.2.2.1,
            (v3.2.2.1.2.2.2.2.2.2.2.2.2.2.2.2.2.2.2.2.2.2.2.2.2.2.2.1, v3.2.2.1.2.2.2.2.2.2.2.2.2.2.2.2.2.2.2.2.2.2.2.2.2.2.2.2.1,
             v3.2.2.1.2.2.2.2.2.2.2.2.2.2.2.2.2.2.2.2.2.2.2.2.2.2.2.2.2.1, v3.2.2.1.2.2.2.2.2.2.2.2.2.2.2.2.2.2.2.2.2.2.2.2.2.2.2.2.2.2.1,
             v3.2.2.1.2.2.2.2.2.2.2.2.2.2.2.2.2.2.2.2.2.2.2.2.2.2.2.2.2.2.2.1, v3.2.2.1.2.2.2.2.2.2.2.2.2.2.2.2.2.2.2.2.2.2.2.2.2.2.2.2.2.2.2.2.1,
             ()),
            v3.2.2.1.2.2.2.2.2.2.2.2.2.2.2.2.2.2.2.2.2.2.2.2.2.2.2.2.2.2.2.2.2)).bind
         fun
          (v4 :
           Int ×
            Int ×
             List UInt8 ×
              Int ×
               Int ×
                Int ×
                 Int ×
                  List UInt8 ×
                   Int ×
                    Int ×
                     Int ×
                      List UInt8 ×
                       List UInt8 ×
                        List UInt8 ×
                         List UInt8 ×
                          Int ×
                           List UInt8 ×
                            Int × Int × Int × List UInt8 × List UInt8 × Int × Int × Int × List UInt8 × Int × Int × Unit) =>
         some ((), (), (), v3.2.2.1, v3.2.2.2.1, v4, ())).bind
       fun
        (v5 :
         Unit ×
          Unit ×
           Unit ×
            (Int ×
              Int ×
               Int ×
                List UInt8 ×
                 Int ×
                  Int ×
                   Bool ×
                    Int ×
                     Int ×
                      List UInt8 ×
                       Int ×
                        Int ×
                         Int ×
                          Int ×
                           List UInt8 ×
                            Int ×
                             Int ×
                              Int ×
                               List UInt8 ×
                                List UInt8 ×
                                 List UInt8 ×
                                  List UInt8 ×
                                   List (Int × List UInt8 × Int × List UInt8 × Unit) ×
                                    Int ×
                                     List UInt8 × Int × Int × Int × Int × Int × Int × Int × Int × Int × Int × Int × Unit) ×
             (Int ×
               Int ×
                List UInt8 ×
                 Int ×
                  Int ×
                   Int ×
                    Int ×
                     List UInt8 ×
                      Int ×
                       Int ×
                        Int ×
                         List UInt8 ×
                          List UInt8 ×
                           List UInt8 ×
                            List UInt8 ×
                             Int ×
                              List UInt8 ×
                               Int × Int × Int × List UInt8 × List UInt8 × Int × Int × Int × List UInt8 × Int × Int × Unit) ×
              (Int ×
                Int ×
                 List UInt8 ×
                  Int ×
                   Int ×
                    Int ×
                     Int ×
                      List UInt8 ×
                       Int ×
                        Int ×
                         Int ×
                          List UInt8 ×
                           List UInt8 ×
                            List UInt8 ×
                             List UInt8 ×
                              Int ×
                               List UInt8 ×
                                Int × Int × Int × List UInt8 × List UInt8 × Int × Int × Int × List UInt8 × Int × Int × Unit) ×
               Unit) =>
       if decide (v5.2.2.2.2.1.2.2.2.1 = 3) = true then some false
       else
        (if decide (v5.2.2.2.2.2.1.2.2.2.1 = 3) = true then
           if (!decide (v5.2.2.2.1.2.2.2.2.2.2.2.2.2.2.2.2.2.2.2.2.2.2.2.2.2.2.2.2.2.2.2.2.1 = 2)) = false then
            (M_conciergeref23_Calls F (v5.2.2.2.1.2.2.2.2.2.2.2.2.2.2.2.2.2.2.2.2.2.2.2.2.2.2.1, v5.2.2.2.1.2.2.2.2.2.2.2.2.2.2.2.2.2.1)).bind
             fun (v6 : Int) => some ((), decide (0 < v6), v5.2.2.2.2.2.1, ())
           else some ((), true, v5.2.2.2.2.2.1, ())
          else some ((), false, v5.2.2.2.2.2.1, ())).bind
         fun
          (v7 :
           Unit ×
            Bool ×
             (Int ×
               Int ×
                List UInt8 ×
                 Int ×
                  Int ×
                   Int ×
                    Int ×
                     List UInt8 ×
                      Int ×
                       Int ×
                        Int ×
                         List UInt8 ×
                          List UInt8 ×
                           List UInt8 ×
                            List UInt8 ×
                             Int ×
                              List UInt8 ×
                               Int × Int × Int × List UInt8 × List UInt8 × Int × Int × Int × List UInt8 × Int × Int × Unit) ×
              Unit) =>
         if v7.2.1 = true then some false else some !decide (v7.2.2.1.2.2.2.1 = 2)
theorem t_conciergelaw29_JobFails (x : ((Int) × (Int) × (Int) × (List UInt8) × (Int) × (Int) × (Bool) × (Int) × (Int) × (List UInt8) × (Int) × (Int) × (Int) × (Int) × (List UInt8) × (Int) × (Int) × (Int) × (List UInt8) × (List UInt8) × (List UInt8) × (List UInt8) × (List (El .ph)) × (Int) × (List UInt8) × (Int) × (Int) × (Int) × (Int) × (Int) × (Int) × (Int) × (Int) × (Int) × (Int) × (Int) × Unit)) (F : Nat) : fnRun TT Tryz.prog (e_conciergelaw29_JobFails F) s_conciergelaw29_JobFails (bodyOf 13) F x = M_conciergelaw29_JobFails F x := by kernel_rfl
theorem c_conciergelaw29_JobFails (F : Nat) : Ctr TT Tryz.prog 13 (conOf TT s_conciergelaw29_JobFails (M_conciergelaw29_JobFails F)) :=
 ctr_of (code := bodyOf 13) Tryz.func13 (by kernel_rfl) (by kernel_rfl) (by kernel_rfl) (by kernel_rfl) (envS_ok (envS_ok (envS_ok (envS_ok (envS_ok envN_ok (c_conciergelaw29_awake F)) (c_conciergelaw29_Small F)) (c_job_Step F)) (c_job_Hear F)) (c_conciergeref23_Calls F)) hm (by kernel_rfl) (fun x r h => ⟨F, (t_conciergelaw29_JobFails x F).trans h⟩)
end Go.Vm
