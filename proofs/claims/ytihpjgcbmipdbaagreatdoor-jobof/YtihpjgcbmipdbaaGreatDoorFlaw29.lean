/- Models of functions of the program, and that each keeps its contract: for all arguments of its shape. No condition. -/
import Derived.Test.YtihpjgcbmipdbaaGreatDoorKt
import Derived.Test.YtihpjgcbmipdbaaGreatDoorFjob
import Derived.Test.YtihpjgcbmipdbaaGreatDoorFlaw22
namespace Go.Vm
open Go.Proofs
set_option linter.unusedVariables false
noncomputable def s_conciergelaw29_awake : Spec Kd := { params := [], ret := (.one (.a .bool)), pins := [], pl := { nt := 48, cuts := [(6, [(9, ⟨[.tmp 4 (.a (.ptr 256 0)), .tmp 5 (.a (.ptr 320 0)), .tmp 30 (.a .bool), .box 256 (.cells 82 [(.int .i64), (.int .i64), .str, (.int .i64), (.int .i64), (.int .i64), (.int .i64), .str, (.int .i64), (.int .i64), (.int .i64), .str, .str, .str, .str, (.int .i64), .str, (.int .i64), (.int .i64), (.int .i64), .str, .str, (.int .i64), (.int .i64), (.int .i64), .str, (.int .i64), (.int .i64)]), .box 320 (.cells 82 [(.int .i64), (.int .i64), .str, (.int .i64), (.int .i64), (.int .i64), (.int .i64), .str, (.int .i64), (.int .i64), (.int .i64), .str, .str, .str, .str, (.int .i64), .str, (.int .i64), (.int .i64), (.int .i64), .str, .str, (.int .i64), (.int .i64), (.int .i64), .str, (.int .i64), (.int .i64)])], [], []⟩), (6, ⟨[.tmp 5 (.a (.ptr 320 0)), .tmp 36 (.a .bool), .box 320 (.cells 82 [(.int .i64), (.int .i64), .str, (.int .i64), (.int .i64), (.int .i64), (.int .i64), .str, (.int .i64), (.int .i64), (.int .i64), .str, .str, .str, .str, (.int .i64), .str, (.int .i64), (.int .i64), (.int .i64), .str, .str, (.int .i64), (.int .i64), (.int .i64), .str, (.int .i64), (.int .i64)])], [], []⟩), (5, ⟨[.tmp 5 (.a (.ptr 320 0)), .tmp 41 (.a .bool), .box 320 (.cells 82 [(.int .i64), (.int .i64), .str, (.int .i64), (.int .i64), (.int .i64), (.int .i64), .str, (.int .i64), (.int .i64), (.int .i64), .str, .str, .str, .str, (.int .i64), .str, (.int .i64), (.int .i64), (.int .i64), .str, .str, (.int .i64), (.int .i64), (.int .i64), .str, (.int .i64), (.int .i64)])], [], []⟩), (6, ⟨[.tmp 47 (.a .bool)], [], []⟩)])] }, rfrz := [], ts := [0] }
noncomputable def e_conciergelaw29_awake (F : Nat) : Env El := (envS 42 (conOf TT s_job_Step (M_job_Step F)) (envS 39 (conOf TT s_job_Of (M_job_Of F)) envN))
noncomputable def M_conciergelaw29_awake (F : Nat) (x : Unit) : Option (Bool) :=
 (M_job_Of F
    ((3, 4, 0, [], [], [], [], ()), 0, [107], 1, 1, 2, 0,
      [48, 49, 50, 51, 52, 53, 54, 55, 56, 57, 97, 98, 99, 100, 101, 102, 48, 49, 50, 51, 52, 53, 54, 55, 56, 57, 97, 98, 99, 100, 101, 102], 9, 20, 0, [],
      [71, 69, 84], [47], [], ())).bind
  fun (v0 : Int × Int × Int × List UInt8 × Int × Int × Bool × Int × Unit) =>
  (M_job_Step F
     (v0,
      (0, [107], 1, 1, 2, 0,
       [48, 49, 50, 51, 52, 53, 54, 55, 56, 57, 97, 98, 99, 100, 101, 102, 48, 49, 50, 51, 52, 53, 54, 55, 56, 57, 97, 98, 99, 100, 101, 102], 9, 20, 0,
       [], [71, 69, 84], [47], [], ()),
      [(4, [], 200, [111, 107], Unit.unit)], 5, 0, 0, 0, 0, 0, 0, ())).bind
   fun
    (v1 :
     Int ×
      Int ×
       List UInt8 ×
        Int ×
         Int ×
          Int ×
           Int ×
            List UInt8 ×
             Int ×
              Int ×
               Int ×
                List UInt8 ×
                 List UInt8 ×
                  List UInt8 ×
                   List UInt8 ×
                    Int × List UInt8 × Int × Int × Int × List UInt8 × List UInt8 × Int × Int × Int × List UInt8 × Int × Int × Unit) =>
   (M_job_Step F
      (v0,
       (0, [107], 1, 1, 2, 0,
        [48, 49, 50, 51, 52, 53, 54, 55, 56, 57, 97, 98, 99, 100, 101, 102, 48, 49, 50, 51, 52, 53, 54, 55, 56, 57, 97, 98, 99, 100, 101, 102], 9, 20, 0,
        [], [71, 69, 84], [47], [], ()),
       [(4, [], 200, [111, 107], Unit.unit)], 9, 0, 0, 0, 0, 0, 0, ())).bind
    fun
     (v2 :
      Int ×
       Int ×
        List UInt8 ×
         Int ×
          Int ×
           Int ×
            Int ×
             List UInt8 ×
              Int ×
               Int ×
                Int ×
                 List UInt8 ×
                  List UInt8 ×
                   List UInt8 ×
                    List UInt8 ×
                     Int × List UInt8 × Int × Int × Int × List UInt8 × List UInt8 × Int × Int × Int × List UInt8 × Int × Int × Unit) =>
    (if decide (v1.1 = 4) = true then some ((), (), decide (v1.2.2.2.1 = 2), v1, v2, ()) else some ((), (), false, v1, v2, ())).bind
     fun
      (v3 :
       Unit ×
        Unit ×
         Bool ×
          (Int ×
            Int ×
             List UInt8 ×
              Int ×
               Int ×
                Int ×
                 Int ×
                  List UInt8 ×
                   Int ×
                    Int ×
                     Int ×
                      List UInt8 ×
                       List UInt8 ×
                        List UInt8 ×
                         List UInt8 ×
                          Int ×
                           List UInt8 × Int × Int × Int × List UInt8 × List UInt8 × Int × Int × Int × List UInt8 × Int × Int × Unit) ×
           (Int ×
             Int ×
              List UInt8 ×
               Int ×
                Int ×
                 Int ×
                  Int ×
                   List UInt8 ×
                    Int ×
                     Int ×
                      Int ×
                       List UInt8 ×
                        List UInt8 ×
                         List UInt8 ×
                          List UInt8 ×
                           Int ×
                            List UInt8 ×
                             Int × Int × Int × List UInt8 × List UInt8 × Int × Int × Int × List UInt8 × Int × Int × Unit) ×
            Unit) =>
     (if v3.2.2.1 = true then
        some
         ((),
           decide (v3.2.2.2.1.2.2.2.2.2.2.2.2.2.2.2.2.2.2.2.2.2.2.2.2.2.2.1 = 3) &&
             (decide (v3.2.2.2.1.2.2.2.2.2.2.2.2.2.2.2.2.2.2.2.2.2.2.2.2.2.2.2.1 = 4) &&
               (decide (v3.2.2.2.1.2.2.2.2.2.2.2.2.2.2.2.2.2.2.2.2.2.2.2.2.2.2.2.2.1 = 200) &&
                 (decide (v3.2.2.2.1.2.2.2.2.2.2.2.2.2.2.2.2.2.2.2.2.2.2.2.2.2.2.2.2.2.1 = [111, 107]) &&
                   (decide (v3.2.2.2.1.2.2.2.2.2.2.2.2.2.2.2.2.2.2.2.2.2.2.2.2.2.2.2.2.2.2.1 = 0) &&
                     (decide (v3.2.2.2.1.2.2.2.2.2.2.2.2.2.2.2.2.2.2.2.2.2.2.2.2.2.2.2.2.2.2.2.1 = 1) && true))))),
           v3.2.2.2.2.1, ())
       else some ((), false, v3.2.2.2.2.1, ())).bind
      fun
       (v4 :
        Unit ×
         Bool ×
          (Int ×
            Int ×
             List UInt8 ×
              Int ×
               Int ×
                Int ×
                 Int ×
                  List UInt8 ×
                   Int ×
                    Int ×
                     Int ×
                      List UInt8 ×
                       List UInt8 ×
                        List UInt8 ×
                         List UInt8 ×
                          Int ×
                           List UInt8 × Int × Int × Int × List UInt8 × List UInt8 × Int × Int × Int × List UInt8 × Int × Int × Unit) ×
           Unit) =>
      (if v4.2.1 = true then some ((), decide (v4.2.2.1.1 = 1), v4.2.2.1, ()) else some ((), false, v4.2.2.1, ())).bind
       fun
        (v5 :
         Unit ×
          Bool ×
           (Int ×
             Int ×
              List UInt8 ×
               Int ×
                Int ×
                 Int ×
                  Int ×
                   List UInt8 ×
                    Int ×
                     Int ×
                      Int ×
                       List UInt8 ×
                        List UInt8 ×
                         List UInt8 ×
                          List UInt8 ×
                           Int ×
                            List UInt8 ×
                             Int × Int × Int × List UInt8 × List UInt8 × Int × Int × Int × List UInt8 × Int × Int × Unit) ×
            Unit) =>
       (if v5.2.1 = true then some (decide (v5.2.2.1.2.2.2.2.2.2.2.2.2.2.2.2.2.2.2.2.2.2.2.2.2.2.2.2.1 = 503), ()) else some (false, ())).bind
        fun (v6 : Bool × Unit) => some v6.1
theorem t_conciergelaw29_awake (x : Unit) (F : Nat) : fnRun TT Tryz.prog (e_conciergelaw29_awake F) s_conciergelaw29_awake (bodyOf 38) F x = M_conciergelaw29_awake F x := by kernel_rfl
theorem c_conciergelaw29_awake (F : Nat) : Ctr TT Tryz.prog 38 (conOf TT s_conciergelaw29_awake (M_conciergelaw29_awake F)) :=
 ctr_of (code := bodyOf 38) Tryz.func38 (by kernel_rfl) (by kernel_rfl) (by kernel_rfl) (by kernel_rfl) (envS_ok (envS_ok envN_ok (c_job_Of F)) (c_job_Step F)) hm (by kernel_rfl) (fun x r h => ⟨F, (t_conciergelaw29_awake x F).trans h⟩)
noncomputable def s_conciergelaw29_JobOf : Spec Kd := { params := [(.agg [(.int .i64), (.int .i64), (.int .i64), .str, .str, .str, .str]), (.agg [(.int .i64), .str, (.int .i64), (.int .i64), (.int .i64), (.int .i64), .str, (.int .i64), (.int .i64), (.int .i64), .str, .str, .str, .str]), (.a (.int .i64))], ret := (.one (.a .bool)), pins := [], pl := { nt := 51, ends := [(6, ⟨[.tmp 6 (.a .bool)], [], []⟩)] }, rfrz := [], ts := [6] }
noncomputable def e_conciergelaw29_JobOf (F : Nat) : Env El := (envS 40 (conOf TT s_job_Owns (M_job_Owns F)) (envS 39 (conOf TT s_job_Of (M_job_Of F)) (envS 21 (conOf TT s_conciergelaw18_Small (M_conciergelaw18_Small F)) (envS 38 (conOf TT s_conciergelaw29_awake (M_conciergelaw29_awake F)) envN))))
noncomputable def M_conciergelaw29_JobOf (F : Nat) (x : ((Int) × (Int) × (Int) × (List UInt8) × (List UInt8) × (List UInt8) × (List UInt8) × Unit) × ((Int) × (List UInt8) × (Int) × (Int) × (Int) × (Int) × (List UInt8) × (Int) × (Int) × (Int) × (List UInt8) × (List UInt8) × (List UInt8) × (List UInt8) × Unit) × (Int)) : Option (Bool) :=
 (M_conciergelaw29_awake F ()).bind fun (v0 : Bool) =>
  if (!v0) = true then some false
  else
   (M_conciergelaw18_Small F ([(0, x.2.1)], 1)).bind fun (v1 : Bool) =>
    if (!v1) = true then some true
    else
     (M_job_Of F (x.1, x.2.1)).bind fun (v2 : Int × Int × Int × List UInt8 × Int × Int × Bool × Int × Unit) =>
      (if
          (decide (v2.1 = x.1.1) &&
            (decide (v2.2.1 = x.1.2.1) &&
             (decide (v2.2.2.1 = x.2.1.1) &&
              (decide (v2.2.2.2.1 = x.2.1.2.1) &&
               (decide (v2.2.2.2.2.1 = x.2.1.2.2.2.1) &&
                (decide (v2.2.2.2.2.2.1 = x.2.1.2.2.2.2.1) && (v2.2.2.2.2.2.2.1 == false && (decide (v2.2.2.2.2.2.2.2.1 = 0) && true)))))))) =
           true then
         (M_job_Owns F (v2, x.2)).bind fun (v3 : Bool) =>
          if decide (x.2.1.2.2.1 = 1) = true then
           some
            (v3 ==
              decide
               ((if (if 1099511627776 < x.2.2 then 1099511627776 else x.2.2) < 0 then 0
                 else if 1099511627776 < x.2.2 then 1099511627776 else x.2.2) <
                 x.2.1.2.2.2.2.2.2.2.1),
             ())
          else some (v3 == false, ())
        else some (false, ())).bind
       fun (v4 : Bool × Unit) => some v4.1
theorem t_conciergelaw29_JobOf (x : ((Int) × (Int) × (Int) × (List UInt8) × (List UInt8) × (List UInt8) × (List UInt8) × Unit) × ((Int) × (List UInt8) × (Int) × (Int) × (Int) × (Int) × (List UInt8) × (Int) × (Int) × (Int) × (List UInt8) × (List UInt8) × (List UInt8) × (List UInt8) × Unit) × (Int)) (F : Nat) : fnRun TT Tryz.prog (e_conciergelaw29_JobOf F) s_conciergelaw29_JobOf (bodyOf 10) F x = M_conciergelaw29_JobOf F x := by kernel_rfl
theorem c_conciergelaw29_JobOf (F : Nat) : Ctr TT Tryz.prog 10 (conOf TT s_conciergelaw29_JobOf (M_conciergelaw29_JobOf F)) :=
 ctr_of (code := bodyOf 10) Tryz.func10 (by kernel_rfl) (by kernel_rfl) (by kernel_rfl) (by kernel_rfl) (envS_ok (envS_ok (envS_ok (envS_ok envN_ok (c_conciergelaw29_awake F)) (c_conciergelaw18_Small F)) (c_job_Of F)) (c_job_Owns F)) hm (by kernel_rfl) (fun x r h => ⟨F, (t_conciergelaw29_JobOf x F).trans h⟩)
end Go.Vm
