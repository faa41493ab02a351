/- Models of functions of the program, and that each keeps its contract: for all arguments of its shape. No condition. -/
import Derived.Test.YtmbnnjpdpginlaaDoorKt
import Derived.Test.YtmbnnjpdpginlaaDoorFsnap
import Derived.Test.YtmbnnjpdpginlaaDoorFref19
namespace Go.Vm
open Go.Proofs
set_option linter.unusedVariables false
noncomputable def s_conciergelaw19_awake : Spec Kd := { params := [], ret := (.one (.a .bool)), pins := [], pl := { nt := 46, ends := [(4, ⟨[.tmp 0 (.a .bool)], [1025], []⟩)] }, rfrz := [], ts := [0] }
noncomputable def e_conciergelaw19_awake (F : Nat) : Env El := (envS 29 (conOf TT s_snap_Need (M_snap_Need F)) (envS 28 (conOf TT s_snap_Read (M_snap_Read F)) (envS 25 (conOf TT s_snap_Write (M_snap_Write F)) envN)))
/-- concierge/conciergelaw19.awake -/
noncomputable def M_conciergelaw19_awake (F : Nat) (x : Unit) : Option (Bool) :=
  (M_snap_Write F
        ([(0, [107], 3, 1, 1, 0,
              [48, 49, 50, 51, 52, 53, 54, 55, 56, 57, 97, 98, 99, 100, 101, 102, 48, 49, 50, 51, 52, 53, 54, 55, 56, 57, 97, 98, 99, 100, 101, 102], 0, 9, 0, [],
              [], [], [], Unit.unit)],
          5)).bind
    fun (v0 : List UInt8 × Int) =>
    (M_snap_Read F v0.1).bind
      fun
        (v1 :
          List (Int × List UInt8 × Int × Int × Int × Int × List UInt8 × Int × Int × Int × List UInt8 × List UInt8 × List UInt8 × List UInt8 × Unit) ×
            Int × Int) =>
      (if decide (v0.2 = 0) = true then
            if decide (v1.2.2 = 0) = true then
              if decide (v1.2.1 = 5) = true then
                if decide ((↑v1.1.length : Int) = 1) = true then
                  (idx v1.1 0).bind
                    fun
                      (v2 :
                        Int × List UInt8 × Int × Int × Int × Int × List UInt8 × Int × Int × Int × List UInt8 × List UInt8 × List UInt8 × List UInt8 × Unit) =>
                    if
                        (decide (v2.1 = 0) &&
                            (decide (v2.2.1 = [107]) &&
                              (decide (v2.2.2.1 = 3) &&
                                (decide (v2.2.2.2.1 = 1) &&
                                  (decide (v2.2.2.2.2.1 = 1) &&
                                    (decide (v2.2.2.2.2.2.1 = 0) &&
                                      (decide
                                          (v2.2.2.2.2.2.2.1 =
                                            [48, 49, 50, 51, 52, 53, 54, 55, 56, 57, 97, 98, 99, 100, 101, 102, 48, 49, 50, 51, 52, 53, 54, 55, 56, 57, 97, 98,
                                              99, 100, 101, 102]) &&
                                        (decide (v2.2.2.2.2.2.2.2.1 = 0) &&
                                          (decide (v2.2.2.2.2.2.2.2.2.1 = 9) &&
                                            (decide (v2.2.2.2.2.2.2.2.2.2.1 = 0) &&
                                              (decide (v2.2.2.2.2.2.2.2.2.2.2.1 = []) &&
                                                (decide (v2.2.2.2.2.2.2.2.2.2.2.2.1 = []) &&
                                                  (decide (v2.2.2.2.2.2.2.2.2.2.2.2.2.1 = []) &&
                                                    (decide (v2.2.2.2.2.2.2.2.2.2.2.2.2.2.1 = []) && true)))))))))))))) =
                          true then
                      (M_snap_Need F 1).bind fun (v3 : Int) => some (decide (v3 = 263), ())
                    else some (false, ())
                else some (false, ())
              else some (false, ())
            else some (false, ())
          else some (false, ())).bind
        fun (v4 : Bool × Unit) => some v4.1
theorem t_conciergelaw19_awake (x : Unit) (F : Nat) : fnRun TT Tryd.prog (e_conciergelaw19_awake F) s_conciergelaw19_awake (bodyOf 23) F x = M_conciergelaw19_awake F x := by kernel_rfl
theorem c_conciergelaw19_awake (F : Nat) : Ctr TT Tryd.prog 23 (conOf TT s_conciergelaw19_awake (M_conciergelaw19_awake F)) :=
  ctr_of (code := bodyOf 23) Tryd.func23 (by kernel_rfl) (by kernel_rfl) (by kernel_rfl) (by kernel_rfl) (envS_ok (envS_ok (envS_ok envN_ok (c_snap_Write F)) (c_snap_Read F)) (c_snap_Need F)) hm (by kernel_rfl) (fun x r h => ⟨F, (t_conciergelaw19_awake x F).trans h⟩)
theorem mo_conciergelaw19_awake {F F' : Nat} (h : F ≤ F') : ∀ v, Le (M_conciergelaw19_awake F v) (M_conciergelaw19_awake F' v) := by
  intro v
  unfold M_conciergelaw19_awake
  with_reducible repeat (first | (intro v) | exact Le.refl _ | exact h | exact mo_snap_Write h _ | exact mo_snap_Read h _ | exact mo_snap_Need h _ | apply Le.bind | apply Le.ite | apply Le.loop | apply Le.sumC)
noncomputable def s_conciergelaw19_Small : Spec Kd := { params := [(.a (.slc .en)), (.a (.int .i64))], ret := (.one (.a .bool)), pins := [], pl := { nt := 52, loops := [(0, ⟨[.tmp 11 (.a (.slc .en)), .tmp 12 (.a (.int .i64)), .tmp 13 (.a (.int .i64))], [], []⟩, (.exit 0, ⟨[], [], []⟩), [(.ret, ⟨[.tmp 4 (.a .bool)], [], []⟩)])], cuts := [(6, [(10, ⟨[.tmp 6 (.a (.ptr 384 0)), .tmp 11 (.a (.slc .en)), .tmp 12 (.a (.int .i64)), .tmp 13 (.a (.int .i64)), .tmp 26 (.a .bool), .box 384 (.cells 23 [(.int .i64), .str, (.int .i64), (.int .i64), (.int .i64), (.int .i64), .str, (.int .i64), (.int .i64), (.int .i64), .str, .str, .str, .str])], [], []⟩), (6, ⟨[.tmp 6 (.a (.ptr 384 0)), .tmp 11 (.a (.slc .en)), .tmp 12 (.a (.int .i64)), .tmp 13 (.a (.int .i64)), .tmp 32 (.a .bool), .box 384 (.cells 23 [(.int .i64), .str, (.int .i64), (.int .i64), (.int .i64), (.int .i64), .str, (.int .i64), (.int .i64), (.int .i64), .str, .str, .str, .str])], [], []⟩), (6, ⟨[.tmp 6 (.a (.ptr 384 0)), .tmp 11 (.a (.slc .en)), .tmp 12 (.a (.int .i64)), .tmp 13 (.a (.int .i64)), .tmp 38 (.a .bool), .box 384 (.cells 23 [(.int .i64), .str, (.int .i64), (.int .i64), (.int .i64), (.int .i64), .str, (.int .i64), (.int .i64), (.int .i64), .str, .str, .str, .str])], [], []⟩), (6, ⟨[.tmp 6 (.a (.ptr 384 0)), .tmp 11 (.a (.slc .en)), .tmp 12 (.a (.int .i64)), .tmp 13 (.a (.int .i64)), .tmp 44 (.a .bool), .box 384 (.cells 23 [(.int .i64), .str, (.int .i64), (.int .i64), (.int .i64), (.int .i64), .str, (.int .i64), (.int .i64), (.int .i64), .str, .str, .str, .str])], [], []⟩), (6, ⟨[.tmp 11 (.a (.slc .en)), .tmp 12 (.a (.int .i64)), .tmp 13 (.a (.int .i64)), .tmp 50 (.a .bool)], [], []⟩)])] }, rfrz := [], ts := [4] }
noncomputable def e_conciergelaw19_Small (F : Nat) : Env El := envN
/-- concierge/conciergelaw19.Small -/
noncomputable def M_conciergelaw19_Small_l0 (F : Nat) (v0 : (List (Int × List UInt8 × Int × Int × Int × Int × List UInt8 × Int × Int × Int × List UInt8 × List UInt8 × List UInt8 × List UInt8 × Unit) ×
          Int × Int × Unit)) : Option ((List (Int × List UInt8 × Int × Int × Int × Int × List UInt8 × Int × Int × Int × List UInt8 × List UInt8 × List UInt8 × List UInt8 × Unit) ×
          Int × Int × Unit) ⊕ (Unit ⊕ Bool × Unit)) :=
  if decide (v0.2.2.1 < v0.2.1) = true then
            (idx v0.1 v0.2.2.1).bind
              fun (v1 : Int × List UInt8 × Int × Int × Int × Int × List UInt8 × Int × Int × Int × List UInt8 × List UInt8 × List UInt8 × List UInt8 × PUnit) =>
              (if decide (100 < (↑v1.2.1.length : Int)) = false then some ((), v0.1, v0.2.1, v0.2.2.1, decide (100 < (↑v1.2.2.2.2.2.2.1.length : Int)), v1, ())
                  else some ((), v0.1, v0.2.1, v0.2.2.1, true, v1, ())).bind
                fun
                  (v2 :
                    PUnit ×
                      List
                          (Int ×
                            List UInt8 × Int × Int × Int × Int × List UInt8 × Int × Int × Int × List UInt8 × List UInt8 × List UInt8 × List UInt8 × PUnit) ×
                        Int ×
                          Int ×
                            Bool ×
                              (Int ×
                                  List UInt8 ×
                                    Int × Int × Int × Int × List UInt8 × Int × Int × Int × List UInt8 × List UInt8 × List UInt8 × List UInt8 × PUnit) ×
                                PUnit) =>
                (if v2.2.2.2.2.1 = false then
                      some ((), v2.2.1, v2.2.2.1, v2.2.2.2.1, decide (100 < (↑v2.2.2.2.2.2.1.2.2.2.2.2.2.2.2.2.2.1.length : Int)), v2.2.2.2.2.2.1, ())
                    else some ((), v2.2.1, v2.2.2.1, v2.2.2.2.1, true, v2.2.2.2.2.2.1, ())).bind
                  fun
                    (v3 :
                      PUnit ×
                        List
                            (Int ×
                              List UInt8 × Int × Int × Int × Int × List UInt8 × Int × Int × Int × List UInt8 × List UInt8 × List UInt8 × List UInt8 × PUnit) ×
                          Int ×
                            Int ×
                              Bool ×
                                (Int ×
                                    List UInt8 ×
                                      Int × Int × Int × Int × List UInt8 × Int × Int × Int × List UInt8 × List UInt8 × List UInt8 × List UInt8 × PUnit) ×
                                  PUnit) =>
                  (if v3.2.2.2.2.1 = false then
                        some ((), v3.2.1, v3.2.2.1, v3.2.2.2.1, decide (100 < (↑v3.2.2.2.2.2.1.2.2.2.2.2.2.2.2.2.2.2.1.length : Int)), v3.2.2.2.2.2.1, ())
                      else some ((), v3.2.1, v3.2.2.1, v3.2.2.2.1, true, v3.2.2.2.2.2.1, ())).bind
                    fun
                      (v4 :
                        PUnit ×
                          List
                              (Int ×
                                List UInt8 × Int × Int × Int × Int × List UInt8 × Int × Int × Int × List UInt8 × List UInt8 × List UInt8 × List UInt8 × PUnit) ×
                            Int ×
                              Int ×
                                Bool ×
                                  (Int ×
                                      List UInt8 ×
                                        Int × Int × Int × Int × List UInt8 × Int × Int × Int × List UInt8 × List UInt8 × List UInt8 × List UInt8 × PUnit) ×
                                    PUnit) =>
                    (if v4.2.2.2.2.1 = false then
                          some ((), v4.2.1, v4.2.2.1, v4.2.2.2.1, decide (100 < (↑v4.2.2.2.2.2.1.2.2.2.2.2.2.2.2.2.2.2.2.1.length : Int)), v4.2.2.2.2.2.1, ())
                        else some ((), v4.2.1, v4.2.2.1, v4.2.2.2.1, true, v4.2.2.2.2.2.1, ())).bind
                      fun
                        (v5 :
                          PUnit ×
                            List
                                (Int ×
                                  List UInt8 ×
                                    Int × Int × Int × Int × List UInt8 × Int × Int × Int × List UInt8 × List UInt8 × List UInt8 × List UInt8 × PUnit) ×
                              Int ×
                                Int ×
                                  Bool ×
                                    (Int ×
                                        List UInt8 ×
                                          Int × Int × Int × Int × List UInt8 × Int × Int × Int × List UInt8 × List UInt8 × List UInt8 × List UInt8 × PUnit) ×
                                      PUnit) =>
                      (if v5.2.2.2.2.1 = false then
                            some (v5.2.1, v5.2.2.1, v5.2.2.2.1, decide (100 < (↑v5.2.2.2.2.2.1.2.2.2.2.2.2.2.2.2.2.2.2.2.1.length : Int)), ())
                          else some (v5.2.1, v5.2.2.1, v5.2.2.2.1, true, ())).bind
                        fun
                          (v6 :
                            List
                                (Int ×
                                  List UInt8 ×
                                    Int × Int × Int × Int × List UInt8 × Int × Int × Int × List UInt8 × List UInt8 × List UInt8 × List UInt8 × PUnit) ×
                              Int × Int × Bool × PUnit) =>
                        if v6.2.2.2.1 = true then some (Sum.inr (Sum.inr (false, ()))) else some (Sum.inl (v6.1, v6.2.1, IntKind.i64.wrap (v6.2.2.1 + 1), ()))
          else some (Sum.inr (Sum.inl ()))
noncomputable def M_conciergelaw19_Small (F : Nat) (x : (List (El .en)) × (Int)) : Option (Bool) :=
  if decide (x.2 < (↑x.1.length : Int)) = true then some false
  else
    (loopM (M_conciergelaw19_Small_l0 F)
          F (x.1, (↑x.1.length : Int), 0, ())).bind
      fun (v7 : Unit ⊕ Bool × Unit) => sumC v7 (fun (v8 : Unit) => some true) fun (v9 : Bool × Unit) => some v9.1
theorem t_conciergelaw19_Small (x : (List (El .en)) × (Int)) (F : Nat) : fnRun TT Tryd.prog (e_conciergelaw19_Small F) s_conciergelaw19_Small (bodyOf 24) F x = M_conciergelaw19_Small F x := by kernel_rfl
theorem c_conciergelaw19_Small (F : Nat) : Ctr TT Tryd.prog 24 (conOf TT s_conciergelaw19_Small (M_conciergelaw19_Small F)) :=
  ctr_of (code := bodyOf 24) Tryd.func24 (by kernel_rfl) (by kernel_rfl) (by kernel_rfl) (by kernel_rfl) envN_ok hm (by kernel_rfl) (fun x r h => ⟨F, (t_conciergelaw19_Small x F).trans h⟩)
theorem mo_conciergelaw19_Small_l0 {F F' : Nat} (h : F ≤ F') : ∀ v, Le (M_conciergelaw19_Small_l0 F v) (M_conciergelaw19_Small_l0 F' v) := by
  intro v
  unfold M_conciergelaw19_Small_l0
  with_reducible repeat (first | (intro v) | exact Le.refl _ | exact h | apply Le.bind | apply Le.ite | apply Le.loop | apply Le.sumC)
theorem mo_conciergelaw19_Small {F F' : Nat} (h : F ≤ F') : ∀ v, Le (M_conciergelaw19_Small F v) (M_conciergelaw19_Small F' v) := by
  intro v
  unfold M_conciergelaw19_Small
  with_reducible repeat (first | (intro v) | exact Le.refl _ | exact h | exact mo_conciergelaw19_Small_l0 h | exact mo_conciergelaw19_Small_l0 h _ | apply Le.bind | apply Le.ite | apply Le.loop | apply Le.sumC)
noncomputable def s_conciergelaw19_sorted : Spec Kd := { params := [(.a (.slc .en))], ret := (.one (.a (.slc .en))), pins := [], pl := { nt := 17, loops := [(0, ⟨[.tmp 3 (.a (.slc .en)), .tmp 6 (.a (.slc .en)), .tmp 7 (.a (.int .i64)), .tmp 8 (.a (.int .i64))], [896], []⟩, (.exit 0, ⟨[.tmp 3 (.a (.slc .en))], [896], []⟩), [])] }, rfrz := [], ts := [2] }
noncomputable def e_conciergelaw19_sorted (F : Nat) : Env El := (envS 59 (conOf TT s_conciergeref15_Put (M_conciergeref15_Put F)) envN)
/-- concierge/conciergelaw19.sorted -/
noncomputable def M_conciergelaw19_sorted_l0 (F : Nat) (v0 : (List (Int × List UInt8 × Int × Int × Int × Int × List UInt8 × Int × Int × Int × List UInt8 × List UInt8 × List UInt8 × List UInt8 × Unit) ×
        List (Int × List UInt8 × Int × Int × Int × Int × List UInt8 × Int × Int × Int × List UInt8 × List UInt8 × List UInt8 × List UInt8 × Unit) ×
          Int × Int × Unit)) : Option ((List (Int × List UInt8 × Int × Int × Int × Int × List UInt8 × Int × Int × Int × List UInt8 × List UInt8 × List UInt8 × List UInt8 × Unit) ×
        List (Int × List UInt8 × Int × Int × Int × Int × List UInt8 × Int × Int × Int × List UInt8 × List UInt8 × List UInt8 × List UInt8 × Unit) ×
          Int × Int × Unit) ⊕ (List (Int × List UInt8 × Int × Int × Int × Int × List UInt8 × Int × Int × Int × List UInt8 × List UInt8 × List UInt8 × List UInt8 × Unit) × Unit)) :=
  if decide (v0.2.2.2.1 < v0.2.2.1) = true then
          (idx v0.2.1 v0.2.2.2.1).bind
            fun (v1 : Int × List UInt8 × Int × Int × Int × Int × List UInt8 × Int × Int × Int × List UInt8 × List UInt8 × List UInt8 × List UInt8 × PUnit) =>
            (M_conciergeref15_Put F (v0.1, v1)).bind
              fun
                (v2 :
                  List (Int × List UInt8 × Int × Int × Int × Int × List UInt8 × Int × Int × Int × List UInt8 × List UInt8 × List UInt8 × List UInt8 × PUnit)) =>
              some (Sum.inl (v2, v0.2.1, v0.2.2.1, IntKind.i64.wrap (v0.2.2.2.1 + 1), ()))
        else some (Sum.inr (v0.1, ()))
noncomputable def M_conciergelaw19_sorted (F : Nat) (x : (List (El .en))) : Option (List (El .en)) :=
  (loopM (M_conciergelaw19_sorted_l0 F)
        F ([], x, (↑x.length : Int), 0, ())).bind
    fun
      (v3 : List (Int × List UInt8 × Int × Int × Int × Int × List UInt8 × Int × Int × Int × List UInt8 × List UInt8 × List UInt8 × List UInt8 × Unit) × Unit) =>
    some v3.1
theorem t_conciergelaw19_sorted (x : (List (El .en))) (F : Nat) : fnRun TT Tryd.prog (e_conciergelaw19_sorted F) s_conciergelaw19_sorted (bodyOf 26) F x = M_conciergelaw19_sorted F x := by kernel_rfl
theorem c_conciergelaw19_sorted (F : Nat) : Ctr TT Tryd.prog 26 (conOf TT s_conciergelaw19_sorted (M_conciergelaw19_sorted F)) :=
  ctr_of (code := bodyOf 26) Tryd.func26 (by kernel_rfl) (by kernel_rfl) (by kernel_rfl) (by kernel_rfl) (envS_ok envN_ok (c_conciergeref15_Put F)) hm (by kernel_rfl) (fun x r h => ⟨F, (t_conciergelaw19_sorted x F).trans h⟩)
theorem mo_conciergelaw19_sorted_l0 {F F' : Nat} (h : F ≤ F') : ∀ v, Le (M_conciergelaw19_sorted_l0 F v) (M_conciergelaw19_sorted_l0 F' v) := by
  intro v
  unfold M_conciergelaw19_sorted_l0
  with_reducible repeat (first | (intro v) | exact Le.refl _ | exact h | exact mo_conciergeref15_Put h _ | apply Le.bind | apply Le.ite | apply Le.loop | apply Le.sumC)
theorem mo_conciergelaw19_sorted {F F' : Nat} (h : F ≤ F') : ∀ v, Le (M_conciergelaw19_sorted F v) (M_conciergelaw19_sorted F' v) := by
  intro v
  unfold M_conciergelaw19_sorted
  with_reducible repeat (first | (intro v) | exact Le.refl _ | exact h | exact mo_conciergeref15_Put h _ | exact mo_conciergelaw19_sorted_l0 h | exact mo_conciergelaw19_sorted_l0 h _ | apply Le.bind | apply Le.ite | apply Le.loop | apply Le.sumC)
noncomputable def s_conciergelaw19_SnapRot : Spec Kd := { params := [(.a (.slc .en)), (.a (.int .i64)), (.a (.int .u8))], ret := (.one (.a .bool)), pins := [], pl := { nt := 69, cuts := [(13, [(6, ⟨[.tmp 10 (.a (.slc .en)), .tmp 63 (.a .bool)], [2752, 3457], []⟩), (5, ⟨[.tmp 68 (.a .bool)], [2752, 3457], []⟩)]), (12, [(10, ⟨[.tmp 10 (.a (.slc .en)), .tmp 11 (.a (.int .i64)), .tmp 12 (.a (.int .i64))], [2752, 3457], []⟩)]), (8, [(8, ⟨[.tmp 1 (.a (.int .i64)), .tmp 2 (.a (.int .u8)), .tmp 7 (.a .str), .tmp 41 (.a .bool)], [2752, 3457], []⟩)]), (3, [(7, ⟨[.tmp 0 (.a (.slc .en)), .tmp 1 (.a (.int .i64)), .tmp 2 (.a (.int .u8)), .tmp 21 (.a .bool)], [2752, 3457], []⟩)])] }, rfrz := [], ts := [6] }
noncomputable def e_conciergelaw19_SnapRot (F : Nat) : Env El := (envS 28 (conOf TT s_snap_Read (M_snap_Read F)) (envS 27 (conOf TT s_conciergeref19_May (M_conciergeref19_May F)) (envS 25 (conOf TT s_snap_Write (M_snap_Write F)) (envS 26 (conOf TT s_conciergelaw19_sorted (M_conciergelaw19_sorted F)) (envS 24 (conOf TT s_conciergelaw19_Small (M_conciergelaw19_Small F)) (envS 23 (conOf TT s_conciergelaw19_awake (M_conciergelaw19_awake F)) envN))))))
/-- concierge/conciergelaw19.SnapRot -/
noncomputable def M_conciergelaw19_SnapRot (F : Nat) (x : (List (El .en)) × (Int) × (Int)) : Option (Bool) :=
  (M_conciergelaw19_awake F ()).bind fun (v0 : Bool) =>
    if (!v0) = true then some false
    else
      ((M_conciergelaw19_Small F (x.1, 10)).bind fun (v1 : Bool) =>
            if (!v1) = false then some (x.1, x.2.1, x.2.2, decide (x.2.2 = 0), ()) else some (x.1, x.2.1, x.2.2, true, ())).bind
        fun
          (v2 :
            List (Int × List UInt8 × Int × Int × Int × Int × List UInt8 × Int × Int × Int × List UInt8 × List UInt8 × List UInt8 × List UInt8 × Unit) ×
              Int × Int × Bool × Unit) =>
        if v2.2.2.2.1 = true then some true
        else
          (M_conciergelaw19_sorted F v2.1).bind
            fun
              (v3 : List (Int × List UInt8 × Int × Int × Int × Int × List UInt8 × Int × Int × Int × List UInt8 × List UInt8 × List UInt8 × List UInt8 × Unit)) =>
            (M_snap_Write F (v3, 1073741824)).bind fun (v4 : List UInt8 × Int) =>
              if (!decide (v4.2 = 0)) = true then
                (M_conciergelaw19_sorted F v2.1).bind
                  fun
                    (v5 :
                      List
                        (Int × List UInt8 × Int × Int × Int × Int × List UInt8 × Int × Int × Int × List UInt8 × List UInt8 × List UInt8 × List UInt8 × Unit)) =>
                  (M_conciergeref19_May F (v5, 1073741824)).bind fun (v6 : Bool) => some !v6
              else
                (if decide (v2.2.1 < 0) = false then some (v2.2.1, v2.2.2.1, v4.1, decide ((↑v4.1.length : Int) ≤ v2.2.1), ())
                    else some (v2.2.1, v2.2.2.1, v4.1, true, ())).bind
                  fun (v7 : Int × Int × List UInt8 × Bool × Unit) =>
                  if v7.2.2.2.1 = true then some true
                  else
                    if decide (v7.2.2.1.length ≤ 9223372036854775807) = true then
                      (idx v7.2.2.1 v7.1).bind fun (v8 : UInt8) =>
                        (idx v7.2.2.1 v7.1).bind fun (v9 : UInt8) =>
                          ((idx v7.2.2.1 (↑v7.1.toNat : Int)).bind fun (v10 : UInt8) => some (UInt8.ofNat (ixor IntKind.u8 (↑v8.toNat : Int) v7.2.1).toNat)).bind
                            fun (v11 : UInt8) =>
                            ((M_snap_Read F (lset v7.2.2.1 v7.1.toNat v11)).bind
                                  fun
                                    (v12 :
                                      List
                                          (Int ×
                                            List UInt8 ×
                                              Int × Int × Int × Int × List UInt8 × Int × Int × Int × List UInt8 × List UInt8 × List UInt8 × List UInt8 × Unit) ×
                                        Int × Int) =>
                                  some (v12.1, v12.2.1, v12.2.2, ())).bind
                              fun
                                (v13 :
                                  List
                                      (Int ×
                                        List UInt8 ×
                                          Int × Int × Int × Int × List UInt8 × Int × Int × Int × List UInt8 × List UInt8 × List UInt8 × List UInt8 × Unit) ×
                                    Int × Int × Unit) =>
                              (if decide (v13.2.2.1 = 4) = true then some (v13.1, decide (v13.2.1 = 0), ()) else some (v13.1, false, ())).bind
                                fun
                                  (v14 :
                                    List
                                        (Int ×
                                          List UInt8 ×
                                            Int × Int × Int × Int × List UInt8 × Int × Int × Int × List UInt8 × List UInt8 × List UInt8 × List UInt8 × Unit) ×
                                      Bool × Unit) =>
                                (if v14.2.1 = true then some (decide ((↑v14.1.length : Int) = 0), ()) else some (false, ())).bind fun (v15 : Bool × Unit) =>
                                  some v15.1
                    else none
theorem t_conciergelaw19_SnapRot (x : (List (El .en)) × (Int) × (Int)) (F : Nat) : fnRun TT Tryd.prog (e_conciergelaw19_SnapRot F) s_conciergelaw19_SnapRot (bodyOf 8) F x = M_conciergelaw19_SnapRot F x := by kernel_rfl
theorem c_conciergelaw19_SnapRot (F : Nat) : Ctr TT Tryd.prog 8 (conOf TT s_conciergelaw19_SnapRot (M_conciergelaw19_SnapRot F)) :=
  ctr_of (code := bodyOf 8) Tryd.func8 (by kernel_rfl) (by kernel_rfl) (by kernel_rfl) (by kernel_rfl) (envS_ok (envS_ok (envS_ok (envS_ok (envS_ok (envS_ok envN_ok (c_conciergelaw19_awake F)) (c_conciergelaw19_Small F)) (c_conciergelaw19_sorted F)) (c_snap_Write F)) (c_conciergeref19_May F)) (c_snap_Read F)) hm (by kernel_rfl) (fun x r h => ⟨F, (t_conciergelaw19_SnapRot x F).trans h⟩)
theorem mo_conciergelaw19_SnapRot {F F' : Nat} (h : F ≤ F') : ∀ v, Le (M_conciergelaw19_SnapRot F v) (M_conciergelaw19_SnapRot F' v) := by
  intro v
  unfold M_conciergelaw19_SnapRot
  with_reducible repeat (first | (intro v) | exact Le.refl _ | exact h | exact mo_conciergelaw19_awake h _ | exact mo_conciergelaw19_Small h _ | exact mo_conciergelaw19_sorted h _ | exact mo_snap_Write h _ | exact mo_conciergeref19_May h _ | exact mo_snap_Read h _ | apply Le.bind | apply Le.ite | apply Le.loop | apply Le.sumC)
noncomputable def s_conciergelaw19_SnapCut : Spec Kd := { params := [(.a (.slc .en)), (.a (.int .i64)), (.a .str)], ret := (.one (.a .bool)), pins := [], pl := { nt := 72, cuts := [(13, [(11, ⟨[.tmp 14 (.a (.int .i64))], [2753, 4225], []⟩)]), (11, [(8, ⟨[.tmp 1 (.a (.int .i64)), .tmp 7 (.a .str), .tmp 56 (.a .bool)], [2753, 4225], []⟩)]), (9, [(11, ⟨[.tmp 11 (.a (.int .i64))], [2753, 4225], []⟩)]), (3, [(8, ⟨[.tmp 0 (.a (.slc .en)), .tmp 1 (.a (.int .i64)), .tmp 2 (.a .str), .tmp 24 (.a .bool)], [2753, 4225], []⟩)])] }, rfrz := [], ts := [6] }
noncomputable def e_conciergelaw19_SnapCut (F : Nat) : Env El := (envS 30 (conOf TT s_conciergeref19_Need (M_conciergeref19_Need F)) (envS 29 (conOf TT s_snap_Need (M_snap_Need F)) (envS 28 (conOf TT s_snap_Read (M_snap_Read F)) (envS 27 (conOf TT s_conciergeref19_May (M_conciergeref19_May F)) (envS 25 (conOf TT s_snap_Write (M_snap_Write F)) (envS 26 (conOf TT s_conciergelaw19_sorted (M_conciergelaw19_sorted F)) (envS 24 (conOf TT s_conciergelaw19_Small (M_conciergelaw19_Small F)) (envS 23 (conOf TT s_conciergelaw19_awake (M_conciergelaw19_awake F)) envN))))))))
/-- concierge/conciergelaw19.SnapCut -/
noncomputable def M_conciergelaw19_SnapCut (F : Nat) (x : (List (El .en)) × (Int) × (List UInt8)) : Option (Bool) :=
  (M_conciergelaw19_awake F ()).bind fun (v0 : Bool) =>
    if (!v0) = true then some false
    else
      ((M_conciergelaw19_Small F (x.1, 10)).bind fun (v1 : Bool) =>
            if (!v1) = false then some (x.1, x.2.1, x.2.2, decide (50 < (↑x.2.2.length : Int)), ()) else some (x.1, x.2.1, x.2.2, true, ())).bind
        fun
          (v2 :
            List (Int × List UInt8 × Int × Int × Int × Int × List UInt8 × Int × Int × Int × List UInt8 × List UInt8 × List UInt8 × List UInt8 × Unit) ×
              Int × List UInt8 × Bool × Unit) =>
        if v2.2.2.2.1 = true then some true
        else
          (M_conciergelaw19_sorted F v2.1).bind
            fun
              (v3 : List (Int × List UInt8 × Int × Int × Int × Int × List UInt8 × Int × Int × Int × List UInt8 × List UInt8 × List UInt8 × List UInt8 × Unit)) =>
            (M_snap_Write F (v3, 1073741824)).bind fun (v4 : List UInt8 × Int) =>
              if (!decide (v4.2 = 0)) = true then
                (M_conciergelaw19_sorted F v2.1).bind
                  fun
                    (v5 :
                      List
                        (Int × List UInt8 × Int × Int × Int × Int × List UInt8 × Int × Int × Int × List UInt8 × List UInt8 × List UInt8 × List UInt8 × Unit)) =>
                  (M_conciergeref19_May F (v5, 1073741824)).bind fun (v6 : Bool) => some !v6
              else
                if (!decide (v2.2.2.1 = [])) = true then
                  (if decide (v4.1.length + v2.2.2.1.length ≤ 9223372036854775807) = true then
                        (M_snap_Read F (v4.1 ++ v2.2.2.1)).bind
                          fun
                            (v7 :
                              List
                                  (Int ×
                                    List UInt8 ×
                                      Int × Int × Int × Int × List UInt8 × Int × Int × Int × List UInt8 × List UInt8 × List UInt8 × List UInt8 × Unit) ×
                                Int × Int) =>
                          some (v7.2.2, ())
                      else none).bind
                    fun (v8 : Int × Unit) => some !decide (v8.1 = 0)
                else
                  (if decide (v2.2.1 < 1) = false then some (v2.2.1, v4.1, decide ((↑v4.1.length : Int) ≤ v2.2.1), ()) else some (v2.2.1, v4.1, true, ())).bind
                    fun (v9 : Int × List UInt8 × Bool × Unit) =>
                    if v9.2.2.1 = true then
                      (M_snap_Need F v9.1).bind fun (v10 : Int) => (M_conciergeref19_Need F v9.1).bind fun (v11 : Int) => some (decide (v10 = v11))
                    else
                      ((sub v9.2.1 0 v9.1).bind fun (v12 : List UInt8) =>
                            (M_snap_Read F v12).bind
                              fun
                                (v13 :
                                  List
                                      (Int ×
                                        List UInt8 ×
                                          Int × Int × Int × Int × List UInt8 × Int × Int × Int × List UInt8 × List UInt8 × List UInt8 × List UInt8 × Unit) ×
                                    Int × Int) =>
                              some (v13.2.2, ())).bind
                        fun (v14 : Int × Unit) => some (decide (v14.1 = 3))
theorem t_conciergelaw19_SnapCut (x : (List (El .en)) × (Int) × (List UInt8)) (F : Nat) : fnRun TT Tryd.prog (e_conciergelaw19_SnapCut F) s_conciergelaw19_SnapCut (bodyOf 9) F x = M_conciergelaw19_SnapCut F x := by kernel_rfl
theorem c_conciergelaw19_SnapCut (F : Nat) : Ctr TT Tryd.prog 9 (conOf TT s_conciergelaw19_SnapCut (M_conciergelaw19_SnapCut F)) :=
  ctr_of (code := bodyOf 9) Tryd.func9 (by kernel_rfl) (by kernel_rfl) (by kernel_rfl) (by kernel_rfl) (envS_ok (envS_ok (envS_ok (envS_ok (envS_ok (envS_ok (envS_ok (envS_ok envN_ok (c_conciergelaw19_awake F)) (c_conciergelaw19_Small F)) (c_conciergelaw19_sorted F)) (c_snap_Write F)) (c_conciergeref19_May F)) (c_snap_Read F)) (c_snap_Need F)) (c_conciergeref19_Need F)) hm (by kernel_rfl) (fun x r h => ⟨F, (t_conciergelaw19_SnapCut x F).trans h⟩)
theorem mo_conciergelaw19_SnapCut {F F' : Nat} (h : F ≤ F') : ∀ v, Le (M_conciergelaw19_SnapCut F v) (M_conciergelaw19_SnapCut F' v) := by
  intro v
  unfold M_conciergelaw19_SnapCut
  with_reducible repeat (first | (intro v) | exact Le.refl _ | exact h | exact mo_conciergelaw19_awake h _ | exact mo_conciergelaw19_Small h _ | exact mo_conciergelaw19_sorted h _ | exact mo_snap_Write h _ | exact mo_conciergeref19_May h _ | exact mo_snap_Read h _ | exact mo_snap_Need h _ | exact mo_conciergeref19_Need h _ | apply Le.bind | apply Le.ite | apply Le.loop | apply Le.sumC)

end Go.Vm
