/- Models of functions of the program, and that each keeps its contract: for all arguments of its shape. No condition. -/
import Derived.Test.YtmbnnjpdpginlaaGreatDoorKt
import Derived.Test.YtmbnnjpdpginlaaGreatDoorFsnap
import Derived.Test.YtmbnnjpdpginlaaGreatDoorFref19
namespace Go.Vm
open Go.Proofs
set_option linter.unusedVariables false
noncomputable def s_conciergelaw19_awake : Spec Kd := { params := [], ret := (.one (.a .bool)), pins := [], pl := { nt := 46, ends := [(4, ⟨[.tmp 0 (.a .bool)], [1025], []⟩)] }, rfrz := [], ts := [0] }
noncomputable def e_conciergelaw19_awake (F : Nat) : Env El := (envS 13 (conOf TT s_snap_Need (M_snap_Need F)) (envS 11 (conOf TT s_snap_Read (M_snap_Read F)) (envS 9 (conOf TT s_snap_Write (M_snap_Write F)) envN)))
/-- concierge/conciergelaw19.awake -/
noncomputable def M_conciergelaw19_awake (F : Nat) (x : Unit) : Option (Bool) :=
  (M_snap_Write F
        ([(0, [107], 3, 1, 1, 0,
              [48, 49, 50, 51, 52, 53, 54, 55, 56, 57, 97, 98, 99, 100, 101, 102, 48, 49, 50, 51, 52, 53, 54, 55, 56, 57, 97, 98, 99, 100, 101, 102], 0, 9, 0, [],
              [], [], [], Unit.unit)],
          5)).bind
    fun (v0 : List UInt8 × Int) =>
    (M_snap_Read F v0.1).bind
      fun
        (v1 :
          List (Int × List UInt8 × Int × Int × Int × Int × List UInt8 × Int × Int × Int × List UInt8 × List UInt8 × List UInt8 × List UInt8 × Unit) ×
            Int × Int) =>
      (if decide (v0.2 = 0) = true then
            if decide (v1.2.2 = 0) = true then
              if decide (v1.2.1 = 5) = true then
                if decide ((↑v1.1.length : Int) = 1) = true then
                  (idx v1.1 0).bind
                    fun
                      (v2 :
                        Int × List UInt8 × Int × Int × Int × Int × List UInt8 × Int × Int × Int × List UInt8 × List UInt8 × List UInt8 × List UInt8 × Unit) =>
                    if
                        (decide (v2.1 = 0) &&
                            (decide (v2.2.1 = [107]) &&
                              (decide (v2.2.2.1 = 3) &&
                                (decide (v2.2.2.2.1 = 1) &&
                                  (decide (v2.2.2.2.2.1 = 1) &&
                                    (decide (v2.2.2.2.2.2.1 = 0) &&
                                      (decide
                                          (v2.2.2.2.2.2.2.1 =
                                            [48, 49, 50, 51, 52, 53, 54, 55, 56, 57, 97, 98, 99, 100, 101, 102, 48, 49, 50, 51, 52, 53, 54, 55, 56, 57, 97, 98,
                                              99, 100, 101, 102]) &&
                                        (decide (v2.2.2.2.2.2.2.2.1 = 0) &&
                                          (decide (v2.2.2.2.2.2.2.2.2.1 = 9) &&
                                            (decide (v2.2.2.2.2.2.2.2.2.2.1 = 0) &&
                                              (decide (v2.2.2.2.2.2.2.2.2.2.2.1 = []) &&
                                                (decide (v2.2.2.2.2.2.2.2.2.2.2.2.1 = []) &&
                                                  (decide (v2.2.2.2.2.2.2.2.2.2.2.2.2.1 = []) &&
                                                    (decide (v2.2.2.2.2.2.2.2.2.2.2.2.2.2.1 = []) && true)))))))))))))) =
                          true then
                      (M_snap_Need F 1).bind fun (v3 : Int) => some (decide (v3 = 263), ())
                    else some (false, ())
                else some (false, ())
              else some (false, ())
            else some (false, ())
          else some (false, ())).bind
        fun (v4 : Bool × Unit) => some v4.1
theorem t_conciergelaw19_awake (x : Unit) (F : Nat) : fnRun TT Tryz.prog (e_conciergelaw19_awake F) s_conciergelaw19_awake (bodyOf 6) F x = M_conciergelaw19_awake F x := by kernel_rfl
theorem c_conciergelaw19_awake (F : Nat) : Ctr TT Tryz.prog 6 (conOf TT s_conciergelaw19_awake (M_conciergelaw19_awake F)) :=
  ctr_of (code := bodyOf 6) Tryz.func6 (by kernel_rfl) (by kernel_rfl) (by kernel_rfl) (by kernel_rfl) (envS_ok (envS_ok (envS_ok envN_ok (c_snap_Write F)) (c_snap_Read F)) (c_snap_Need F)) hm (by kernel_rfl) (fun x r h => ⟨F, (t_conciergelaw19_awake x F).trans h⟩)
theorem mo_conciergelaw19_awake {F F' : Nat} (h : F ≤ F') : ∀ v, Le (M_conciergelaw19_awake F v) (M_conciergelaw19_awake F' v) := by
  intro v
  unfold M_conciergelaw19_awake
  with_reducible repeat (first | (intro v) | exact Le.refl _ | exact h | exact mo_snap_Write h _ | exact mo_snap_Read h _ | exact mo_snap_Need h _ | apply Le.bind | apply Le.ite | apply Le.loop | apply Le.sumC)
noncomputable def s_conciergelaw19_Small : Spec Kd := { params := [(.a (.slc .en)), (.a (.int .i64))], ret := (.one (.a .bool)), pins := [], pl := { nt := 52, loops := [(0, ⟨[.tmp 11 (.a (.slc .en)), .tmp 12 (.a (.int .i64)), .tmp 13 (.a (.int .i64))], [], []⟩, (.exit 0, ⟨[], [], []⟩), [(.ret, ⟨[.tmp 4 (.a .bool)], [], []⟩)])], cuts := [(6, [(10, ⟨[.tmp 6 (.a (.ptr 384 0)), .tmp 11 (.a (.slc .en)), .tmp 12 (.a (.int .i64)), .tmp 13 (.a (.int .i64)), .tmp 26 (.a .bool), .box 384 (.cells 40 [(.int .i64), .str, (.int .i64), (.int .i64), (.int .i64), (.int .i64), .str, (.int .i64), (.int .i64), (.int .i64), .str, .str, .str, .str])], [], []⟩), (6, ⟨[.tmp 6 (.a (.ptr 384 0)), .tmp 11 (.a (.slc .en)), .tmp 12 (.a (.int .i64)), .tmp 13 (.a (.int .i64)), .tmp 32 (.a .bool), .box 384 (.cells 40 [(.int .i64), .str, (.int .i64), (.int .i64), (.int .i64), (.int .i64), .str, (.int .i64), (.int .i64), (.int .i64), .str, .str, .str, .str])], [], []⟩), (6, ⟨[.tmp 6 (.a (.ptr 384 0)), .tmp 11 (.a (.slc .en)), .tmp 12 (.a (.int .i64)), .tmp 13 (.a (.int .i64)), .tmp 38 (.a .bool), .box 384 (.cells 40 [(.int .i64), .str, (.int .i64), (.int .i64), (.int .i64), (.int .i64), .str, (.int .i64), (.int .i64), (.int .i64), .str, .str, .str, .str])], [], []⟩), (6, ⟨[.tmp 6 (.a (.ptr 384 0)), .tmp 11 (.a (.slc .en)), .tmp 12 (.a (.int .i64)), .tmp 13 (.a (.int .i64)), .tmp 44 (.a .bool), .box 384 (.cells 40 [(.int .i64), .str, (.int .i64), (.int .i64), (.int .i64), (.int .i64), .str, (.int .i64), (.int .i64), (.int .i64), .str, .str, .str, .str])], [], []⟩), (6, ⟨[.tmp 11 (.a (.slc .en)), .tmp 12 (.a (.int .i64)), .tmp 13 (.a (.int .i64)), .tmp 50 (.a .bool)], [], []⟩)])] }, rfrz := [], ts := [4] }
noncomputable def e_conciergelaw19_Small (F : Nat) : Env El := envN
/-- concierge/conciergelaw19.Small -/
noncomputable def M_conciergelaw19_Small_l0 (F : Nat) (v0 : (List (Int × List UInt8 × Int × Int × Int × Int × List UInt8 × Int × Int × Int × List UInt8 × List UInt8 × List UInt8 × List UInt8 × Unit) ×
          Int × Int × Unit)) : Option ((List (Int × List UInt8 × Int × Int × Int × Int × List UInt8 × Int × Int × Int × List UInt8 × List UInt8 × List UInt8 × List UInt8 × Unit) ×
          Int × Int × Unit) ⊕ (Unit ⊕ Bool × Unit)) :=
  if decide (v0.2.2.1 < v0.2.1) = true then
            (idx v0.1 v0.2.2.1).bind
              fun (v1 : Int × List UInt8 × Int × Int × Int × Int × List UInt8 × Int × Int × Int × List UInt8 × List UInt8 × List UInt8 × List UInt8 × PUnit) =>
              (if decide (100 < (↑v1.2.1.length : Int)) = false then some ((), v0.1, v0.2.1, v0.2.2.1, decide (100 < (↑v1.2.2.2.2.2.2.1.length : Int)), v1, ())
                  else some ((), v0.1, v0.2.1, v0.2.2.1, true, v1, ())).bind
                fun
                  (v2 :
                    PUnit ×
                      List
                          (Int ×
                            List UInt8 × Int × Int × Int × Int × List UInt8 × Int × Int × Int × List UInt8 × List UInt8 × List UInt8 × List UInt8 × PUnit) ×
                        Int ×
                          Int ×
                            Bool ×
                              (Int ×
                                  List UInt8 ×
                                    Int × Int × Int × Int × List UInt8 × Int × Int × Int × List UInt8 × List UInt8 × List UInt8 × List UInt8 × PUnit) ×
                                PUnit) =>
                (if v2.2.2.2.2.1 = false then
                      some ((), v2.2.1, v2.2.2.1, v2.2.2.2.1, decide (100 < (↑v2.2.2.2.2.2.1.2.2.2.2.2.2.2.2.2.2.1.length : Int)), v2.2.2.2.2.2.1, ())
                    else some ((), v2.2.1, v2.2.2.1, v2.2.2.2.1, true, v2.2.2.2.2.2.1, ())).bind
                  fun
                    (v3 :
                      PUnit ×
                        List
                            (Int ×
                              List UInt8 × Int × Int × Int × Int × List UInt8 × Int × Int × Int × List UInt8 × List UInt8 × List UInt8 × List UInt8 × PUnit) ×
                          Int ×
                            Int ×
                              Bool ×
                                (Int ×
                                    List UInt8 ×
                                      Int × Int × Int × Int × List UInt8 × Int × Int × Int × List UInt8 × List UInt8 × List UInt8 × List UInt8 × PUnit) ×
                                  PUnit) =>
                  (if v3.2.2.2.2.1 = false then
                        some ((), v3.2.1, v3.2.2.1, v3.2.2.2.1, decide (100 < (↑v3.2.2.2.2.2.1.2.2.2.2.2.2.2.2.2.2.2.1.length : Int)), v3.2.2.2.2.2.1, ())
                      else some ((), v3.2.1, v3.2.2.1, v3.2.2.2.1, true, v3.2.2.2.2.2.1, ())).bind
                    fun
                      (v4 :
                        PUnit ×
                          List
                              (Int ×
                                List UInt8 × Int × Int × Int × Int × List UInt8 × Int × Int × Int × List UInt8 × List UInt8 × List UInt8 × List UInt8 × PUnit) ×
                            Int ×
                              Int ×
                                Bool ×
                                  (Int ×
                                      List UInt8 ×
                                        Int × Int × Int × Int × List UInt8 × Int × Int × Int × List UInt8 × List UInt8 × List UInt8 × List UInt8 × PUnit) ×
                                    PUnit) =>
                    (if v4.2.2.2.2.1 = false then
                          some ((), v4.2.1, v4.2.2.1, v4.2.2.2.1, decide (100 < (↑v4.2.2.2.2.2.1.2.2.2.2.2.2.2.2.2.2.2.2.1.length : Int)), v4.2.2.2.2.2.1, ())
                        else some ((), v4.2.1, v4.2.2.1, v4.2.2.2.1, true, v4.2.2.2.2.2.1, ())).bind
                      fun
                        (v5 :
                          PUnit ×
                            List
                                (Int ×
                                  List UInt8 ×
                                    Int × Int × Int × Int × List UInt8 × Int × Int × Int × List UInt8 × List UInt8 × List UInt8 × List UInt8 × PUnit) ×
                              Int ×
                                Int ×
                                  Bool ×
                                    (Int ×
                                        List UInt8 ×
                                          Int × Int × Int × Int × List UInt8 × Int × Int × Int × List UInt8 × List UInt8 × List UInt8 × List UInt8 × PUnit) ×
                                      PUnit) =>
                      (if v5.2.2.2.2.1 = false then
                            some (v5.2.1, v5.2.2.1, v5.2.2.2.1, decide (100 < (↑v5.2.2.2.2.2.1.2.2.2.2.2.2.2.2.2.2.2.2.2.1.length : Int)), ())
                          else some (v5.2.1, v5.2.2.1, v5.2.2.2.1, true, ())).bind
                        fun
                          (v6 :
                            List
                                (Int ×
                                  List UInt8 ×
                                    Int × Int × Int × Int × List UInt8 × Int × Int × Int × List UInt8 × List UInt8 × List UInt8 × List UInt8 × PUnit) ×
                              Int × Int × Bool × PUnit) =>
                        if v6.2.2.2.1 = true then some (Sum.inr (Sum.inr (false, ()))) else some (Sum.inl (v6.1, v6.2.1, IntKind.i64.wrap (v6.2.2.1 + 1), ()))
          else some (Sum.inr (Sum.inl ()))
noncomputable def M_conciergelaw19_Small (F : Nat) (x : (List (El .en)) × (Int)) : Option (Bool) :=
  if decide (x.2 < (↑x.1.length : Int)) = true then some false
  else
    (loopM (M_conciergelaw19_Small_l0 F)
          F (x.1, (↑x.1.length : Int), 0, ())).bind
      fun (v7 : Unit ⊕ Bool × Unit) => sumC v7 (fun (v8 : Unit) => some true) fun (v9 : Bool × Unit) => some v9.1
theorem t_conciergelaw19_Small (x : (List (El .en)) × (Int)) (F : Nat) : fnRun TT Tryz.prog (e_conciergelaw19_Small F) s_conciergelaw19_Small (bodyOf 7) F x = M_conciergelaw19_Small F x := by kernel_rfl
theorem c_conciergelaw19_Small (F : Nat) : Ctr TT Tryz.prog 7 (conOf TT s_conciergelaw19_Small (M_conciergelaw19_Small F)) :=
  ctr_of (code := bodyOf 7) Tryz.func7 (by kernel_rfl) (by kernel_rfl) (by kernel_rfl) (by kernel_rfl) envN_ok hm (by kernel_rfl) (fun x r h => ⟨F, (t_conciergelaw19_Small x F).trans h⟩)
theorem mo_conciergelaw19_Small_l0 {F F' : Nat} (h : F ≤ F') : ∀ v, Le (M_conciergelaw19_Small_l0 F v) (M_conciergelaw19_Small_l0 F' v) := by
  intro v
  unfold M_conciergelaw19_Small_l0
  with_reducible repeat (first | (intro v) | exact Le.refl _ | exact h | apply Le.bind | apply Le.ite | apply Le.loop | apply Le.sumC)
theorem mo_conciergelaw19_Small {F F' : Nat} (h : F ≤ F') : ∀ v, Le (M_conciergelaw19_Small F v) (M_conciergelaw19_Small F' v) := by
  intro v
  unfold M_conciergelaw19_Small
  with_reducible repeat (first | (intro v) | exact Le.refl _ | exact h | exact mo_conciergelaw19_Small_l0 h | exact mo_conciergelaw19_Small_l0 h _ | apply Le.bind | apply Le.ite | apply Le.loop | apply Le.sumC)
noncomputable def s_conciergelaw19_sorted : Spec Kd := { params := [(.a (.slc .en))], ret := (.one (.a (.slc .en))), pins := [], pl := { nt := 17, loops := [(0, ⟨[.tmp 3 (.a (.slc .en)), .tmp 6 (.a (.slc .en)), .tmp 7 (.a (.int .i64)), .tmp 8 (.a (.int .i64))], [896], []⟩, (.exit 0, ⟨[.tmp 3 (.a (.slc .en))], [896], []⟩), [])] }, rfrz := [], ts := [2] }
noncomputable def e_conciergelaw19_sorted (F : Nat) : Env El := (envS 23 (conOf TT s_conciergeref15_Put (M_conciergeref15_Put F)) envN)
/-- concierge/conciergelaw19.sorted -/
noncomputable def M_conciergelaw19_sorted_l0 (F : Nat) (v0 : (List (Int × List UInt8 × Int × Int × Int × Int × List UInt8 × Int × Int × Int × List UInt8 × List UInt8 × List UInt8 × List UInt8 × Unit) ×
        List (Int × List UInt8 × Int × Int × Int × Int × List UInt8 × Int × Int × Int × List UInt8 × List UInt8 × List UInt8 × List UInt8 × Unit) ×
          Int × Int × Unit)) : Option ((List (Int × List UInt8 × Int × Int × Int × Int × List UInt8 × Int × Int × Int × List UInt8 × List UInt8 × List UInt8 × List UInt8 × Unit) ×
        List (Int × List UInt8 × Int × Int × Int × Int × List UInt8 × Int × Int × Int × List UInt8 × List UInt8 × List UInt8 × List UInt8 × Unit) ×
          Int × Int × Unit) ⊕ (List (Int × List UInt8 × Int × Int × Int × Int × List UInt8 × Int × Int × Int × List UInt8 × List UInt8 × List UInt8 × List UInt8 × Unit) × Unit)) :=
  if decide (v0.2.2.2.1 < v0.2.2.1) = true then
          (idx v0.2.1 v0.2.2.2.1).bind
            fun (v1 : Int × List UInt8 × Int × Int × Int × Int × List UInt8 × Int × Int × Int × List UInt8 × List UInt8 × List UInt8 × List UInt8 × PUnit) =>
            (M_conciergeref15_Put F (v0.1, v1)).bind
              fun
                (v2 :
                  List (Int × List UInt8 × Int × Int × Int × Int × List UInt8 × Int × Int × Int × List UInt8 × List UInt8 × List UInt8 × List UInt8 × PUnit)) =>
              some (Sum.inl (v2, v0.2.1, v0.2.2.1, IntKind.i64.wrap (v0.2.2.2.1 + 1), ()))
        else some (Sum.inr (v0.1, ()))
noncomputable def M_conciergelaw19_sorted (F : Nat) (x : (List (El .en))) : Option (List (El .en)) :=
  (loopM (M_conciergelaw19_sorted_l0 F)
        F ([], x, (↑x.length : Int), 0, ())).bind
    fun
      (v3 : List (Int × List UInt8 × Int × Int × Int × Int × List UInt8 × Int × Int × Int × List UInt8 × List UInt8 × List UInt8 × List UInt8 × Unit) × Unit) =>
    some v3.1
theorem t_conciergelaw19_sorted (x : (List (El .en))) (F : Nat) : fnRun TT Tryz.prog (e_conciergelaw19_sorted F) s_conciergelaw19_sorted (bodyOf 8) F x = M_conciergelaw19_sorted F x := by kernel_rfl
theorem c_conciergelaw19_sorted (F : Nat) : Ctr TT Tryz.prog 8 (conOf TT s_conciergelaw19_sorted (M_conciergelaw19_sorted F)) :=
  ctr_of (code := bodyOf 8) Tryz.func8 (by kernel_rfl) (by kernel_rfl) (by kernel_rfl) (by kernel_rfl) (envS_ok envN_ok (c_conciergeref15_Put F)) hm (by kernel_rfl) (fun x r h => ⟨F, (t_conciergelaw19_sorted x F).trans h⟩)
theorem mo_conciergelaw19_sorted_l0 {F F' : Nat} (h : F ≤ F') : ∀ v, Le (M_conciergelaw19_sorted_l0 F v) (M_conciergelaw19_sorted_l0 F' v) := by
  intro v
  unfold M_conciergelaw19_sorted_l0
  with_reducible repeat (first | (intro v) | exact Le.refl _ | exact h | exact mo_conciergeref15_Put h _ | apply Le.bind | apply Le.ite | apply Le.loop | apply Le.sumC)
theorem mo_conciergelaw19_sorted {F F' : Nat} (h : F ≤ F') : ∀ v, Le (M_conciergelaw19_sorted F v) (M_conciergelaw19_sorted F' v) := by
  intro v
  unfold M_conciergelaw19_sorted
  with_reducible repeat (first | (intro v) | exact Le.refl _ | exact h | exact mo_conciergeref15_Put h _ | exact mo_conciergelaw19_sorted_l0 h | exact mo_conciergelaw19_sorted_l0 h _ | apply Le.bind | apply Le.ite | apply Le.loop | apply Le.sumC)
noncomputable def s_conciergelaw19_SnapBack : Spec Kd := { params := [(.a (.slc .en)), (.a (.int .i64))], ret := (.one (.a .bool)), pins := [], pl := { nt := 81, bjoins := [(1, (.norm, ⟨[.tmp 1 (.a (.int .i64)), .tmp 20 (.a (.slc .ens)), .tmp 21 (.a (.int .i64)), .tmp 22 (.a (.int .i64))], [2817], []⟩), [(.ret, ⟨[.tmp 4 (.a .bool)], [2817], []⟩)])], loops := [(0, ⟨[.tmp 1 (.a (.int .i64)), .tmp 20 (.a (.slc .ens)), .tmp 21 (.a (.int .i64)), .tmp 22 (.a (.int .i64))], [2817], []⟩, (.exit 0, ⟨[], [2817], []⟩), [(.ret, ⟨[.tmp 4 (.a .bool)], [2817], []⟩)])], cuts := [(13, [(9, ⟨[.tmp 1 (.a (.int .i64)), .tmp 6 (.a (.slc .en)), .tmp 7 (.a .str), .tmp 9 (.a (.slc .en)), .tmp 10 (.a (.int .i64)), .tmp 11 (.a (.int .i64)), .tmp 20 (.a (.slc .ens)), .tmp 21 (.a (.int .i64)), .tmp 22 (.a (.int .i64)), .tmp 56 (.a .bool)], [2817], []⟩), (8, ⟨[.tmp 1 (.a (.int .i64)), .tmp 6 (.a (.slc .en)), .tmp 9 (.a (.slc .en)), .tmp 10 (.a (.int .i64)), .tmp 11 (.a (.int .i64)), .tmp 20 (.a (.slc .ens)), .tmp 21 (.a (.int .i64)), .tmp 22 (.a (.int .i64)), .tmp 64 (.a .bool)], [2817], []⟩), (4, ⟨[.tmp 1 (.a (.int .i64)), .tmp 6 (.a (.slc .en)), .tmp 9 (.a (.slc .en)), .tmp 10 (.a (.int .i64)), .tmp 20 (.a (.slc .ens)), .tmp 21 (.a (.int .i64)), .tmp 22 (.a (.int .i64)), .tmp 68 (.a .bool)], [2817], []⟩), (5, ⟨[.tmp 1 (.a (.int .i64)), .tmp 6 (.a (.slc .en)), .tmp 9 (.a (.slc .en)), .tmp 20 (.a (.slc .ens)), .tmp 21 (.a (.int .i64)), .tmp 22 (.a (.int .i64)), .tmp 73 (.a .bool)], [2817], []⟩), (6, ⟨[.tmp 1 (.a (.int .i64)), .tmp 20 (.a (.slc .ens)), .tmp 21 (.a (.int .i64)), .tmp 22 (.a (.int .i64)), .tmp 79 (.a .bool)], [2817], []⟩)]), (10, [(6, ⟨[.tmp 1 (.a (.int .i64)), .tmp 20 (.a (.slc .ens)), .tmp 21 (.a (.int .i64)), .tmp 22 (.a (.int .i64)), .tmp 41 (.a .bool)], [2817], []⟩)])] }, rfrz := [], ts := [4] }
noncomputable def e_conciergelaw19_SnapBack (F : Nat) : Env El := (envS 14 (conOf TT s_conciergeref15_Same (M_conciergeref15_Same F)) (envS 13 (conOf TT s_snap_Need (M_snap_Need F)) (envS 12 (conOf TT s_conciergeref19_Write (M_conciergeref19_Write F)) (envS 11 (conOf TT s_snap_Read (M_snap_Read F)) (envS 10 (conOf TT s_conciergeref19_May (M_conciergeref19_May F)) (envS 9 (conOf TT s_snap_Write (M_snap_Write F)) (envS 8 (conOf TT s_conciergelaw19_sorted (M_conciergelaw19_sorted F)) (envS 7 (conOf TT s_conciergelaw19_Small (M_conciergelaw19_Small F)) (envS 6 (conOf TT s_conciergelaw19_awake (M_conciergelaw19_awake F)) envN)))))))))
/-- concierge/conciergelaw19.SnapBack -/
noncomputable def M_conciergelaw19_SnapBack_l0 (F : Nat) (v3 : (Int ×
                  List
                      (List
                          (Int ×
                            List UInt8 × Int × Int × Int × Int × List UInt8 × Int × Int × Int × List UInt8 × List UInt8 × List UInt8 × List UInt8 × Unit) ×
                        Unit) ×
                    Int × Int × Unit)) : Option ((Int ×
                  List
                      (List
                          (Int ×
                            List UInt8 × Int × Int × Int × Int × List UInt8 × Int × Int × Int × List UInt8 × List UInt8 × List UInt8 × List UInt8 × Unit) ×
                        Unit) ×
                    Int × Int × Unit) ⊕ (Unit ⊕ Bool × Unit)) :=
  if decide (v3.2.2.2.1 < v3.2.2.1) = true then
                    ((idx v3.2.1 v3.2.2.2.1).bind
                          fun
                            (v4 :
                              List
                                  (Int ×
                                    List UInt8 ×
                                      Int × Int × Int × Int × List UInt8 × Int × Int × Int × List UInt8 × List UInt8 × List UInt8 × List UInt8 × PUnit) ×
                                PUnit) =>
                          (M_snap_Write F (v4.1, v3.1)).bind fun (v5 : List UInt8 × Int) =>
                            (M_conciergeref19_May F (v4.1, v3.1)).bind fun (v6 : Bool) =>
                              if (!v6) = true then
                                (if (!decide (v5.2 = 1)) = false then some (v3.1, v3.2.1, v3.2.2.1, v3.2.2.2.1, !decide (v5.1 = []), ())
                                    else some (v3.1, v3.2.1, v3.2.2.1, v3.2.2.2.1, true, ())).bind
                                  fun
                                    (v7 :
                                      Int ×
                                        List
                                            (List
                                                (Int ×
                                                  List UInt8 ×
                                                    Int ×
                                                      Int ×
                                                        Int × Int × List UInt8 × Int × Int × Int × List UInt8 × List UInt8 × List UInt8 × List UInt8 × PUnit) ×
                                              PUnit) ×
                                          Int × Int × Bool × PUnit) =>
                                  if v7.2.2.2.2.1 = true then some (Sum.inr (false, ())) else some (Sum.inl (v7.1, v7.2.1, v7.2.2.1, v7.2.2.2.1, ()))
                              else
                                (M_snap_Read F v5.1).bind
                                  fun
                                    (v8 :
                                      List
                                          (Int ×
                                            List UInt8 ×
                                              Int ×
                                                Int × Int × Int × List UInt8 × Int × Int × Int × List UInt8 × List UInt8 × List UInt8 × List UInt8 × PUnit) ×
                                        Int × Int) =>
                                  (if (!decide (v5.2 = 0)) = false then
                                        (M_conciergeref19_Write F (v4.1, v3.1)).bind fun (v9 : List UInt8) =>
                                          some (v3.1, v4.1, v5.1, v8.1, v8.2.1, v8.2.2, v3.2.1, v3.2.2.1, v3.2.2.2.1, !decide (v5.1 = v9), ())
                                      else some (v3.1, v4.1, v5.1, v8.1, v8.2.1, v8.2.2, v3.2.1, v3.2.2.1, v3.2.2.2.1, true, ())).bind
                                    fun
                                      (v10 :
                                        Int ×
                                          List
                                              (Int ×
                                                List UInt8 ×
                                                  Int ×
                                                    Int ×
                                                      Int × Int × List UInt8 × Int × Int × Int × List UInt8 × List UInt8 × List UInt8 × List UInt8 × PUnit) ×
                                            List UInt8 ×
                                              List
                                                  (Int ×
                                                    List UInt8 ×
                                                      Int ×
                                                        Int ×
                                                          Int ×
                                                            Int × List UInt8 × Int × Int × Int × List UInt8 × List UInt8 × List UInt8 × List UInt8 × PUnit) ×
                                                Int ×
                                                  Int ×
                                                    List
                                                        (List
                                                            (Int ×
                                                              List UInt8 ×
                                                                Int ×
                                                                  Int ×
                                                                    Int ×
                                                                      Int ×
                                                                        List UInt8 ×
                                                                          Int × Int × Int × List UInt8 × List UInt8 × List UInt8 × List UInt8 × PUnit) ×
                                                          PUnit) ×
                                                      Int × Int × Bool × PUnit) =>
                                    (if v10.2.2.2.2.2.2.2.2.2.1 = false then
                                          (M_snap_Need F (↑v10.2.1.length : Int)).bind fun (v11 : Int) =>
                                            some
                                              (v10.1, v10.2.1, v10.2.2.2.1, v10.2.2.2.2.1, v10.2.2.2.2.2.1, v10.2.2.2.2.2.2.1, v10.2.2.2.2.2.2.2.1,
                                                v10.2.2.2.2.2.2.2.2.1, decide (v11 < (↑v10.2.2.1.length : Int)), ())
                                        else
                                          some
                                            (v10.1, v10.2.1, v10.2.2.2.1, v10.2.2.2.2.1, v10.2.2.2.2.2.1, v10.2.2.2.2.2.2.1, v10.2.2.2.2.2.2.2.1,
                                              v10.2.2.2.2.2.2.2.2.1, true, ())).bind
                                      fun
                                        (v12 :
                                          Int ×
                                            List
                                                (Int ×
                                                  List UInt8 ×
                                                    Int ×
                                                      Int ×
                                                        Int × Int × List UInt8 × Int × Int × Int × List UInt8 × List UInt8 × List UInt8 × List UInt8 × PUnit) ×
                                              List
                                                  (Int ×
                                                    List UInt8 ×
                                                      Int ×
                                                        Int ×
                                                          Int ×
                                                            Int × List UInt8 × Int × Int × Int × List UInt8 × List UInt8 × List UInt8 × List UInt8 × PUnit) ×
                                                Int ×
                                                  Int ×
                                                    List
                                                        (List
                                                            (Int ×
                                                              List UInt8 ×
                                                                Int ×
                                                                  Int ×
                                                                    Int ×
                                                                      Int ×
                                                                        List UInt8 ×
                                                                          Int × Int × Int × List UInt8 × List UInt8 × List UInt8 × List UInt8 × PUnit) ×
                                                          PUnit) ×
                                                      Int × Int × Bool × PUnit) =>
                                      (if v12.2.2.2.2.2.2.2.2.1 = false then
                                            some
                                              (v12.1, v12.2.1, v12.2.2.1, v12.2.2.2.1, v12.2.2.2.2.2.1, v12.2.2.2.2.2.2.1, v12.2.2.2.2.2.2.2.1,
                                                !decide (v12.2.2.2.2.1 = 0), ())
                                          else
                                            some
                                              (v12.1, v12.2.1, v12.2.2.1, v12.2.2.2.1, v12.2.2.2.2.2.1, v12.2.2.2.2.2.2.1, v12.2.2.2.2.2.2.2.1, true, ())).bind
                                        fun
                                          (v13 :
                                            Int ×
                                              List
                                                  (Int ×
                                                    List UInt8 ×
                                                      Int ×
                                                        Int ×
                                                          Int ×
                                                            Int × List UInt8 × Int × Int × Int × List UInt8 × List UInt8 × List UInt8 × List UInt8 × PUnit) ×
                                                List
                                                    (Int ×
                                                      List UInt8 ×
                                                        Int ×
                                                          Int ×
                                                            Int ×
                                                              Int × List UInt8 × Int × Int × Int × List UInt8 × List UInt8 × List UInt8 × List UInt8 × PUnit) ×
                                                  Int ×
                                                    List
                                                        (List
                                                            (Int ×
                                                              List UInt8 ×
                                                                Int ×
                                                                  Int ×
                                                                    Int ×
                                                                      Int ×
                                                                        List UInt8 ×
                                                                          Int × Int × Int × List UInt8 × List UInt8 × List UInt8 × List UInt8 × PUnit) ×
                                                          PUnit) ×
                                                      Int × Int × Bool × PUnit) =>
                                        (if v13.2.2.2.2.2.2.2.1 = false then
                                              some
                                                (v13.1, v13.2.1, v13.2.2.1, v13.2.2.2.2.1, v13.2.2.2.2.2.1, v13.2.2.2.2.2.2.1, !decide (v13.2.2.2.1 = v13.1),
                                                  ())
                                            else some (v13.1, v13.2.1, v13.2.2.1, v13.2.2.2.2.1, v13.2.2.2.2.2.1, v13.2.2.2.2.2.2.1, true, ())).bind
                                          fun
                                            (v14 :
                                              Int ×
                                                List
                                                    (Int ×
                                                      List UInt8 ×
                                                        Int ×
                                                          Int ×
                                                            Int ×
                                                              Int × List UInt8 × Int × Int × Int × List UInt8 × List UInt8 × List UInt8 × List UInt8 × PUnit) ×
                                                  List
                                                      (Int ×
                                                        List UInt8 ×
                                                          Int ×
                                                            Int ×
                                                              Int ×
                                                                Int ×
                                                                  List UInt8 × Int × Int × Int × List UInt8 × List UInt8 × List UInt8 × List UInt8 × PUnit) ×
                                                    List
                                                        (List
                                                            (Int ×
                                                              List UInt8 ×
                                                                Int ×
                                                                  Int ×
                                                                    Int ×
                                                                      Int ×
                                                                        List UInt8 ×
                                                                          Int × Int × Int × List UInt8 × List UInt8 × List UInt8 × List UInt8 × PUnit) ×
                                                          PUnit) ×
                                                      Int × Int × Bool × PUnit) =>
                                          (if v14.2.2.2.2.2.2.1 = false then
                                                (M_conciergeref15_Same F (v14.2.2.1, v14.2.1)).bind fun (v15 : Bool) =>
                                                  some (v14.1, v14.2.2.2.1, v14.2.2.2.2.1, v14.2.2.2.2.2.1, !v15, ())
                                              else some (v14.1, v14.2.2.2.1, v14.2.2.2.2.1, v14.2.2.2.2.2.1, true, ())).bind
                                            fun
                                              (v16 :
                                                Int ×
                                                  List
                                                      (List
                                                          (Int ×
                                                            List UInt8 ×
                                                              Int ×
                                                                Int ×
                                                                  Int ×
                                                                    Int ×
                                                                      List UInt8 ×
                                                                        Int × Int × Int × List UInt8 × List UInt8 × List UInt8 × List UInt8 × PUnit) ×
                                                        PUnit) ×
                                                    Int × Int × Bool × PUnit) =>
                                            if v16.2.2.2.2.1 = true then some (Sum.inr (false, ()))
                                            else some (Sum.inl (v16.1, v16.2.1, v16.2.2.1, v16.2.2.2.1, ()))).bind
                      fun
                        (v17 :
                          Int ×
                              List
                                  (List
                                      (Int ×
                                        List UInt8 ×
                                          Int × Int × Int × Int × List UInt8 × Int × Int × Int × List UInt8 × List UInt8 × List UInt8 × List UInt8 × PUnit) ×
                                    PUnit) ×
                                Int × Int × PUnit ⊕
                            Bool × PUnit) =>
                      sumC v17
                        (fun
                            (v18 :
                              Int ×
                                List
                                    (List
                                        (Int ×
                                          List UInt8 ×
                                            Int × Int × Int × Int × List UInt8 × Int × Int × Int × List UInt8 × List UInt8 × List UInt8 × List UInt8 × PUnit) ×
                                      PUnit) ×
                                  Int × Int × PUnit) =>
                          some (Sum.inl (v18.1, v18.2.1, v18.2.2.1, IntKind.i64.wrap (v18.2.2.2.1 + 1), ())))
                        fun (v19 : Bool × PUnit) => some (Sum.inr (Sum.inr (v19.1, ())))
                  else some (Sum.inr (Sum.inl ()))
noncomputable def M_conciergelaw19_SnapBack (F : Nat) (x : (List (El .en)) × (Int)) : Option (Bool) :=
  (M_conciergelaw19_awake F ()).bind fun (v0 : Bool) =>
    if (!v0) = true then some false
    else
      (M_conciergelaw19_Small F (x.1, 30)).bind fun (v1 : Bool) =>
        if (!v1) = true then some true
        else
          (M_conciergelaw19_sorted F x.1).bind
            fun
              (v2 : List (Int × List UInt8 × Int × Int × Int × Int × List UInt8 × Int × Int × Int × List UInt8 × List UInt8 × List UInt8 × List UInt8 × Unit)) =>
            (loopM (M_conciergelaw19_SnapBack_l0 F)
                  F (x.2, [(x.1, Unit.unit), (v2, Unit.unit)], (↑[(x.1, Unit.unit), (v2, Unit.unit)].length : Int), 0, ())).bind
              fun (v20 : Unit ⊕ Bool × Unit) => sumC v20 (fun (v21 : Unit) => some true) fun (v22 : Bool × Unit) => some v22.1
theorem t_conciergelaw19_SnapBack (x : (List (El .en)) × (Int)) (F : Nat) : fnRun TT Tryz.prog (e_conciergelaw19_SnapBack F) s_conciergelaw19_SnapBack (bodyOf 3) F x = M_conciergelaw19_SnapBack F x := by kernel_rfl
theorem c_conciergelaw19_SnapBack (F : Nat) : Ctr TT Tryz.prog 3 (conOf TT s_conciergelaw19_SnapBack (M_conciergelaw19_SnapBack F)) :=
  ctr_of (code := bodyOf 3) Tryz.func3 (by kernel_rfl) (by kernel_rfl) (by kernel_rfl) (by kernel_rfl) (envS_ok (envS_ok (envS_ok (envS_ok (envS_ok (envS_ok (envS_ok (envS_ok (envS_ok envN_ok (c_conciergelaw19_awake F)) (c_conciergelaw19_Small F)) (c_conciergelaw19_sorted F)) (c_snap_Write F)) (c_conciergeref19_May F)) (c_snap_Read F)) (c_conciergeref19_Write F)) (c_snap_Need F)) (c_conciergeref15_Same F)) hm (by kernel_rfl) (fun x r h => ⟨F, (t_conciergelaw19_SnapBack x F).trans h⟩)
theorem mo_conciergelaw19_SnapBack_l0 {F F' : Nat} (h : F ≤ F') : ∀ v, Le (M_conciergelaw19_SnapBack_l0 F v) (M_conciergelaw19_SnapBack_l0 F' v) := by
  intro v
  unfold M_conciergelaw19_SnapBack_l0
  with_reducible repeat (first | (intro v) | exact Le.refl _ | exact h | exact mo_conciergelaw19_awake h _ | exact mo_conciergelaw19_Small h _ | exact mo_conciergelaw19_sorted h _ | exact mo_snap_Write h _ | exact mo_conciergeref19_May h _ | exact mo_snap_Read h _ | exact mo_conciergeref19_Write h _ | exact mo_snap_Need h _ | exact mo_conciergeref15_Same h _ | apply Le.bind | apply Le.ite | apply Le.loop | apply Le.sumC)
theorem mo_conciergelaw19_SnapBack {F F' : Nat} (h : F ≤ F') : ∀ v, Le (M_conciergelaw19_SnapBack F v) (M_conciergelaw19_SnapBack F' v) := by
  intro v
  unfold M_conciergelaw19_SnapBack
  with_reducible repeat (first | (intro v) | exact Le.refl _ | exact h | exact mo_conciergelaw19_awake h _ | exact mo_conciergelaw19_Small h _ | exact mo_conciergelaw19_sorted h _ | exact mo_snap_Write h _ | exact mo_conciergeref19_May h _ | exact mo_snap_Read h _ | exact mo_conciergeref19_Write h _ | exact mo_snap_Need h _ | exact mo_conciergeref15_Same h _ | exact mo_conciergelaw19_SnapBack_l0 h | exact mo_conciergelaw19_SnapBack_l0 h _ | apply Le.bind | apply Le.ite | apply Le.loop | apply Le.sumC)
noncomputable def s_conciergelaw19_SnapAny : Spec Kd := { params := [(.a .str)], ret := (.one (.a .bool)), pins := [], pl := { nt := 39, cuts := [(7, [(8, ⟨[.tmp 3 (.a (.slc .en)), .tmp 6 (.a (.slc .en)), .tmp 33 (.a .bool)], [1025, 1409], []⟩), (5, ⟨[.tmp 38 (.a .bool)], [1025, 1409], []⟩)])] }, rfrz := [], ts := [2] }
noncomputable def e_conciergelaw19_SnapAny (F : Nat) : Env El := (envS 14 (conOf TT s_conciergeref15_Same (M_conciergeref15_Same F)) (envS 15 (conOf TT s_conciergeref19_Read (M_conciergeref19_Read F)) (envS 11 (conOf TT s_snap_Read (M_snap_Read F)) (envS 6 (conOf TT s_conciergelaw19_awake (M_conciergelaw19_awake F)) envN))))
/-- concierge/conciergelaw19.SnapAny -/
noncomputable def M_conciergelaw19_SnapAny (F : Nat) (x : (List UInt8)) : Option (Bool) :=
  (M_conciergelaw19_awake F ()).bind fun (v0 : Bool) =>
    if (!v0) = true then some false
    else
      if decide (1500 < (↑x.length : Int)) = true then some true
      else
        (M_snap_Read F x).bind
          fun
            (v1 :
              List (Int × List UInt8 × Int × Int × Int × Int × List UInt8 × Int × Int × Int × List UInt8 × List UInt8 × List UInt8 × List UInt8 × Unit) ×
                Int × Int) =>
          (M_conciergeref19_Read F x).bind
            fun
              (v2 :
                List (Int × List UInt8 × Int × Int × Int × Int × List UInt8 × Int × Int × Int × List UInt8 × List UInt8 × List UInt8 × List UInt8 × Unit) ×
                  Int × Int) =>
            (if decide (v1.2.2 = v2.2.2) = true then some (v1.1, v2.1, decide (v1.2.1 = v2.2.1), ()) else some (v1.1, v2.1, false, ())).bind
              fun
                (v3 :
                  List (Int × List UInt8 × Int × Int × Int × Int × List UInt8 × Int × Int × Int × List UInt8 × List UInt8 × List UInt8 × List UInt8 × Unit) ×
                    List (Int × List UInt8 × Int × Int × Int × Int × List UInt8 × Int × Int × Int × List UInt8 × List UInt8 × List UInt8 × List UInt8 × Unit) ×
                      Bool × Unit) =>
              (if v3.2.2.1 = true then (M_conciergeref15_Same F (v3.1, v3.2.1)).bind fun (v4 : Bool) => some (v4, ()) else some (false, ())).bind
                fun (v5 : Bool × Unit) => some v5.1
theorem t_conciergelaw19_SnapAny (x : (List UInt8)) (F : Nat) : fnRun TT Tryz.prog (e_conciergelaw19_SnapAny F) s_conciergelaw19_SnapAny (bodyOf 4) F x = M_conciergelaw19_SnapAny F x := by kernel_rfl
theorem c_conciergelaw19_SnapAny (F : Nat) : Ctr TT Tryz.prog 4 (conOf TT s_conciergelaw19_SnapAny (M_conciergelaw19_SnapAny F)) :=
  ctr_of (code := bodyOf 4) Tryz.func4 (by kernel_rfl) (by kernel_rfl) (by kernel_rfl) (by kernel_rfl) (envS_ok (envS_ok (envS_ok (envS_ok envN_ok (c_conciergelaw19_awake F)) (c_snap_Read F)) (c_conciergeref19_Read F)) (c_conciergeref15_Same F)) hm (by kernel_rfl) (fun x r h => ⟨F, (t_conciergelaw19_SnapAny x F).trans h⟩)
theorem mo_conciergelaw19_SnapAny {F F' : Nat} (h : F ≤ F') : ∀ v, Le (M_conciergelaw19_SnapAny F v) (M_conciergelaw19_SnapAny F' v) := by
  intro v
  unfold M_conciergelaw19_SnapAny
  with_reducible repeat (first | (intro v) | exact Le.refl _ | exact h | exact mo_conciergelaw19_awake h _ | exact mo_snap_Read h _ | exact mo_conciergeref19_Read h _ | exact mo_conciergeref15_Same h _ | apply Le.bind | apply Le.ite | apply Le.loop | apply Le.sumC)

end Go.Vm
