/- Models of functions of the program, and that each keeps its contract: for all arguments of its shape. No condition. -/
import Derived.Test.YtmbnnjpdpginlaaGreatDoorKt
import Derived.Test.YtmbnnjpdpginlaaGreatDoorFshow
import Derived.Test.YtmbnnjpdpginlaaGreatDoorFref41
import Derived.Test.YtmbnnjpdpginlaaGreatDoorFref14
import Derived.Test.YtmbnnjpdpginlaaGreatDoorFsmall
namespace Go.Vm
open Go.Proofs
set_option linter.unusedVariables false
noncomputable def s_conciergelaw41_awake : Spec Kd := { params := [], ret := (.one (.a .bool)), pins := [], pl := { nt := 29, cuts := [(3, [(6, ⟨[.tmp 1 (.a (.slc .str)), .tmp 2 (.a (.slc .str)), .tmp 15 (.a .bool)], [449], []⟩), (6, ⟨[.tmp 1 (.a (.slc .str)), .tmp 2 (.a (.slc .str)), .tmp 21 (.a .bool)], [449], []⟩), (7, ⟨[.tmp 28 (.a .bool)], [449], []⟩)])] }, rfrz := [], ts := [0] }
noncomputable def e_conciergelaw41_awake (F : Nat) : Env El := (envS 22 (conOf TT s_proof_Check (M_proof_Check F)) (envS 45 (conOf TT s_proof_Root (M_proof_Root F)) (envS 44 (conOf TT s_proof_Path (M_proof_Path F)) envN)))
/-- concierge/conciergelaw41.awake -/
noncomputable def M_conciergelaw41_awake (F : Nat) (x : Unit) : Option (Bool) :=
  (M_proof_Path F ([[97], [98], [99]], 2)).bind fun (v0 : List (List UInt8) × Bool) =>
    (if v0.2 = true then some ([[97], [98], [99]], v0.1, decide ((↑v0.1.length : Int) = 1), ()) else some ([[97], [98], [99]], v0.1, false, ())).bind
      fun (v1 : List (List UInt8) × List (List UInt8) × Bool × Unit) =>
      (if v1.2.2.1 = true then
            (M_proof_Root F v1.1).bind fun (v2 : List UInt8) => (M_proof_Check F (v2, 3, 2, [99], v1.2.1)).bind fun (v3 : Bool) => some (v1.1, v1.2.1, v3, ())
          else some (v1.1, v1.2.1, false, ())).bind
        fun (v4 : List (List UInt8) × List (List UInt8) × Bool × Unit) =>
        (if v4.2.2.1 = true then
              (M_proof_Root F v4.1).bind fun (v5 : List UInt8) => (M_proof_Check F (v5, 3, 1, [99], v4.2.1)).bind fun (v6 : Bool) => some (!v6, ())
            else some (false, ())).bind
          fun (v7 : Bool × Unit) => some v7.1
theorem t_conciergelaw41_awake (x : Unit) (F : Nat) : fnRun TT Tryz.prog (e_conciergelaw41_awake F) s_conciergelaw41_awake (bodyOf 16) F x = M_conciergelaw41_awake F x := by kernel_rfl
theorem c_conciergelaw41_awake (F : Nat) : Ctr TT Tryz.prog 16 (conOf TT s_conciergelaw41_awake (M_conciergelaw41_awake F)) :=
  ctr_of (code := bodyOf 16) Tryz.func16 (by kernel_rfl) (by kernel_rfl) (by kernel_rfl) (by kernel_rfl) (envS_ok (envS_ok (envS_ok envN_ok (c_proof_Path F)) (c_proof_Root F)) (c_proof_Check F)) hm (by kernel_rfl) (fun x r h => ⟨F, (t_conciergelaw41_awake x F).trans h⟩)
theorem mo_conciergelaw41_awake {F F' : Nat} (h : F ≤ F') : ∀ v, Le (M_conciergelaw41_awake F v) (M_conciergelaw41_awake F' v) := by
  intro v
  unfold M_conciergelaw41_awake
  with_reducible repeat (first | (intro v) | exact Le.refl _ | exact h | exact mo_proof_Path h _ | exact mo_proof_Root h _ | exact mo_proof_Check h _ | apply Le.bind | apply Le.ite | apply Le.loop | apply Le.sumC)
noncomputable def s_conciergelaw41_ProofEntries : Spec Kd := { params := [(.a (.slc .en)), (.a (.int .i64)), (.a .str)], ret := (.one (.a .bool)), pins := [], pl := { nt := 132, orc := { rv := [7, 39, 43], gv := [] }, bjoins := [(1, (.norm, ⟨[.tmp 0 (.a (.slc .en)), .tmp 1 (.a (.int .i64)), .tmp 2 (.a .str), .tmp 7 (.a (.rowp 448)), .tmp 8 (.a (.int .i64)), .tmp 9 (.a .bool), .tmp 27 (.a (.slc .en)), .tmp 28 (.a (.int .i64)), .tmp 29 (.a (.int .i64)), .box 448 (.row 9 .str)], [], [.tmpRow 7 448 9 .str]⟩), [])], loops := [(0, ⟨[.tmp 0 (.a (.slc .en)), .tmp 1 (.a (.int .i64)), .tmp 2 (.a .str), .tmp 7 (.a (.rowp 448)), .tmp 8 (.a (.int .i64)), .tmp 9 (.a .bool), .tmp 27 (.a (.slc .en)), .tmp 28 (.a (.int .i64)), .tmp 29 (.a (.int .i64)), .box 448 (.row 9 .str)], [], [.tmpRow 7 448 9 .str]⟩, (.exit 0, ⟨[.tmp 0 (.a (.slc .en)), .tmp 1 (.a (.int .i64)), .tmp 2 (.a .str), .tmp 7 (.a (.rowp 448)), .tmp 8 (.a (.int .i64)), .tmp 9 (.a .bool), .box 448 (.row 9 .str)], [], [.tmpRow 7 448 9 .str]⟩), [])], cuts := [(24, [(15, ⟨[.tmp 131 (.a .bool)], [], []⟩)]), (23, [(7, ⟨[.tmp 116 (.a .bool)], [], []⟩)]), (20, [(8, ⟨[.tmp 0 (.a (.slc .en)), .tmp 7 (.a (.rowp 448)), .tmp 8 (.a (.int .i64)), .tmp 12 (.a .str), .tmp 14 (.a (.int .i64)), .tmp 15 (.a (.slc .str)), .tmp 16 (.a .bool), .tmp 101 (.a .bool), .box 448 (.row 9 .str)], [], [.tmpRow 7 448 9 .str]⟩), (6, ⟨[.tmp 0 (.a (.slc .en)), .tmp 7 (.a (.rowp 448)), .tmp 8 (.a (.int .i64)), .tmp 12 (.a .str), .tmp 14 (.a (.int .i64)), .tmp 15 (.a (.slc .str)), .tmp 16 (.a .bool), .tmp 107 (.a .bool), .box 448 (.row 9 .str)], [], [.tmpRow 7 448 9 .str]⟩)]), (19, [(6, ⟨[.tmp 14 (.a (.int .i64)), .tmp 15 (.a (.slc .str)), .tmp 16 (.a .bool), .tmp 80 (.a .bool)], [], []⟩), (4, ⟨[.tmp 15 (.a (.slc .str)), .tmp 16 (.a .bool), .tmp 84 (.a .bool)], [], []⟩), (5, ⟨[.tmp 16 (.a .bool), .tmp 89 (.a .bool)], [], []⟩), (4, ⟨[.tmp 93 (.a .bool)], [], []⟩)]), (17, [(11, ⟨[.tmp 0 (.a (.slc .en)), .tmp 7 (.a (.rowp 448)), .tmp 8 (.a (.int .i64)), .tmp 9 (.a .bool), .tmp 12 (.a .str), .tmp 13 (.a (.int .i64)), .tmp 14 (.a (.int .i64)), .tmp 15 (.a (.slc .str)), .tmp 16 (.a .bool), .box 448 (.row 9 .str)], [], [.tmpRow 7 448 9 .str]⟩)]), (13, [(8, ⟨[.tmp 0 (.a (.slc .en)), .tmp 1 (.a (.int .i64)), .tmp 2 (.a .str), .tmp 7 (.a (.rowp 448)), .tmp 8 (.a (.int .i64)), .tmp 9 (.a .bool), .tmp 10 (.a (.int .i64)), .tmp 11 (.a (.ptr 704 0)), .tmp 27 (.a (.slc .en)), .tmp 28 (.a (.int .i64)), .tmp 29 (.a (.int .i64)), .tmp 51 (.a .bool), .box 448 (.row 9 .str), .box 704 (.cells 40 [(.int .i64), .str, (.int .i64), (.int .i64), (.int .i64), (.int .i64), .str, (.int .i64), (.int .i64), (.int .i64), .str, .str, .str, .str])], [], [.tmpRow 7 448 9 .str]⟩), (6, ⟨[.tmp 0 (.a (.slc .en)), .tmp 1 (.a (.int .i64)), .tmp 2 (.a .str), .tmp 7 (.a (.rowp 448)), .tmp 8 (.a (.int .i64)), .tmp 9 (.a .bool), .tmp 10 (.a (.int .i64)), .tmp 27 (.a (.slc .en)), .tmp 28 (.a (.int .i64)), .tmp 29 (.a (.int .i64)), .tmp 57 (.a .bool), .box 448 (.row 9 .str)], [], [.tmpRow 7 448 9 .str]⟩)]), (11, [(5, ⟨[.tmp 0 (.a (.slc .en)), .tmp 1 (.a (.int .i64)), .tmp 2 (.a .str), .tmp 7 (.a (.rowp 448)), .tmp 8 (.a (.int .i64)), .tmp 10 (.a (.int .i64)), .tmp 11 (.a (.ptr 704 0)), .tmp 27 (.a (.slc .en)), .tmp 28 (.a (.int .i64)), .tmp 29 (.a (.int .i64)), .tmp 38 (.a .bool), .box 448 (.row 9 .str), .box 704 (.cells 40 [(.int .i64), .str, (.int .i64), (.int .i64), (.int .i64), (.int .i64), .str, (.int .i64), (.int .i64), (.int .i64), .str, .str, .str, .str])], [], [.tmpRow 7 448 9 .str]⟩)]), (3, [(8, ⟨[.tmp 0 (.a (.slc .en)), .tmp 1 (.a (.int .i64)), .tmp 2 (.a .str), .tmp 26 (.a .bool)], [], []⟩)])] }, rfrz := [], ts := [6] }
noncomputable def e_conciergelaw41_ProofEntries (F : Nat) : Env El := (envS 22 (conOf TT s_proof_Check (M_proof_Check F)) (envS 21 (conOf TT s_conciergeref41_Root (M_conciergeref41_Root F)) (envS 20 (conOf TT s_proof_Show (M_proof_Show F)) (envS 19 (conOf TT s_proof_Entries (M_proof_Entries F)) (envS 18 (conOf TT s_conciergeref14_Bytes (M_conciergeref14_Bytes F)) (envS 17 (conOf TT s_conciergeref14_May (M_conciergeref14_May F)) (envS 7 (conOf TT s_conciergelaw19_Small (M_conciergelaw19_Small F)) (envS 16 (conOf TT s_conciergelaw41_awake (M_conciergelaw41_awake F)) envN))))))))
/-- concierge/conciergelaw41.ProofEntries -/
noncomputable def M_conciergelaw41_ProofEntries_l0 (F : Nat) (v3 : (List (Int × List UInt8 × Int × Int × Int × Int × List UInt8 × Int × Int × Int × List UInt8 × List UInt8 × List UInt8 × List UInt8 × Unit) ×
                Int ×
                  List UInt8 ×
                    Unit ×
                      Int ×
                        Bool ×
                          List
                              (Int ×
                                List UInt8 × Int × Int × Int × Int × List UInt8 × Int × Int × Int × List UInt8 × List UInt8 × List UInt8 × List UInt8 × Unit) ×
                            Int × Int × List (List UInt8) × Unit)) : Option ((List (Int × List UInt8 × Int × Int × Int × Int × List UInt8 × Int × Int × Int × List UInt8 × List UInt8 × List UInt8 × List UInt8 × Unit) ×
                Int ×
                  List UInt8 ×
                    Unit ×
                      Int ×
                        Bool ×
                          List
                              (Int ×
                                List UInt8 × Int × Int × Int × Int × List UInt8 × Int × Int × Int × List UInt8 × List UInt8 × List UInt8 × List UInt8 × Unit) ×
                            Int × Int × List (List UInt8) × Unit) ⊕ (List (Int × List UInt8 × Int × Int × Int × Int × List UInt8 × Int × Int × Int × List UInt8 × List UInt8 × List UInt8 × List UInt8 × Unit) ×
                Int × List UInt8 × Unit × Int × Bool × List (List UInt8) × Unit)) :=
  if decide (v3.2.2.2.2.2.2.2.2.1 < v3.2.2.2.2.2.2.2.1) = true then
                  ((idx v3.2.2.2.2.2.2.1 v3.2.2.2.2.2.2.2.2.1).bind
                        fun
                          (v4 :
                            Int ×
                              List UInt8 × Int × Int × Int × Int × List UInt8 × Int × Int × Int × List UInt8 × List UInt8 × List UInt8 × List UInt8 × PUnit) =>
                        (if v3.2.2.2.2.2.1 = true then
                              (M_conciergeref14_May F v4).bind fun (v5 : Bool) =>
                                some
                                  (v3.1, v3.2.1, v3.2.2.1, (), v3.2.2.2.2.1, v3.2.2.2.2.2.2.2.2.1, (), v3.2.2.2.2.2.2.1, v3.2.2.2.2.2.2.2.1,
                                    v3.2.2.2.2.2.2.2.2.1, v5, v3.2.2.2.2.2.2.2.2.2.1, v4, ())
                            else
                              some
                                (v3.1, v3.2.1, v3.2.2.1, (), v3.2.2.2.2.1, v3.2.2.2.2.2.2.2.2.1, (), v3.2.2.2.2.2.2.1, v3.2.2.2.2.2.2.2.1, v3.2.2.2.2.2.2.2.2.1,
                                  false, v3.2.2.2.2.2.2.2.2.2.1, v4, ())).bind
                          fun
                            (v6 :
                              List
                                  (Int ×
                                    List UInt8 ×
                                      Int × Int × Int × Int × List UInt8 × Int × Int × Int × List UInt8 × List UInt8 × List UInt8 × List UInt8 × PUnit) ×
                                Int ×
                                  List UInt8 ×
                                    PUnit ×
                                      Int ×
                                        Int ×
                                          PUnit ×
                                            List
                                                (Int ×
                                                  List UInt8 ×
                                                    Int ×
                                                      Int ×
                                                        Int × Int × List UInt8 × Int × Int × Int × List UInt8 × List UInt8 × List UInt8 × List UInt8 × PUnit) ×
                                              Int ×
                                                Int ×
                                                  Bool ×
                                                    List (List UInt8) ×
                                                      (Int ×
                                                          List UInt8 ×
                                                            Int ×
                                                              Int ×
                                                                Int ×
                                                                  Int ×
                                                                    List UInt8 × Int × Int × Int × List UInt8 × List UInt8 × List UInt8 × List UInt8 × PUnit) ×
                                                        PUnit) =>
                          (M_conciergeref14_Bytes F v6.2.2.2.2.2.2.2.2.2.2.2.2.1).bind fun (v7 : List UInt8) =>
                            if decide ((v6.2.2.2.2.2.2.2.2.2.2.2.1.length + [v7].length) * 16 ≤ 140737488355328) = true then
                              (if decide (v6.2.2.2.2.1 < 0) = true then
                                    some
                                      (v6.1, v6.2.1, v6.2.2.1, (), v6.2.2.2.2.1, v6.2.2.2.2.2.2.2.2.2.2.1, v6.2.2.2.2.2.1, (), v6.2.2.2.2.2.2.2.1,
                                        v6.2.2.2.2.2.2.2.2.1, v6.2.2.2.2.2.2.2.2.2.1, decide (v6.2.2.2.2.2.2.2.2.2.2.2.2.1.1 = v6.2.1),
                                        v6.2.2.2.2.2.2.2.2.2.2.2.1 ++ [v7], v6.2.2.2.2.2.2.2.2.2.2.2.2.1, ())
                                  else
                                    some
                                      (v6.1, v6.2.1, v6.2.2.1, (), v6.2.2.2.2.1, v6.2.2.2.2.2.2.2.2.2.2.1, v6.2.2.2.2.2.1, (), v6.2.2.2.2.2.2.2.1,
                                        v6.2.2.2.2.2.2.2.2.1, v6.2.2.2.2.2.2.2.2.2.1, false, v6.2.2.2.2.2.2.2.2.2.2.2.1 ++ [v7], v6.2.2.2.2.2.2.2.2.2.2.2.2.1,
                                        ())).bind
                                fun
                                  (v8 :
                                    List
                                        (Int ×
                                          List UInt8 ×
                                            Int × Int × Int × Int × List UInt8 × Int × Int × Int × List UInt8 × List UInt8 × List UInt8 × List UInt8 × PUnit) ×
                                      Int ×
                                        List UInt8 ×
                                          PUnit ×
                                            Int ×
                                              Bool ×
                                                Int ×
                                                  PUnit ×
                                                    List
                                                        (Int ×
                                                          List UInt8 ×
                                                            Int ×
                                                              Int ×
                                                                Int ×
                                                                  Int ×
                                                                    List UInt8 × Int × Int × Int × List UInt8 × List UInt8 × List UInt8 × List UInt8 × PUnit) ×
                                                      Int ×
                                                        Int ×
                                                          Bool ×
                                                            List (List UInt8) ×
                                                              (Int ×
                                                                  List UInt8 ×
                                                                    Int ×
                                                                      Int ×
                                                                        Int ×
                                                                          Int ×
                                                                            List UInt8 ×
                                                                              Int × Int × Int × List UInt8 × List UInt8 × List UInt8 × List UInt8 × PUnit) ×
                                                                PUnit) =>
                                (if v8.2.2.2.2.2.2.2.2.2.2.2.1 = true then
                                      some
                                        (v8.1, v8.2.1, v8.2.2.1, (), v8.2.2.2.2.1, v8.2.2.2.2.2.1, v8.2.2.2.2.2.2.1, v8.2.2.2.2.2.2.2.2.1,
                                          v8.2.2.2.2.2.2.2.2.2.1, v8.2.2.2.2.2.2.2.2.2.2.1, decide (v8.2.2.2.2.2.2.2.2.2.2.2.2.2.1.2.1 = v8.2.2.1),
                                          v8.2.2.2.2.2.2.2.2.2.2.2.2.1, ())
                                    else
                                      some
                                        (v8.1, v8.2.1, v8.2.2.1, (), v8.2.2.2.2.1, v8.2.2.2.2.2.1, v8.2.2.2.2.2.2.1, v8.2.2.2.2.2.2.2.2.1,
                                          v8.2.2.2.2.2.2.2.2.2.1, v8.2.2.2.2.2.2.2.2.2.2.1, false, v8.2.2.2.2.2.2.2.2.2.2.2.2.1, ())).bind
                                  fun
                                    (v9 :
                                      List
                                          (Int ×
                                            List UInt8 ×
                                              Int ×
                                                Int × Int × Int × List UInt8 × Int × Int × Int × List UInt8 × List UInt8 × List UInt8 × List UInt8 × PUnit) ×
                                        Int ×
                                          List UInt8 ×
                                            PUnit ×
                                              Int ×
                                                Bool ×
                                                  Int ×
                                                    List
                                                        (Int ×
                                                          List UInt8 ×
                                                            Int ×
                                                              Int ×
                                                                Int ×
                                                                  Int ×
                                                                    List UInt8 × Int × Int × Int × List UInt8 × List UInt8 × List UInt8 × List UInt8 × PUnit) ×
                                                      Int × Int × Bool × List (List UInt8) × PUnit) =>
                                  if v9.2.2.2.2.2.2.2.2.2.2.1 = true then
                                    some
                                      (v9.1, v9.2.1, v9.2.2.1, (), v9.2.2.2.2.2.2.1, v9.2.2.2.2.2.1, v9.2.2.2.2.2.2.2.1, v9.2.2.2.2.2.2.2.2.1,
                                        v9.2.2.2.2.2.2.2.2.2.1, v9.2.2.2.2.2.2.2.2.2.2.2.1, ())
                                  else
                                    some
                                      (v9.1, v9.2.1, v9.2.2.1, (), v9.2.2.2.2.1, v9.2.2.2.2.2.1, v9.2.2.2.2.2.2.2.1, v9.2.2.2.2.2.2.2.2.1,
                                        v9.2.2.2.2.2.2.2.2.2.1, v9.2.2.2.2.2.2.2.2.2.2.2.1, ())
                            else none).bind
                    fun
                      (v10 :
                        List
                            (Int ×
                              List UInt8 × Int × Int × Int × Int × List UInt8 × Int × Int × Int × List UInt8 × List UInt8 × List UInt8 × List UInt8 × PUnit) ×
                          Int ×
                            List UInt8 ×
                              PUnit ×
                                Int ×
                                  Bool ×
                                    List
                                        (Int ×
                                          List UInt8 ×
                                            Int × Int × Int × Int × List UInt8 × Int × Int × Int × List UInt8 × List UInt8 × List UInt8 × List UInt8 × PUnit) ×
                                      Int × Int × List (List UInt8) × PUnit) =>
                    some
                      (Sum.inl
                        (v10.1, v10.2.1, v10.2.2.1, (), v10.2.2.2.2.1, v10.2.2.2.2.2.1, v10.2.2.2.2.2.2.1, v10.2.2.2.2.2.2.2.1,
                          IntKind.i64.wrap (v10.2.2.2.2.2.2.2.2.1 + 1), v10.2.2.2.2.2.2.2.2.2.1, ()))
                else some (Sum.inr (v3.1, v3.2.1, v3.2.2.1, (), v3.2.2.2.2.1, v3.2.2.2.2.2.1, v3.2.2.2.2.2.2.2.2.2.1, ()))
noncomputable def M_conciergelaw41_ProofEntries (F : Nat) (x : (List (El .en)) × (Int) × (List UInt8)) : Option (Bool) :=
  (M_conciergelaw41_awake F ()).bind fun (v0 : Bool) =>
    if (!v0) = true then some false
    else
      ((M_conciergelaw19_Small F (x.1, 20)).bind fun (v1 : Bool) =>
            if (!v1) = false then some (x.1, x.2.1, x.2.2, decide (100 < (↑x.2.2.length : Int)), ()) else some (x.1, x.2.1, x.2.2, true, ())).bind
        fun
          (v2 :
            List (Int × List UInt8 × Int × Int × Int × Int × List UInt8 × Int × Int × Int × List UInt8 × List UInt8 × List UInt8 × List UInt8 × Unit) ×
              Int × List UInt8 × Bool × Unit) =>
        if v2.2.2.2.1 = true then some true
        else
          (loopM (M_conciergelaw41_ProofEntries_l0 F)
                F (v2.1, v2.2.1, v2.2.2.1, (), -1, true, v2.1, (↑v2.1.length : Int), 0, [], ())).bind
            fun
              (v11 :
                List (Int × List UInt8 × Int × Int × Int × Int × List UInt8 × Int × Int × Int × List UInt8 × List UInt8 × List UInt8 × List UInt8 × Unit) ×
                  Int × List UInt8 × Unit × Int × Bool × List (List UInt8) × Unit) =>
            (M_proof_Entries F v11.1).bind fun (v12 : List UInt8 × Int) =>
              ((M_proof_Show F (v11.1, v11.2.1, v11.2.2.1)).bind fun (v13 : Int × List (List UInt8) × Bool) =>
                    some (v11.1, (), v11.2.2.2.2.1, v11.2.2.2.2.2.1, v12.1, v12.2, v13.1, v13.2.1, v13.2.2, v11.2.2.2.2.2.2.1, ())).bind
                fun
                  (v14 :
                    List (Int × List UInt8 × Int × Int × Int × Int × List UInt8 × Int × Int × Int × List UInt8 × List UInt8 × List UInt8 × List UInt8 × Unit) ×
                      Unit × Int × Bool × List UInt8 × Int × Int × List (List UInt8) × Bool × List (List UInt8) × Unit) =>
                if (!v14.2.2.2.1) = true then
                  (if decide (v14.2.2.2.2.1 = []) = true then
                        some (v14.2.2.2.2.2.2.1, v14.2.2.2.2.2.2.2.1, v14.2.2.2.2.2.2.2.2.1, decide (v14.2.2.2.2.2.1 = 1), ())
                      else some (v14.2.2.2.2.2.2.1, v14.2.2.2.2.2.2.2.1, v14.2.2.2.2.2.2.2.2.1, false, ())).bind
                    fun (v15 : Int × List (List UInt8) × Bool × Bool × Unit) =>
                    (if v15.2.2.2.1 = true then some (v15.2.1, v15.2.2.1, decide (v15.1 = 0), ()) else some (v15.2.1, v15.2.2.1, false, ())).bind
                      fun (v16 : List (List UInt8) × Bool × Bool × Unit) =>
                      (if v16.2.2.1 = true then some (v16.2.1, decide ((↑v16.1.length : Int) = 0), ()) else some (v16.2.1, false, ())).bind
                        fun (v17 : Bool × Bool × Unit) =>
                        (if v17.2.1 = true then some (!v17.1, ()) else some (false, ())).bind fun (v18 : Bool × Unit) => some v18.1
                else
                  ((M_conciergeref41_Root F v14.2.2.2.2.2.2.2.2.2.1).bind fun (v19 : List UInt8) =>
                        if (!decide (v14.2.2.2.2.1 = v19)) = false then
                          some
                            (v14.1, (), v14.2.2.1, v14.2.2.2.2.1, v14.2.2.2.2.2.2.1, v14.2.2.2.2.2.2.2.1, v14.2.2.2.2.2.2.2.2.1, !decide (v14.2.2.2.2.2.1 = 0),
                              v14.2.2.2.2.2.2.2.2.2.1, ())
                        else
                          some
                            (v14.1, (), v14.2.2.1, v14.2.2.2.2.1, v14.2.2.2.2.2.2.1, v14.2.2.2.2.2.2.2.1, v14.2.2.2.2.2.2.2.2.1, true, v14.2.2.2.2.2.2.2.2.2.1,
                              ())).bind
                    fun
                      (v20 :
                        List
                            (Int ×
                              List UInt8 × Int × Int × Int × Int × List UInt8 × Int × Int × Int × List UInt8 × List UInt8 × List UInt8 × List UInt8 × Unit) ×
                          Unit × Int × List UInt8 × Int × List (List UInt8) × Bool × Bool × List (List UInt8) × Unit) =>
                    (if v20.2.2.2.2.2.2.2.1 = false then
                          some
                            (v20.1, (), v20.2.2.1, v20.2.2.2.1, v20.2.2.2.2.1, v20.2.2.2.2.2.1, v20.2.2.2.2.2.2.1, !v20.2.2.2.2.2.2.1 == decide (0 ≤ v20.2.2.1),
                              v20.2.2.2.2.2.2.2.2.1, ())
                        else some (v20.1, (), v20.2.2.1, v20.2.2.2.1, v20.2.2.2.2.1, v20.2.2.2.2.2.1, v20.2.2.2.2.2.2.1, true, v20.2.2.2.2.2.2.2.2.1, ())).bind
                      fun
                        (v21 :
                          List
                              (Int ×
                                List UInt8 × Int × Int × Int × Int × List UInt8 × Int × Int × Int × List UInt8 × List UInt8 × List UInt8 × List UInt8 × Unit) ×
                            Unit × Int × List UInt8 × Int × List (List UInt8) × Bool × Bool × List (List UInt8) × Unit) =>
                      if v21.2.2.2.2.2.2.2.1 = true then some false
                      else
                        if (!v21.2.2.2.2.2.2.1) = true then
                          (if decide (v21.2.2.2.2.1 = 0) = true then some (decide ((↑v21.2.2.2.2.2.1.length : Int) = 0), ()) else some (false, ())).bind
                            fun (v22 : Bool × Unit) => some v22.1
                        else
                          (if decide (v21.2.2.2.2.1 = v21.2.2.1) = true then
                                (idx v21.2.2.2.2.2.2.2.2.1 v21.2.2.2.2.1).bind fun (v23 : List UInt8) =>
                                  (M_proof_Check F (v21.2.2.2.1, (↑v21.1.length : Int), v21.2.2.2.2.1, v23, v21.2.2.2.2.2.1)).bind fun (v24 : Bool) =>
                                    some (v24, ())
                              else some (false, ())).bind
                            fun (v25 : Bool × Unit) => some v25.1
theorem t_conciergelaw41_ProofEntries (x : (List (El .en)) × (Int) × (List UInt8)) (F : Nat) : fnRun TT Tryz.prog (e_conciergelaw41_ProofEntries F) s_conciergelaw41_ProofEntries (bodyOf 5) F x = M_conciergelaw41_ProofEntries F x := by kernel_rfl
theorem c_conciergelaw41_ProofEntries (F : Nat) : Ctr TT Tryz.prog 5 (conOf TT s_conciergelaw41_ProofEntries (M_conciergelaw41_ProofEntries F)) :=
  ctr_of (code := bodyOf 5) Tryz.func5 (by kernel_rfl) (by kernel_rfl) (by kernel_rfl) (by kernel_rfl) (envS_ok (envS_ok (envS_ok (envS_ok (envS_ok (envS_ok (envS_ok (envS_ok envN_ok (c_conciergelaw41_awake F)) (c_conciergelaw19_Small F)) (c_conciergeref14_May F)) (c_conciergeref14_Bytes F)) (c_proof_Entries F)) (c_proof_Show F)) (c_conciergeref41_Root F)) (c_proof_Check F)) hm (by kernel_rfl) (fun x r h => ⟨F, (t_conciergelaw41_ProofEntries x F).trans h⟩)
theorem mo_conciergelaw41_ProofEntries_l0 {F F' : Nat} (h : F ≤ F') : ∀ v, Le (M_conciergelaw41_ProofEntries_l0 F v) (M_conciergelaw41_ProofEntries_l0 F' v) := by
  intro v
  unfold M_conciergelaw41_ProofEntries_l0
  with_reducible repeat (first | (intro v) | exact Le.refl _ | exact h | exact mo_conciergelaw41_awake h _ | exact mo_conciergelaw19_Small h _ | exact mo_conciergeref14_May h _ | exact mo_conciergeref14_Bytes h _ | exact mo_proof_Entries h _ | exact mo_proof_Show h _ | exact mo_conciergeref41_Root h _ | exact mo_proof_Check h _ | apply Le.bind | apply Le.ite | apply Le.loop | apply Le.sumC)
theorem mo_conciergelaw41_ProofEntries {F F' : Nat} (h : F ≤ F') : ∀ v, Le (M_conciergelaw41_ProofEntries F v) (M_conciergelaw41_ProofEntries F' v) := by
  intro v
  unfold M_conciergelaw41_ProofEntries
  with_reducible repeat (first | (intro v) | exact Le.refl _ | exact h | exact mo_conciergelaw41_awake h _ | exact mo_conciergelaw19_Small h _ | exact mo_conciergeref14_May h _ | exact mo_conciergeref14_Bytes h _ | exact mo_proof_Entries h _ | exact mo_proof_Show h _ | exact mo_conciergeref41_Root h _ | exact mo_proof_Check h _ | exact mo_conciergelaw41_ProofEntries_l0 h | exact mo_conciergelaw41_ProofEntries_l0 h _ | apply Le.bind | apply Le.ite | apply Le.loop | apply Le.sumC)

end Go.Vm
