/- Models of functions of the program, and that each keeps its contract: for all arguments of its shape. No condition. -/
import Derived.Test.YtblbmkhlnaaopaaKt
import Derived.Test.YtblbmkhlnaaopaaFproof
import Derived.Test.YtblbmkhlnaaopaaFref41
namespace Go.Vm
open Go.Proofs
set_option linter.unusedVariables false
noncomputable def s_conciergelaw41_awake : Spec Kd := { params := [], ret := (.one (.a .bool)), pins := [], pl := { nt := 29, cuts := [(3, [(6, ⟨[.tmp 1 (.a (.slc .str)), .tmp 2 (.a (.slc .str)), .tmp 15 (.a .bool)], [449], []⟩), (6, ⟨[.tmp 1 (.a (.slc .str)), .tmp 2 (.a (.slc .str)), .tmp 21 (.a .bool)], [449], []⟩), (7, ⟨[.tmp 28 (.a .bool)], [449], []⟩)])] }, rfrz := [], ts := [0] }
noncomputable def e_conciergelaw41_awake (F : Nat) : Env El := (envS 31 (conOf TT s_proof_Check (M_proof_Check F)) (envS 27 (conOf TT s_proof_Root (M_proof_Root F)) (envS 28 (conOf TT s_proof_Path (M_proof_Path F)) envN)))
/-- concierge/conciergelaw41.awake -/
noncomputable def M_conciergelaw41_awake (F : Nat) (x : Unit) : Option (Bool) :=
  (M_proof_Path F ([[97], [98], [99]], 2)).bind fun v0 =>
    (if v0.2 = true then some ([[97], [98], [99]], v0.1, decide ((↑v0.1.length : Int) = 1), ()) else some ([[97], [98], [99]], v0.1, false, ())).bind fun v1 =>
      (if v1.2.2.1 = true then (M_proof_Root F v1.1).bind fun v2 => (M_proof_Check F (v2, 3, 2, [99], v1.2.1)).bind fun v3 => some (v1.1, v1.2.1, v3, ())
          else some (v1.1, v1.2.1, false, ())).bind
        fun v4 =>
        (if v4.2.2.1 = true then (M_proof_Root F v4.1).bind fun v5 => (M_proof_Check F (v5, 3, 1, [99], v4.2.1)).bind fun v6 => some (!v6, ())
            else some (false, ())).bind
          fun v7 => some v7.1
theorem t_conciergelaw41_awake (x : Unit) (F : Nat) : fnRun TT Try.prog (e_conciergelaw41_awake F) s_conciergelaw41_awake (bodyOf 25) F x = M_conciergelaw41_awake F x := by kernel_rfl
theorem c_conciergelaw41_awake (F : Nat) : Ctr TT Try.prog 25 (conOf TT s_conciergelaw41_awake (M_conciergelaw41_awake F)) :=
  ctr_of (code := bodyOf 25) Try.func25 (by kernel_rfl) (by kernel_rfl) (by kernel_rfl) (by kernel_rfl) (envS_ok (envS_ok (envS_ok envN_ok (c_proof_Path F)) (c_proof_Root F)) (c_proof_Check F)) hm (by kernel_rfl) (fun x r h => ⟨F, (t_conciergelaw41_awake x F).trans h⟩)
theorem mo_conciergelaw41_awake {F F' : Nat} (h : F ≤ F') : ∀ v, Le (M_conciergelaw41_awake F v) (M_conciergelaw41_awake F' v) := by
  intro v
  unfold M_conciergelaw41_awake
  with_reducible repeat (first | (intro v) | exact Le.refl _ | exact h | exact mo_proof_Path h _ | exact mo_proof_Root h _ | exact mo_proof_Check h _ | apply Le.bind | apply Le.ite | apply Le.loop | apply Le.sumC)
noncomputable def s_conciergelaw41_small : Spec Kd := { params := [(.a (.slc .str)), (.a (.int .i64))], ret := (.one (.a .bool)), pins := [], pl := { nt := 21, loops := [(0, ⟨[.tmp 11 (.a (.slc .str)), .tmp 12 (.a (.int .i64)), .tmp 13 (.a (.int .i64))], [], []⟩, (.exit 0, ⟨[], [], []⟩), [(.ret, ⟨[.tmp 4 (.a .bool)], [], []⟩)])] }, rfrz := [], ts := [4] }
noncomputable def e_conciergelaw41_small (F : Nat) : Env El := envN
/-- concierge/conciergelaw41.small -/
noncomputable def M_conciergelaw41_small_l0 (F : Nat) (v0 : (List (List UInt8) × Int × Int × Unit)) : Option ((List (List UInt8) × Int × Int × Unit) ⊕ (Unit ⊕ Bool × Unit)) :=
  if decide (v0.2.2.1 < v0.2.1) = true then
            (idx v0.1 v0.2.2.1).bind fun v1 =>
              if decide (60 < (↑v1.length : Int)) = true then some (Sum.inr (Sum.inr (false, ())))
              else some (Sum.inl (v0.1, v0.2.1, IntKind.i64.wrap (v0.2.2.1 + 1), ()))
          else some (Sum.inr (Sum.inl ()))
noncomputable def M_conciergelaw41_small (F : Nat) (x : (List (El .str)) × (Int)) : Option (Bool) :=
  if decide (x.2 < (↑x.1.length : Int)) = true then some false
  else
    (loopM (M_conciergelaw41_small_l0 F)
          F (x.1, (↑x.1.length : Int), 0, ())).bind
      fun v2 => sumC v2 (fun v3 => some true) fun v4 => some v4.1
theorem t_conciergelaw41_small (x : (List (El .str)) × (Int)) (F : Nat) : fnRun TT Try.prog (e_conciergelaw41_small F) s_conciergelaw41_small (bodyOf 26) F x = M_conciergelaw41_small F x := by kernel_rfl
theorem c_conciergelaw41_small (F : Nat) : Ctr TT Try.prog 26 (conOf TT s_conciergelaw41_small (M_conciergelaw41_small F)) :=
  ctr_of (code := bodyOf 26) Try.func26 (by kernel_rfl) (by kernel_rfl) (by kernel_rfl) (by kernel_rfl) envN_ok hm (by kernel_rfl) (fun x r h => ⟨F, (t_conciergelaw41_small x F).trans h⟩)
theorem mo_conciergelaw41_small_l0 {F F' : Nat} (h : F ≤ F') : ∀ v, Le (M_conciergelaw41_small_l0 F v) (M_conciergelaw41_small_l0 F' v) := by
  intro v
  unfold M_conciergelaw41_small_l0
  with_reducible repeat (first | (intro v) | exact Le.refl _ | exact h | apply Le.bind | apply Le.ite | apply Le.loop | apply Le.sumC)
theorem mo_conciergelaw41_small {F F' : Nat} (h : F ≤ F') : ∀ v, Le (M_conciergelaw41_small F v) (M_conciergelaw41_small F' v) := by
  intro v
  unfold M_conciergelaw41_small
  with_reducible repeat (first | (intro v) | exact Le.refl _ | exact h | exact mo_conciergelaw41_small_l0 h | exact mo_conciergelaw41_small_l0 h _ | apply Le.bind | apply Le.ite | apply Le.loop | apply Le.sumC)
noncomputable def s_conciergelaw41_ProofPaths : Spec Kd := { params := [(.a (.slc .str)), (.a (.int .i64))], ret := (.one (.a .bool)), pins := [], pl := { nt := 77, loops := [(0, ⟨[.tmp 0 (.a (.slc .str)), .tmp 1 (.a (.int .i64)), .tmp 5 (.a .str), .tmp 6 (.a (.slc .str)), .tmp 8 (.a (.slc .str)), .tmp 53 (.a (.int .i64)), .tmp 54 (.a (.int .i64))], [1281, 2944], []⟩, (.exit 0, ⟨[.tmp 0 (.a (.slc .str)), .tmp 1 (.a (.int .i64)), .tmp 5 (.a .str), .tmp 6 (.a (.slc .str))], [1281, 2944], []⟩), [(.ret, ⟨[.tmp 4 (.a .bool)], [1281, 2944], []⟩)])], cuts := [(20, [(11, ⟨[.tmp 4 (.a .bool)], [1281, 2944], []⟩)]), (7, [(16, ⟨[.tmp 0 (.a (.slc .str)), .tmp 1 (.a (.int .i64)), .tmp 5 (.a .str), .tmp 6 (.a (.slc .str)), .tmp 7 (.a .bool), .tmp 38 (.a .bool)], [1281, 2944], []⟩)])], ends := [(17, ⟨[.tmp 0 (.a (.slc .str)), .tmp 1 (.a (.int .i64)), .tmp 5 (.a .str), .tmp 6 (.a (.slc .str)), .tmp 8 (.a (.slc .str)), .tmp 53 (.a (.int .i64)), .tmp 54 (.a (.int .i64)), .tmp 65 (.a .bool)], [1281, 2944], []⟩)] }, rfrz := [], ts := [4] }
noncomputable def e_conciergelaw41_ProofPaths (F : Nat) : Env El := (envS 31 (conOf TT s_proof_Check (M_proof_Check F)) (envS 30 (conOf TT s_conciergeref41_Path (M_conciergeref41_Path F)) (envS 29 (conOf TT s_conciergeref41_Root (M_conciergeref41_Root F)) (envS 28 (conOf TT s_proof_Path (M_proof_Path F)) (envS 27 (conOf TT s_proof_Root (M_proof_Root F)) (envS 26 (conOf TT s_conciergelaw41_small (M_conciergelaw41_small F)) (envS 25 (conOf TT s_conciergelaw41_awake (M_conciergelaw41_awake F)) envN)))))))
/-- concierge/conciergelaw41.ProofPaths -/
noncomputable def M_conciergelaw41_ProofPaths_l0 (F : Nat) (v7 : (List (List UInt8) × Int × List UInt8 × List (List UInt8) × List (List UInt8) × Int × Int × Unit)) : Option ((List (List UInt8) × Int × List UInt8 × List (List UInt8) × List (List UInt8) × Int × Int × Unit) ⊕ (List (List UInt8) × Int × List UInt8 × List (List UInt8) × Unit ⊕ Bool × Unit)) :=
  if decide (v7.2.2.2.2.2.2.1 < v7.2.2.2.2.2.1) = true then
                                ((idx v7.2.2.2.1 v7.2.2.2.2.2.2.1).bind fun v8 =>
                                      (idx v7.2.2.2.2.1 v7.2.2.2.2.2.2.1).bind fun v9 =>
                                        some (v7.1, v7.2.1, v7.2.2.1, v7.2.2.2.1, v7.2.2.2.2.1, v7.2.2.2.2.2.1, v7.2.2.2.2.2.2.1, !decide (v8 = v9), ())).bind
                                  fun v10 =>
                                  if v10.2.2.2.2.2.2.2.1 = true then some (Sum.inr (Sum.inr (false, ())))
                                  else
                                    some
                                      (Sum.inl
                                        (v10.1, v10.2.1, v10.2.2.1, v10.2.2.2.1, v10.2.2.2.2.1, v10.2.2.2.2.2.1, IntKind.i64.wrap (v10.2.2.2.2.2.2.1 + 1), ()))
                              else some (Sum.inr (Sum.inl (v7.1, v7.2.1, v7.2.2.1, v7.2.2.2.1, ())))
noncomputable def M_conciergelaw41_ProofPaths (F : Nat) (x : (List (El .str)) × (Int)) : Option (Bool) :=
  (M_conciergelaw41_awake F ()).bind fun v0 =>
    if (!v0) = true then some false
    else
      (M_conciergelaw41_small F (x.1, 40)).bind fun v1 =>
        if (!v1) = true then some true
        else
          (M_proof_Root F x.1).bind fun v2 =>
            (M_proof_Path F (x.1, x.2)).bind fun v3 =>
              ((M_conciergeref41_Root F x.1).bind fun v4 =>
                    if (!decide (v2 = v4)) = false then
                      if decide (0 ≤ x.2) = true then some (x.1, x.2, v2, v3.1, v3.2, !v3.2 == decide (x.2 < (↑x.1.length : Int)), ())
                      else some (x.1, x.2, v2, v3.1, v3.2, !v3.2 == false, ())
                    else some (x.1, x.2, v2, v3.1, v3.2, true, ())).bind
                fun v5 =>
                if v5.2.2.2.2.2.1 = true then some false
                else
                  if (!v5.2.2.2.2.1) = true then some (decide ((↑v5.2.2.2.1.length : Int) = 0))
                  else
                    (M_conciergeref41_Path F (v5.1, v5.2.1)).bind fun v6 =>
                      if (!decide ((↑v5.2.2.2.1.length : Int) = (↑v6.length : Int))) = true then some false
                      else
                        (loopM (M_conciergelaw41_ProofPaths_l0 F)
                              F (v5.1, v5.2.1, v5.2.2.1, v5.2.2.2.1, v6, (↑v5.2.2.2.1.length : Int), 0, ())).bind
                          fun v11 =>
                          sumC v11
                            (fun v12 =>
                              ((idx v12.1 v12.2.1).bind fun v13 =>
                                    (M_proof_Check F (v12.2.2.1, (↑v12.1.length : Int), v12.2.1, v13, v12.2.2.2.1)).bind fun v14 => some (v14, ())).bind
                                fun v15 => some v15.1)
                            fun v16 => some v16.1
theorem t_conciergelaw41_ProofPaths (x : (List (El .str)) × (Int)) (F : Nat) : fnRun TT Try.prog (e_conciergelaw41_ProofPaths F) s_conciergelaw41_ProofPaths (bodyOf 6) F x = M_conciergelaw41_ProofPaths F x := by kernel_rfl
theorem c_conciergelaw41_ProofPaths (F : Nat) : Ctr TT Try.prog 6 (conOf TT s_conciergelaw41_ProofPaths (M_conciergelaw41_ProofPaths F)) :=
  ctr_of (code := bodyOf 6) Try.func6 (by kernel_rfl) (by kernel_rfl) (by kernel_rfl) (by kernel_rfl) (envS_ok (envS_ok (envS_ok (envS_ok (envS_ok (envS_ok (envS_ok envN_ok (c_conciergelaw41_awake F)) (c_conciergelaw41_small F)) (c_proof_Root F)) (c_proof_Path F)) (c_conciergeref41_Root F)) (c_conciergeref41_Path F)) (c_proof_Check F)) hm (by kernel_rfl) (fun x r h => ⟨F, (t_conciergelaw41_ProofPaths x F).trans h⟩)
theorem mo_conciergelaw41_ProofPaths_l0 {F F' : Nat} (h : F ≤ F') : ∀ v, Le (M_conciergelaw41_ProofPaths_l0 F v) (M_conciergelaw41_ProofPaths_l0 F' v) := by
  intro v
  unfold M_conciergelaw41_ProofPaths_l0
  with_reducible repeat (first | (intro v) | exact Le.refl _ | exact h | exact mo_conciergelaw41_awake h _ | exact mo_conciergelaw41_small h _ | exact mo_proof_Root h _ | exact mo_proof_Path h _ | exact mo_conciergeref41_Root h _ | exact mo_conciergeref41_Path h _ | exact mo_proof_Check h _ | apply Le.bind | apply Le.ite | apply Le.loop | apply Le.sumC)
theorem mo_conciergelaw41_ProofPaths {F F' : Nat} (h : F ≤ F') : ∀ v, Le (M_conciergelaw41_ProofPaths F v) (M_conciergelaw41_ProofPaths F' v) := by
  intro v
  unfold M_conciergelaw41_ProofPaths
  with_reducible repeat (first | (intro v) | exact Le.refl _ | exact h | exact mo_conciergelaw41_awake h _ | exact mo_conciergelaw41_small h _ | exact mo_proof_Root h _ | exact mo_proof_Path h _ | exact mo_conciergeref41_Root h _ | exact mo_conciergeref41_Path h _ | exact mo_proof_Check h _ | exact mo_conciergelaw41_ProofPaths_l0 h | exact mo_conciergelaw41_ProofPaths_l0 h _ | apply Le.bind | apply Le.ite | apply Le.loop | apply Le.sumC)
noncomputable def s_conciergelaw41_ProofChecks : Spec Kd := { params := [(.a .str), (.a (.arr 2 .i64)), (.a (.slc .str))], ret := (.one (.a .bool)), pins := [], pl := { nt := 45, cuts := [(3, [(8, ⟨[.tmp 0 (.a .str), .tmp 2 (.a (.slc .str)), .tmp 4 (.a (.ptr 256 0)), .tmp 16 (.a .bool), .box 256 (.arr 45 2 .i64)], [], []⟩), (5, ⟨[.tmp 0 (.a .str), .tmp 2 (.a (.slc .str)), .tmp 4 (.a (.ptr 256 0)), .tmp 21 (.a .bool), .box 256 (.arr 45 2 .i64)], [], []⟩)])], ends := [(5, ⟨[.tmp 6 (.a .bool)], [], []⟩)] }, rfrz := [], ts := [6] }
noncomputable def e_conciergelaw41_ProofChecks (F : Nat) : Env El := (envS 32 (conOf TT s_conciergeref41_Check (M_conciergeref41_Check F)) (envS 31 (conOf TT s_proof_Check (M_proof_Check F)) (envS 26 (conOf TT s_conciergelaw41_small (M_conciergelaw41_small F)) (envS 25 (conOf TT s_conciergelaw41_awake (M_conciergelaw41_awake F)) envN))))
/-- concierge/conciergelaw41.ProofChecks -/
noncomputable def M_conciergelaw41_ProofChecks (F : Nat) (x : (List UInt8) × (List (El .i64)) × (List (El .str))) : Option (Bool) :=
  (M_conciergelaw41_awake F ()).bind fun v0 =>
    if (!v0) = true then some false
    else
      (if decide (60 < (↑x.1.length : Int)) = false then (M_conciergelaw41_small F (x.2.2, 31)).bind fun v1 => some (x.1, x.2.2, (), !v1, x.2.1, ())
          else some (x.1, x.2.2, (), true, x.2.1, ())).bind
        fun v2 =>
        (if v2.2.2.2.1 = false then some (v2.1, v2.2.1, (), decide ((↑v2.2.1.length : Int) = 0), v2.2.2.2.2.1, ())
            else some (v2.1, v2.2.1, (), true, v2.2.2.2.2.1, ())).bind
          fun v3 =>
          if v3.2.2.2.1 = true then some true
          else
            ((anth v3.2.2.2.2.1 0).bind fun v4 =>
                  (anth v3.2.2.2.2.1 1).bind fun v5 =>
                    (idx v3.2.1 0).bind fun v6 =>
                      (sub v3.2.1 1 (↑v3.2.1.length : Int)).bind fun v7 =>
                        (M_proof_Check F (v3.1, v4, v5, v6, v7)).bind fun v8 =>
                          (anth v3.2.2.2.2.1 0).bind fun v9 =>
                            (anth v3.2.2.2.2.1 1).bind fun v10 =>
                              (idx v3.2.1 0).bind fun v11 =>
                                (sub v3.2.1 1 (↑v3.2.1.length : Int)).bind fun v12 =>
                                  (M_conciergeref41_Check F (v3.1, v9, v10, v11, v12)).bind fun v13 => some (v8 == v13, ())).bind
              fun v14 => some v14.1
theorem t_conciergelaw41_ProofChecks (x : (List UInt8) × (List (El .i64)) × (List (El .str))) (F : Nat) : fnRun TT Try.prog (e_conciergelaw41_ProofChecks F) s_conciergelaw41_ProofChecks (bodyOf 7) F x = M_conciergelaw41_ProofChecks F x := by kernel_rfl
theorem c_conciergelaw41_ProofChecks (F : Nat) : Ctr TT Try.prog 7 (conOf TT s_conciergelaw41_ProofChecks (M_conciergelaw41_ProofChecks F)) :=
  ctr_of (code := bodyOf 7) Try.func7 (by kernel_rfl) (by kernel_rfl) (by kernel_rfl) (by kernel_rfl) (envS_ok (envS_ok (envS_ok (envS_ok envN_ok (c_conciergelaw41_awake F)) (c_conciergelaw41_small F)) (c_proof_Check F)) (c_conciergeref41_Check F)) hm (by kernel_rfl) (fun x r h => ⟨F, (t_conciergelaw41_ProofChecks x F).trans h⟩)
theorem mo_conciergelaw41_ProofChecks {F F' : Nat} (h : F ≤ F') : ∀ v, Le (M_conciergelaw41_ProofChecks F v) (M_conciergelaw41_ProofChecks F' v) := by
  intro v
  unfold M_conciergelaw41_ProofChecks
  with_reducible repeat (first | (intro v) | exact Le.refl _ | exact h | exact mo_conciergelaw41_awake h _ | exact mo_conciergelaw41_small h _ | exact mo_proof_Check h _ | exact mo_conciergeref41_Check h _ | apply Le.bind | apply Le.ite | apply Le.loop | apply Le.sumC)
noncomputable def s_conciergelaw41_ProofBinds : Spec Kd := { params := [(.a (.arr 2 .i64)), (.a (.slc .str)), (.a (.slc .str))], ret := (.one (.a .bool)), pins := [], pl := { nt := 163, loops := [(0, ⟨[.tmp 9 (.a (.slc .str)), .tmp 10 (.a (.slc .str)), .tmp 130 (.a (.int .i64)), .tmp 131 (.a (.int .i64))], [], []⟩, (.exit 0, ⟨[], [], []⟩), [(.ret, ⟨[.tmp 6 (.a .bool)], [], []⟩)])], ends := [(13, ⟨[.tmp 9 (.a (.slc .str)), .tmp 10 (.a (.slc .str)), .tmp 130 (.a (.int .i64)), .tmp 131 (.a (.int .i64)), .tmp 161 (.a .bool)], [], []⟩), (9, ⟨[.tmp 9 (.a (.slc .str)), .tmp 10 (.a (.slc .str))], [], []⟩), (8, ⟨[.tmp 6 (.a .bool)], [], []⟩), (7, ⟨[.tmp 1 (.a (.slc .str)), .tmp 2 (.a (.slc .str)), .tmp 3 (.a (.ptr 192 0)), .tmp 7 (.a .str), .tmp 8 (.a .str), .tmp 93 (.a .bool), .box 192 (.arr 45 2 .i64)], [], []⟩), (5, ⟨[.tmp 1 (.a (.slc .str)), .tmp 2 (.a (.slc .str)), .tmp 3 (.a (.ptr 192 0)), .tmp 7 (.a .str), .box 192 (.arr 45 2 .i64)], [], []⟩), (3, ⟨[.tmp 1 (.a (.slc .str)), .tmp 2 (.a (.slc .str)), .tmp 3 (.a (.ptr 192 0)), .tmp 62 (.a .bool), .box 192 (.arr 45 2 .i64)], [], []⟩)] }, rfrz := [], ts := [6] }
noncomputable def e_conciergelaw41_ProofBinds (F : Nat) : Env El := (envS 37 (conOf TT s_conciergeref03_Sum (M_conciergeref03_Sum F)) (envS 36 (conOf TT s_conciergeref41_Tops (M_conciergeref41_Tops F)) (envS 31 (conOf TT s_proof_Check (M_proof_Check F)) (envS 35 (conOf TT s_conciergeref41_Seal (M_conciergeref41_Seal F)) (envS 33 (conOf TT s_conciergeref41_Climb (M_conciergeref41_Climb F)) (envS 34 (conOf TT s_conciergeref41_Leaf (M_conciergeref41_Leaf F)) (envS 26 (conOf TT s_conciergelaw41_small (M_conciergelaw41_small F)) (envS 25 (conOf TT s_conciergelaw41_awake (M_conciergelaw41_awake F)) envN))))))))
/-- concierge/conciergelaw41.ProofBinds -/
noncomputable def M_conciergelaw41_ProofBinds_l0 (F : Nat) (v43 : (List (List UInt8) × List (List UInt8) × Int × Int × Unit)) : Option ((List (List UInt8) × List (List UInt8) × Int × Int × Unit) ⊕ (Unit ⊕ Bool × Unit)) :=
  if decide (v43.2.2.2.1 < v43.2.2.1) = true then
                              (if decide (v43.2.2.2.1 < (↑v43.2.1.length : Int)) = true then
                                    (idx v43.1 v43.2.2.2.1).bind fun v44 =>
                                      (idx v43.2.1 v43.2.2.2.1).bind fun v45 =>
                                        if (!decide (v44 = v45)) = true then
                                          (idx v43.1 v43.2.2.2.1).bind fun v46 =>
                                            (M_conciergeref03_Sum F v46).bind fun v47 =>
                                              (idx v43.2.1 v43.2.2.2.1).bind fun v48 =>
                                                (M_conciergeref03_Sum F v48).bind fun v49 =>
                                                  some (v43.1, v43.2.1, v43.2.2.1, v43.2.2.2.1, decide (v47 = v49), ())
                                        else some (v43.1, v43.2.1, v43.2.2.1, v43.2.2.2.1, false, ())
                                  else some (v43.1, v43.2.1, v43.2.2.1, v43.2.2.2.1, false, ())).bind
                                fun v50 =>
                                if v50.2.2.2.2.1 = true then some (Sum.inr (Sum.inr (true, ())))
                                else some (Sum.inl (v50.1, v50.2.1, v50.2.2.1, IntKind.i64.wrap (v50.2.2.2.1 + 1), ()))
                            else some (Sum.inr (Sum.inl ()))
noncomputable def M_conciergelaw41_ProofBinds (F : Nat) (x : (List (El .i64)) × (List (El .str)) × (List (El .str))) : Option (Bool) :=
  (M_conciergelaw41_awake F ()).bind fun v0 =>
    if (!v0) = true then some false
    else
      ((M_conciergelaw41_small F (x.2.1, 21)).bind fun v1 =>
            if (!v1) = false then
              (M_conciergelaw41_small F (x.2.2, 21)).bind fun v2 =>
                if (!v2) = false then
                  if decide ((↑x.2.1.length : Int) = 0) = false then
                    if decide ((↑x.2.2.length : Int) = 0) = false then
                      (idx x.2.1 0).bind fun v3 =>
                        (idx x.2.2 0).bind fun v4 =>
                          if decide (v3 = v4) = false then
                            (anth x.1 0).bind fun v5 =>
                              if decide (v5 < 1) = false then
                                (anth x.1 0).bind fun v6 =>
                                  if decide (1048576 < v6) = false then
                                    (anth x.1 1).bind fun v7 =>
                                      if decide (v7 < 0) = false then
                                        (anth x.1 1).bind fun v8 => (anth x.1 0).bind fun v9 => some (x.2.1, x.2.2, (), decide (v9 ≤ v8), x.1, ())
                                      else some (x.2.1, x.2.2, (), true, x.1, ())
                                  else some (x.2.1, x.2.2, (), true, x.1, ())
                              else some (x.2.1, x.2.2, (), true, x.1, ())
                          else some (x.2.1, x.2.2, (), true, x.1, ())
                    else some (x.2.1, x.2.2, (), true, x.1, ())
                  else some (x.2.1, x.2.2, (), true, x.1, ())
                else some (x.2.1, x.2.2, (), true, x.1, ())
            else some (x.2.1, x.2.2, (), true, x.1, ())).bind
        fun v10 =>
        if v10.2.2.2.1 = true then some true
        else
          ((anth v10.2.2.2.2.1 0).bind fun v11 =>
                (anth v10.2.2.2.2.1 1).bind fun v12 =>
                  (idx v10.1 0).bind fun v13 =>
                    (M_conciergeref41_Leaf F v13).bind fun v14 =>
                      (sub v10.1 1 (↑v10.1.length : Int)).bind fun v15 =>
                        (M_conciergeref41_Climb F (v11, v12, v14, v15)).bind fun v16 => some (v10.1, v10.2.1, (), v16, v10.2.2.2.2.1, ())).bind
            fun v17 =>
            (anth v17.2.2.2.2.1 0).bind fun v18 =>
              (M_conciergeref41_Seal F (v18, v17.2.2.2.1)).bind fun v19 =>
                (if decide (v17.2.2.2.1 = []) = false then
                      (anth v17.2.2.2.2.1 0).bind fun v20 =>
                        (anth v17.2.2.2.2.1 1).bind fun v21 =>
                          (idx v17.2.1 0).bind fun v22 =>
                            (sub v17.2.1 1 (↑v17.2.1.length : Int)).bind fun v23 =>
                              (M_proof_Check F (v19, v20, v21, v22, v23)).bind fun v24 => some (v17.1, v17.2.1, (), v17.2.2.2.1, v19, !v24, v17.2.2.2.2.1, ())
                    else some (v17.1, v17.2.1, (), v17.2.2.2.1, v19, true, v17.2.2.2.2.1, ())).bind
                  fun v25 =>
                  if v25.2.2.2.2.2.1 = true then
                    (if decide (v25.2.2.2.1 = []) = false then
                          (anth v25.2.2.2.2.2.2.1 0).bind fun v26 =>
                            (anth v25.2.2.2.2.2.2.1 1).bind fun v27 =>
                              (idx v25.1 0).bind fun v28 =>
                                (sub v25.1 1 (↑v25.1.length : Int)).bind fun v29 =>
                                  (M_proof_Check F (v25.2.2.2.2.1, v26, v27, v28, v29)).bind fun v30 => some (v30, ())
                        else some (true, ())).bind
                      fun v31 => some v31.1
                  else
                    ((anth v25.2.2.2.2.2.2.1 0).bind fun v32 =>
                          (anth v25.2.2.2.2.2.2.1 1).bind fun v33 =>
                            (idx v25.1 0).bind fun v34 =>
                              (sub v25.1 1 (↑v25.1.length : Int)).bind fun v35 =>
                                (M_conciergeref41_Tops F (v32, v33, v34, v35)).bind fun v36 =>
                                  (anth v25.2.2.2.2.2.2.1 0).bind fun v37 =>
                                    (anth v25.2.2.2.2.2.2.1 1).bind fun v38 =>
                                      (idx v25.2.1 0).bind fun v39 =>
                                        (sub v25.2.1 1 (↑v25.2.1.length : Int)).bind fun v40 =>
                                          (M_conciergeref41_Tops F (v37, v38, v39, v40)).bind fun v41 => some (v36, v41, ())).bind
                      fun v42 =>
                      (loopM (M_conciergelaw41_ProofBinds_l0 F)
                            F (v42.1, v42.2.1, (↑v42.1.length : Int), 0, ())).bind
                        fun v51 => sumC v51 (fun v52 => some false) fun v53 => some v53.1
theorem t_conciergelaw41_ProofBinds (x : (List (El .i64)) × (List (El .str)) × (List (El .str))) (F : Nat) : fnRun TT Try.prog (e_conciergelaw41_ProofBinds F) s_conciergelaw41_ProofBinds (bodyOf 8) F x = M_conciergelaw41_ProofBinds F x := by kernel_rfl
theorem c_conciergelaw41_ProofBinds (F : Nat) : Ctr TT Try.prog 8 (conOf TT s_conciergelaw41_ProofBinds (M_conciergelaw41_ProofBinds F)) :=
  ctr_of (code := bodyOf 8) Try.func8 (by kernel_rfl) (by kernel_rfl) (by kernel_rfl) (by kernel_rfl) (envS_ok (envS_ok (envS_ok (envS_ok (envS_ok (envS_ok (envS_ok (envS_ok envN_ok (c_conciergelaw41_awake F)) (c_conciergelaw41_small F)) (c_conciergeref41_Leaf F)) (c_conciergeref41_Climb F)) (c_conciergeref41_Seal F)) (c_proof_Check F)) (c_conciergeref41_Tops F)) (c_conciergeref03_Sum F)) hm (by kernel_rfl) (fun x r h => ⟨F, (t_conciergelaw41_ProofBinds x F).trans h⟩)
theorem mo_conciergelaw41_ProofBinds_l0 {F F' : Nat} (h : F ≤ F') : ∀ v, Le (M_conciergelaw41_ProofBinds_l0 F v) (M_conciergelaw41_ProofBinds_l0 F' v) := by
  intro v
  unfold M_conciergelaw41_ProofBinds_l0
  with_reducible repeat (first | (intro v) | exact Le.refl _ | exact h | exact mo_conciergelaw41_awake h _ | exact mo_conciergelaw41_small h _ | exact mo_conciergeref41_Leaf h _ | exact mo_conciergeref41_Climb h _ | exact mo_conciergeref41_Seal h _ | exact mo_proof_Check h _ | exact mo_conciergeref41_Tops h _ | exact mo_conciergeref03_Sum h _ | apply Le.bind | apply Le.ite | apply Le.loop | apply Le.sumC)
theorem mo_conciergelaw41_ProofBinds {F F' : Nat} (h : F ≤ F') : ∀ v, Le (M_conciergelaw41_ProofBinds F v) (M_conciergelaw41_ProofBinds F' v) := by
  intro v
  unfold M_conciergelaw41_ProofBinds
  with_reducible repeat (first | (intro v) | exact Le.refl _ | exact h | exact mo_conciergelaw41_awake h _ | exact mo_conciergelaw41_small h _ | exact mo_conciergeref41_Leaf h _ | exact mo_conciergeref41_Climb h _ | exact mo_conciergeref41_Seal h _ | exact mo_proof_Check h _ | exact mo_conciergeref41_Tops h _ | exact mo_conciergeref03_Sum h _ | exact mo_conciergelaw41_ProofBinds_l0 h | exact mo_conciergelaw41_ProofBinds_l0 h _ | apply Le.bind | apply Le.ite | apply Le.loop | apply Le.sumC)

end Go.Vm
