/- Models of functions of the program, and that each keeps its contract: for all arguments of its shape. No condition. -/
import Derived.Test.YtblbmkhlnaaopaaKt
import Derived.Test.YtblbmkhlnaaopaaFref3
namespace Go.Vm
open Go.Proofs
set_option linter.unusedVariables false
noncomputable def s_conciergeref01_Num : Spec Kd := { params := [(.a (.int .i64))], ret := (.one (.a .str)), pins := [], pl := { nt := 24, loops := [(0, ⟨[.tmp 0 (.a (.int .i64)), .tmp 3 (.a .str)], [], []⟩, (.exit 0, ⟨[.tmp 3 (.a .str)], [], []⟩), [])] }, rfrz := [], ts := [2] }
noncomputable def e_conciergeref01_Num (F : Nat) : Env El := envN
/-- concierge/conciergeref01.Num -/
noncomputable def M_conciergeref01_Num_l0 (F : Nat) (v0 : (Int × List UInt8 × Unit)) : Option ((Int × List UInt8 × Unit) ⊕ (List UInt8 × Unit)) :=
  if decide (0 < v0.1) = true then
          if decide ([UInt8.ofNat (IntKind.u8.wrap (IntKind.i64.wrap (v0.1.tmod 128 + 128))).toNat].length + v0.2.1.length ≤ 9223372036854775807) = true then
            some (Sum.inl (IntKind.i64.wrap (v0.1.tdiv 128), [UInt8.ofNat (IntKind.u8.wrap (IntKind.i64.wrap (v0.1.tmod 128 + 128))).toNat] ++ v0.2.1, ()))
          else none
        else some (Sum.inr (v0.2.1, ()))
noncomputable def M_conciergeref01_Num (F : Nat) (x : (Int)) : Option (List UInt8) :=
  (loopM (M_conciergeref01_Num_l0 F)
        F (IntKind.i64.wrap (x.tdiv 128), [UInt8.ofNat (IntKind.u8.wrap (x.tmod 128)).toNat], ())).bind
    fun v1 => some v1.1
theorem t_conciergeref01_Num (x : (Int)) (F : Nat) : fnRun TT Try.prog (e_conciergeref01_Num F) s_conciergeref01_Num (bodyOf 58) F x = M_conciergeref01_Num F x := by kernel_rfl
theorem c_conciergeref01_Num (F : Nat) : Ctr TT Try.prog 58 (conOf TT s_conciergeref01_Num (M_conciergeref01_Num F)) :=
  ctr_of (code := bodyOf 58) Try.func58 (by kernel_rfl) (by kernel_rfl) (by kernel_rfl) (by kernel_rfl) envN_ok hm (by kernel_rfl) (fun x r h => ⟨F, (t_conciergeref01_Num x F).trans h⟩)
theorem mo_conciergeref01_Num_l0 {F F' : Nat} (h : F ≤ F') : ∀ v, Le (M_conciergeref01_Num_l0 F v) (M_conciergeref01_Num_l0 F' v) := by
  intro v
  unfold M_conciergeref01_Num_l0
  with_reducible repeat (first | (intro v) | exact Le.refl _ | exact h | apply Le.bind | apply Le.ite | apply Le.loop | apply Le.sumC)
theorem mo_conciergeref01_Num {F F' : Nat} (h : F ≤ F') : ∀ v, Le (M_conciergeref01_Num F v) (M_conciergeref01_Num F' v) := by
  intro v
  unfold M_conciergeref01_Num
  with_reducible repeat (first | (intro v) | exact Le.refl _ | exact h | exact mo_conciergeref01_Num_l0 h | exact mo_conciergeref01_Num_l0 h _ | apply Le.bind | apply Le.ite | apply Le.loop | apply Le.sumC)
noncomputable def s_conciergeref41_Knot : Spec Kd := { params := [(.a .str), (.a .str)], ret := (.one (.a .str)), pins := [], pl := { nt := 10 }, rfrz := [], ts := [4] }
noncomputable def e_conciergeref41_Knot (F : Nat) : Env El := (envS 37 (conOf TT s_conciergeref03_Sum (M_conciergeref03_Sum F)) envN)
/-- concierge/conciergeref41.Knot -/
noncomputable def M_conciergeref41_Knot (F : Nat) (x : (List UInt8) × (List UInt8)) : Option (List UInt8) :=
  if decide ([1].length + x.1.length ≤ 9223372036854775807) = true then
    if decide (([1] ++ x.1).length + x.2.length ≤ 9223372036854775807) = true then (M_conciergeref03_Sum F ([1] ++ x.1 ++ x.2)).bind fun v0 => some v0 else none
  else none
theorem t_conciergeref41_Knot (x : (List UInt8) × (List UInt8)) (F : Nat) : fnRun TT Try.prog (e_conciergeref41_Knot F) s_conciergeref41_Knot (bodyOf 57) F x = M_conciergeref41_Knot F x := by kernel_rfl
theorem c_conciergeref41_Knot (F : Nat) : Ctr TT Try.prog 57 (conOf TT s_conciergeref41_Knot (M_conciergeref41_Knot F)) :=
  ctr_of (code := bodyOf 57) Try.func57 (by kernel_rfl) (by kernel_rfl) (by kernel_rfl) (by kernel_rfl) (envS_ok envN_ok (c_conciergeref03_Sum F)) hm (by kernel_rfl) (fun x r h => ⟨F, (t_conciergeref41_Knot x F).trans h⟩)
theorem mo_conciergeref41_Knot {F F' : Nat} (h : F ≤ F') : ∀ v, Le (M_conciergeref41_Knot F v) (M_conciergeref41_Knot F' v) := by
  intro v
  unfold M_conciergeref41_Knot
  with_reducible repeat (first | (intro v) | exact Le.refl _ | exact h | exact mo_conciergeref03_Sum h _ | apply Le.bind | apply Le.ite | apply Le.loop | apply Le.sumC)
noncomputable def s_conciergeref41_Leaf : Spec Kd := { params := [(.a .str)], ret := (.one (.a .str)), pins := [], pl := { nt := 6 }, rfrz := [], ts := [2] }
noncomputable def e_conciergeref41_Leaf (F : Nat) : Env El := (envS 37 (conOf TT s_conciergeref03_Sum (M_conciergeref03_Sum F)) envN)
/-- concierge/conciergeref41.Leaf -/
noncomputable def M_conciergeref41_Leaf (F : Nat) (x : (List UInt8)) : Option (List UInt8) :=
  if decide ([0].length + x.length ≤ 9223372036854775807) = true then (M_conciergeref03_Sum F ([0] ++ x)).bind fun v0 => some v0 else none
theorem t_conciergeref41_Leaf (x : (List UInt8)) (F : Nat) : fnRun TT Try.prog (e_conciergeref41_Leaf F) s_conciergeref41_Leaf (bodyOf 34) F x = M_conciergeref41_Leaf F x := by kernel_rfl
theorem c_conciergeref41_Leaf (F : Nat) : Ctr TT Try.prog 34 (conOf TT s_conciergeref41_Leaf (M_conciergeref41_Leaf F)) :=
  ctr_of (code := bodyOf 34) Try.func34 (by kernel_rfl) (by kernel_rfl) (by kernel_rfl) (by kernel_rfl) (envS_ok envN_ok (c_conciergeref03_Sum F)) hm (by kernel_rfl) (fun x r h => ⟨F, (t_conciergeref41_Leaf x F).trans h⟩)
theorem mo_conciergeref41_Leaf {F F' : Nat} (h : F ≤ F') : ∀ v, Le (M_conciergeref41_Leaf F v) (M_conciergeref41_Leaf F' v) := by
  intro v
  unfold M_conciergeref41_Leaf
  with_reducible repeat (first | (intro v) | exact Le.refl _ | exact h | exact mo_conciergeref03_Sum h _ | apply Le.bind | apply Le.ite | apply Le.loop | apply Le.sumC)
noncomputable def s_conciergeref41_Half : Spec Kd := { params := [(.a (.int .i64))], ret := (.one (.a (.int .i64))), pins := [], pl := { nt := 11, loops := [(0, ⟨[.tmp 0 (.a (.int .i64)), .tmp 3 (.a (.int .i64))], [], []⟩, (.exit 0, ⟨[.tmp 3 (.a (.int .i64))], [], []⟩), [])] }, rfrz := [], ts := [2] }
noncomputable def e_conciergeref41_Half (F : Nat) : Env El := envN
/-- concierge/conciergeref41.Half -/
noncomputable def M_conciergeref41_Half_l0 (F : Nat) (v0 : (Int × Int × Unit)) : Option ((Int × Int × Unit) ⊕ (Int × Unit)) :=
  if decide (IntKind.i64.wrap (v0.2.1 * 2) < v0.1) = true then some (Sum.inl (v0.1, IntKind.i64.wrap (v0.2.1 * 2), ())) else some (Sum.inr (v0.2.1, ()))
noncomputable def M_conciergeref41_Half (F : Nat) (x : (Int)) : Option (Int) :=
  (loopM (M_conciergeref41_Half_l0 F)
        F (x, 1, ())).bind
    fun v1 => some v1.1
theorem t_conciergeref41_Half (x : (Int)) (F : Nat) : fnRun TT Try.prog (e_conciergeref41_Half F) s_conciergeref41_Half (bodyOf 53) F x = M_conciergeref41_Half F x := by kernel_rfl
theorem c_conciergeref41_Half (F : Nat) : Ctr TT Try.prog 53 (conOf TT s_conciergeref41_Half (M_conciergeref41_Half F)) :=
  ctr_of (code := bodyOf 53) Try.func53 (by kernel_rfl) (by kernel_rfl) (by kernel_rfl) (by kernel_rfl) envN_ok hm (by kernel_rfl) (fun x r h => ⟨F, (t_conciergeref41_Half x F).trans h⟩)
theorem mo_conciergeref41_Half_l0 {F F' : Nat} (h : F ≤ F') : ∀ v, Le (M_conciergeref41_Half_l0 F v) (M_conciergeref41_Half_l0 F' v) := by
  intro v
  unfold M_conciergeref41_Half_l0
  with_reducible repeat (first | (intro v) | exact Le.refl _ | exact h | apply Le.bind | apply Le.ite | apply Le.loop | apply Le.sumC)
theorem mo_conciergeref41_Half {F F' : Nat} (h : F ≤ F') : ∀ v, Le (M_conciergeref41_Half F v) (M_conciergeref41_Half F' v) := by
  intro v
  unfold M_conciergeref41_Half
  with_reducible repeat (first | (intro v) | exact Le.refl _ | exact h | exact mo_conciergeref41_Half_l0 h | exact mo_conciergeref41_Half_l0 h _ | apply Le.bind | apply Le.ite | apply Le.loop | apply Le.sumC)
noncomputable def s_conciergeref41_Top : Spec Kd := { params := [(.a (.slc .str))], ret := (.one (.a .str)), pins := [], pl := { nt := 27, ends := [(6, ⟨[.tmp 2 (.a .str)], [], []⟩)] }, rfrz := [], ts := [2] }
noncomputable def e_conciergeref41_Top (F : Nat) (R : tyS El s_conciergeref41_Top.params → Option (s_conciergeref41_Top.R El)) : Env El := (envS 52 (conOf TT s_conciergeref41_Top R) (envS 57 (conOf TT s_conciergeref41_Knot (M_conciergeref41_Knot F)) (envS 53 (conOf TT s_conciergeref41_Half (M_conciergeref41_Half F)) (envS 34 (conOf TT s_conciergeref41_Leaf (M_conciergeref41_Leaf F)) (envS 37 (conOf TT s_conciergeref03_Sum (M_conciergeref03_Sum F)) envN)))))
/-- concierge/conciergeref41.Top -/
noncomputable def Mb_conciergeref41_Top (F : Nat) (R : (List (El .str)) → Option (List UInt8)) (x : (List (El .str))) : Option (List UInt8) :=
  if decide ((↑x.length : Int) = 0) = true then (M_conciergeref03_Sum F []).bind fun v0 => some v0
  else
    if decide ((↑x.length : Int) = 1) = true then (idx x 0).bind fun v1 => (M_conciergeref41_Leaf F v1).bind fun v2 => some v2
    else
      (M_conciergeref41_Half F (↑x.length : Int)).bind fun v3 =>
        ((sub x 0 v3).bind fun v4 =>
              (R v4).bind fun v5 =>
                (sub x v3 (↑x.length : Int)).bind fun v6 => (R v6).bind fun v7 => (M_conciergeref41_Knot F (v5, v7)).bind fun v8 => some (v8, ())).bind
          fun v9 => some v9.1
noncomputable def Mr_conciergeref41_Top (F : Nat) : Nat → ((List (El .str))) → Option (List UInt8)
  | 0, _ => none
  | d + 1, x => Mb_conciergeref41_Top F (Mr_conciergeref41_Top F d) x
noncomputable def M_conciergeref41_Top (F : Nat) (x : (List (El .str))) : Option (List UInt8) := Mr_conciergeref41_Top F F x
theorem t_conciergeref41_Top (x : (List (El .str))) (F : Nat) (R : (List (El .str)) → Option (List UInt8)) : fnRun TT Try.prog (e_conciergeref41_Top F R) s_conciergeref41_Top (bodyOf 52) F x = Mb_conciergeref41_Top F R x := by kernel_rfl
theorem cr_conciergeref41_Top (F : Nat) : ∀ d, Ctr TT Try.prog 52 (conOf TT s_conciergeref41_Top (Mr_conciergeref41_Top F d))
  | 0 => ctr_none _ _ _ _ (fun _ => rfl)
  | d + 1 => ctr_of (code := bodyOf 52) Try.func52 (by kernel_rfl) (by kernel_rfl) (by kernel_rfl) (by kernel_rfl) (envS_ok (envS_ok (envS_ok (envS_ok (envS_ok envN_ok (c_conciergeref03_Sum F)) (c_conciergeref41_Leaf F)) (c_conciergeref41_Half F)) (c_conciergeref41_Knot F)) (cr_conciergeref41_Top F d)) hm (by kernel_rfl) (fun x r h => ⟨F, (t_conciergeref41_Top x F (Mr_conciergeref41_Top F d)).trans h⟩)
theorem c_conciergeref41_Top (F : Nat) : Ctr TT Try.prog 52 (conOf TT s_conciergeref41_Top (M_conciergeref41_Top F)) := cr_conciergeref41_Top F F
theorem mob_conciergeref41_Top {F F' : Nat} (h : F ≤ F') {R R' : (List (El .str)) → Option (List UInt8)} (hR : ∀ v, Le (R v) (R' v)) : ∀ v, Le (Mb_conciergeref41_Top F R v) (Mb_conciergeref41_Top F' R' v) := by
  intro v
  unfold Mb_conciergeref41_Top
  with_reducible repeat (first | (intro v) | exact Le.refl _ | exact h | exact hR _ | exact mo_conciergeref03_Sum h _ | exact mo_conciergeref41_Leaf h _ | exact mo_conciergeref41_Half h _ | exact mo_conciergeref41_Knot h _ | apply Le.bind | apply Le.ite | apply Le.loop | apply Le.sumC)
theorem mor_conciergeref41_Top {F F' : Nat} (h : F ≤ F') : ∀ {d d' : Nat}, d ≤ d' → ∀ v, Le (Mr_conciergeref41_Top F d v) (Mr_conciergeref41_Top F' d' v)
  | 0, _, _, _ => ⟨fun _ h => by cases h⟩
  | _ + 1, 0, h', _ => by omega
  | d + 1, d' + 1, h', v => mob_conciergeref41_Top h (mor_conciergeref41_Top h (Nat.le_of_succ_le_succ h')) v
theorem mo_conciergeref41_Top {F F' : Nat} (h : F ≤ F') (v : (List (El .str))) : Le (M_conciergeref41_Top F v) (M_conciergeref41_Top F' v) := mor_conciergeref41_Top h h v
noncomputable def s_conciergeref41_Seal : Spec Kd := { params := [(.a (.int .i64)), (.a .str)], ret := (.one (.a .str)), pins := [], pl := { nt := 11 }, rfrz := [], ts := [4] }
noncomputable def e_conciergeref41_Seal (F : Nat) : Env El := (envS 37 (conOf TT s_conciergeref03_Sum (M_conciergeref03_Sum F)) (envS 58 (conOf TT s_conciergeref01_Num (M_conciergeref01_Num F)) envN))
/-- concierge/conciergeref41.Seal -/
noncomputable def M_conciergeref41_Seal (F : Nat) (x : (Int) × (List UInt8)) : Option (List UInt8) :=
  (M_conciergeref01_Num F x.1).bind fun v0 =>
    if decide ([2].length + v0.length ≤ 9223372036854775807) = true then
      if decide (([2] ++ v0).length + x.2.length ≤ 9223372036854775807) = true then (M_conciergeref03_Sum F ([2] ++ v0 ++ x.2)).bind fun v1 => some v1 else none
    else none
theorem t_conciergeref41_Seal (x : (Int) × (List UInt8)) (F : Nat) : fnRun TT Try.prog (e_conciergeref41_Seal F) s_conciergeref41_Seal (bodyOf 35) F x = M_conciergeref41_Seal F x := by kernel_rfl
theorem c_conciergeref41_Seal (F : Nat) : Ctr TT Try.prog 35 (conOf TT s_conciergeref41_Seal (M_conciergeref41_Seal F)) :=
  ctr_of (code := bodyOf 35) Try.func35 (by kernel_rfl) (by kernel_rfl) (by kernel_rfl) (by kernel_rfl) (envS_ok (envS_ok envN_ok (c_conciergeref01_Num F)) (c_conciergeref03_Sum F)) hm (by kernel_rfl) (fun x r h => ⟨F, (t_conciergeref41_Seal x F).trans h⟩)
theorem mo_conciergeref41_Seal {F F' : Nat} (h : F ≤ F') : ∀ v, Le (M_conciergeref41_Seal F v) (M_conciergeref41_Seal F' v) := by
  intro v
  unfold M_conciergeref41_Seal
  with_reducible repeat (first | (intro v) | exact Le.refl _ | exact h | exact mo_conciergeref01_Num h _ | exact mo_conciergeref03_Sum h _ | apply Le.bind | apply Le.ite | apply Le.loop | apply Le.sumC)
noncomputable def s_conciergeref41_Root : Spec Kd := { params := [(.a (.slc .str))], ret := (.one (.a .str)), pins := [], pl := { nt := 8 }, rfrz := [], ts := [2] }
noncomputable def e_conciergeref41_Root (F : Nat) : Env El := (envS 35 (conOf TT s_conciergeref41_Seal (M_conciergeref41_Seal F)) (envS 52 (conOf TT s_conciergeref41_Top (M_conciergeref41_Top F)) envN))
/-- concierge/conciergeref41.Root -/
noncomputable def M_conciergeref41_Root (F : Nat) (x : (List (El .str))) : Option (List UInt8) :=
  (M_conciergeref41_Top F x).bind fun v0 => (M_conciergeref41_Seal F ((↑x.length : Int), v0)).bind fun v1 => some v1
theorem t_conciergeref41_Root (x : (List (El .str))) (F : Nat) : fnRun TT Try.prog (e_conciergeref41_Root F) s_conciergeref41_Root (bodyOf 29) F x = M_conciergeref41_Root F x := by kernel_rfl
theorem c_conciergeref41_Root (F : Nat) : Ctr TT Try.prog 29 (conOf TT s_conciergeref41_Root (M_conciergeref41_Root F)) :=
  ctr_of (code := bodyOf 29) Try.func29 (by kernel_rfl) (by kernel_rfl) (by kernel_rfl) (by kernel_rfl) (envS_ok (envS_ok envN_ok (c_conciergeref41_Top F)) (c_conciergeref41_Seal F)) hm (by kernel_rfl) (fun x r h => ⟨F, (t_conciergeref41_Root x F).trans h⟩)
theorem mo_conciergeref41_Root {F F' : Nat} (h : F ≤ F') : ∀ v, Le (M_conciergeref41_Root F v) (M_conciergeref41_Root F' v) := by
  intro v
  unfold M_conciergeref41_Root
  with_reducible repeat (first | (intro v) | exact Le.refl _ | exact h | exact mo_conciergeref41_Top h _ | exact mo_conciergeref41_Seal h _ | apply Le.bind | apply Le.ite | apply Le.loop | apply Le.sumC)
noncomputable def s_conciergeref41_Path : Spec Kd := { params := [(.a (.slc .str)), (.a (.int .i64))], ret := (.one (.a (.row 9 .str))), pins := [], pl := { nt := 39, orc := { rv := [4, 19, 25, 32, 38], gv := [] }, ends := [(6, ⟨[.tmp 4 (.a (.rowp 256)), .box 256 (.row 9 .str)], [], [.tmpRow 4 256 9 .str]⟩), (5, ⟨[.tmp 4 (.a (.rowp 256)), .box 256 (.row 9 .str)], [], [.tmpRow 4 256 9 .str]⟩)] }, rfrz := [], ts := [4] }
noncomputable def e_conciergeref41_Path (F : Nat) (R : tyS El s_conciergeref41_Path.params → Option (s_conciergeref41_Path.R El)) : Env El := (envS 30 (conOf TT s_conciergeref41_Path R) (envS 52 (conOf TT s_conciergeref41_Top (M_conciergeref41_Top F)) (envS 53 (conOf TT s_conciergeref41_Half (M_conciergeref41_Half F)) envN)))
/-- concierge/conciergeref41.Path -/
noncomputable def Mb_conciergeref41_Path (F : Nat) (R : (List (El .str)) × (Int) → Option (List (El .str))) (x : (List (El .str)) × (Int)) : Option (List (El .str)) :=
  if decide ((↑x.1.length : Int) < 2) = true then some []
  else
    (M_conciergeref41_Half F (↑x.1.length : Int)).bind fun v0 =>
      if decide (x.2 < v0) = true then
        ((sub x.1 0 v0).bind fun v1 =>
              (R (v1, x.2)).bind fun v2 =>
                (sub x.1 v0 (↑x.1.length : Int)).bind fun v3 =>
                  (M_conciergeref41_Top F v3).bind fun v4 =>
                    if decide ((v2.length + [v4].length) * 16 ≤ 140737488355328) = true then some ((), v2 ++ [v4], ()) else none).bind
          fun v5 => some v5.2.1
      else
        ((sub x.1 v0 (↑x.1.length : Int)).bind fun v6 =>
              (R (v6, IntKind.i64.wrap (x.2 - v0))).bind fun v7 =>
                (sub x.1 0 v0).bind fun v8 =>
                  (M_conciergeref41_Top F v8).bind fun v9 =>
                    if decide ((v7.length + [v9].length) * 16 ≤ 140737488355328) = true then some ((), v7 ++ [v9], ()) else none).bind
          fun v10 => some v10.2.1
noncomputable def Mr_conciergeref41_Path (F : Nat) : Nat → ((List (El .str)) × (Int)) → Option (List (El .str))
  | 0, _ => none
  | d + 1, x => Mb_conciergeref41_Path F (Mr_conciergeref41_Path F d) x
noncomputable def M_conciergeref41_Path (F : Nat) (x : (List (El .str)) × (Int)) : Option (List (El .str)) := Mr_conciergeref41_Path F F x
theorem t_conciergeref41_Path (x : (List (El .str)) × (Int)) (F : Nat) (R : (List (El .str)) × (Int) → Option (List (El .str))) : fnRun TT Try.prog (e_conciergeref41_Path F R) s_conciergeref41_Path (bodyOf 30) F x = Mb_conciergeref41_Path F R x := by kernel_rfl
theorem cr_conciergeref41_Path (F : Nat) : ∀ d, Ctr TT Try.prog 30 (conOf TT s_conciergeref41_Path (Mr_conciergeref41_Path F d))
  | 0 => ctr_none _ _ _ _ (fun _ => rfl)
  | d + 1 => ctr_of (code := bodyOf 30) Try.func30 (by kernel_rfl) (by kernel_rfl) (by kernel_rfl) (by kernel_rfl) (envS_ok (envS_ok (envS_ok envN_ok (c_conciergeref41_Half F)) (c_conciergeref41_Top F)) (cr_conciergeref41_Path F d)) hm (by kernel_rfl) (fun x r h => ⟨F, (t_conciergeref41_Path x F (Mr_conciergeref41_Path F d)).trans h⟩)
theorem c_conciergeref41_Path (F : Nat) : Ctr TT Try.prog 30 (conOf TT s_conciergeref41_Path (M_conciergeref41_Path F)) := cr_conciergeref41_Path F F
theorem mob_conciergeref41_Path {F F' : Nat} (h : F ≤ F') {R R' : (List (El .str)) × (Int) → Option (List (El .str))} (hR : ∀ v, Le (R v) (R' v)) : ∀ v, Le (Mb_conciergeref41_Path F R v) (Mb_conciergeref41_Path F' R' v) := by
  intro v
  unfold Mb_conciergeref41_Path
  with_reducible repeat (first | (intro v) | exact Le.refl _ | exact h | exact hR _ | exact mo_conciergeref41_Half h _ | exact mo_conciergeref41_Top h _ | apply Le.bind | apply Le.ite | apply Le.loop | apply Le.sumC)
theorem mor_conciergeref41_Path {F F' : Nat} (h : F ≤ F') : ∀ {d d' : Nat}, d ≤ d' → ∀ v, Le (Mr_conciergeref41_Path F d v) (Mr_conciergeref41_Path F' d' v)
  | 0, _, _, _ => ⟨fun _ h => by cases h⟩
  | _ + 1, 0, h', _ => by omega
  | d + 1, d' + 1, h', v => mob_conciergeref41_Path h (mor_conciergeref41_Path h (Nat.le_of_succ_le_succ h')) v
theorem mo_conciergeref41_Path {F F' : Nat} (h : F ≤ F') (v : (List (El .str)) × (Int)) : Le (M_conciergeref41_Path F v) (M_conciergeref41_Path F' v) := mor_conciergeref41_Path h h v
noncomputable def s_conciergeref41_Climb : Spec Kd := { params := [(.a (.int .i64)), (.a (.int .i64)), (.a .str), (.a (.slc .str))], ret := (.one (.a .str)), pins := [], pl := { nt := 68, cuts := [(16, [(14, ⟨[.tmp 10 (.a .str), .tmp 12 (.a .str)], [], []⟩)]), (12, [(10, ⟨[.tmp 10 (.a .str), .tmp 11 (.a .str)], [], []⟩)])] }, rfrz := [], ts := [8] }
noncomputable def e_conciergeref41_Climb (F : Nat) (R : tyS El s_conciergeref41_Climb.params → Option (s_conciergeref41_Climb.R El)) : Env El := (envS 33 (conOf TT s_conciergeref41_Climb R) (envS 57 (conOf TT s_conciergeref41_Knot (M_conciergeref41_Knot F)) (envS 53 (conOf TT s_conciergeref41_Half (M_conciergeref41_Half F)) envN)))
/-- concierge/conciergeref41.Climb -/
noncomputable def Mb_conciergeref41_Climb (F : Nat) (R : (Int) × (Int) × (List UInt8) × (List (El .str)) → Option (List UInt8)) (x : (Int) × (Int) × (List UInt8) × (List (El .str))) : Option (List UInt8) :=
  if decide (x.1 < 2) = true then if decide (0 < (↑x.2.2.2.length : Int)) = true then some [] else some x.2.2.1
  else
    if decide ((↑x.2.2.2.length : Int) = 0) = true then some []
    else
      (M_conciergeref41_Half F x.1).bind fun v0 =>
        (idx x.2.2.2 (IntKind.i64.wrap ((↑x.2.2.2.length : Int) - 1))).bind fun v1 =>
          if (!decide ((↑v1.length : Int) = 32)) = true then some []
          else
            if decide (x.2.1 < v0) = true then
              ((sub x.2.2.2 0 (IntKind.i64.wrap ((↑x.2.2.2.length : Int) - 1))).bind fun v2 => (R (v0, x.2.1, x.2.2.1, v2)).bind fun v3 => some (v1, v3, ())).bind
                fun v4 => if decide (v4.2.1 = []) = true then some [] else (M_conciergeref41_Knot F (v4.2.1, v4.1)).bind fun v5 => some v5
            else
              ((sub x.2.2.2 0 (IntKind.i64.wrap ((↑x.2.2.2.length : Int) - 1))).bind fun v6 =>
                    (R (IntKind.i64.wrap (x.1 - v0), IntKind.i64.wrap (x.2.1 - v0), x.2.2.1, v6)).bind fun v7 => some (v1, v7, ())).bind
                fun v8 => if decide (v8.2.1 = []) = true then some [] else (M_conciergeref41_Knot F (v8.1, v8.2.1)).bind fun v9 => some v9
noncomputable def Mr_conciergeref41_Climb (F : Nat) : Nat → ((Int) × (Int) × (List UInt8) × (List (El .str))) → Option (List UInt8)
  | 0, _ => none
  | d + 1, x => Mb_conciergeref41_Climb F (Mr_conciergeref41_Climb F d) x
noncomputable def M_conciergeref41_Climb (F : Nat) (x : (Int) × (Int) × (List UInt8) × (List (El .str))) : Option (List UInt8) := Mr_conciergeref41_Climb F F x
theorem t_conciergeref41_Climb (x : (Int) × (Int) × (List UInt8) × (List (El .str))) (F : Nat) (R : (Int) × (Int) × (List UInt8) × (List (El .str)) → Option (List UInt8)) : fnRun TT Try.prog (e_conciergeref41_Climb F R) s_conciergeref41_Climb (bodyOf 33) F x = Mb_conciergeref41_Climb F R x := by kernel_rfl
theorem cr_conciergeref41_Climb (F : Nat) : ∀ d, Ctr TT Try.prog 33 (conOf TT s_conciergeref41_Climb (Mr_conciergeref41_Climb F d))
  | 0 => ctr_none _ _ _ _ (fun _ => rfl)
  | d + 1 => ctr_of (code := bodyOf 33) Try.func33 (by kernel_rfl) (by kernel_rfl) (by kernel_rfl) (by kernel_rfl) (envS_ok (envS_ok (envS_ok envN_ok (c_conciergeref41_Half F)) (c_conciergeref41_Knot F)) (cr_conciergeref41_Climb F d)) hm (by kernel_rfl) (fun x r h => ⟨F, (t_conciergeref41_Climb x F (Mr_conciergeref41_Climb F d)).trans h⟩)
theorem c_conciergeref41_Climb (F : Nat) : Ctr TT Try.prog 33 (conOf TT s_conciergeref41_Climb (M_conciergeref41_Climb F)) := cr_conciergeref41_Climb F F
theorem mob_conciergeref41_Climb {F F' : Nat} (h : F ≤ F') {R R' : (Int) × (Int) × (List UInt8) × (List (El .str)) → Option (List UInt8)} (hR : ∀ v, Le (R v) (R' v)) : ∀ v, Le (Mb_conciergeref41_Climb F R v) (Mb_conciergeref41_Climb F' R' v) := by
  intro v
  unfold Mb_conciergeref41_Climb
  with_reducible repeat (first | (intro v) | exact Le.refl _ | exact h | exact hR _ | exact mo_conciergeref41_Half h _ | exact mo_conciergeref41_Knot h _ | apply Le.bind | apply Le.ite | apply Le.loop | apply Le.sumC)
theorem mor_conciergeref41_Climb {F F' : Nat} (h : F ≤ F') : ∀ {d d' : Nat}, d ≤ d' → ∀ v, Le (Mr_conciergeref41_Climb F d v) (Mr_conciergeref41_Climb F' d' v)
  | 0, _, _, _ => ⟨fun _ h => by cases h⟩
  | _ + 1, 0, h', _ => by omega
  | d + 1, d' + 1, h', v => mob_conciergeref41_Climb h (mor_conciergeref41_Climb h (Nat.le_of_succ_le_succ h')) v
theorem mo_conciergeref41_Climb {F F' : Nat} (h : F ≤ F') (v : (Int) × (Int) × (List UInt8) × (List (El .str))) : Le (M_conciergeref41_Climb F v) (M_conciergeref41_Climb F' v) := mor_conciergeref41_Climb h h v
noncomputable def s_conciergeref41_Check : Spec Kd := { params := [(.a .str), (.a (.int .i64)), (.a (.int .i64)), (.a .str), (.a (.slc .str))], ret := (.one (.a .bool)), pins := [], pl := { nt := 42, cuts := [(4, [(9, ⟨[.tmp 41 (.a .bool)], [], []⟩)]), (1, [(6, ⟨[.tmp 0 (.a .str), .tmp 1 (.a (.int .i64)), .tmp 2 (.a (.int .i64)), .tmp 3 (.a .str), .tmp 4 (.a (.slc .str)), .tmp 17 (.a .bool)], [], []⟩), (4, ⟨[.tmp 0 (.a .str), .tmp 1 (.a (.int .i64)), .tmp 2 (.a (.int .i64)), .tmp 3 (.a .str), .tmp 4 (.a (.slc .str)), .tmp 21 (.a .bool)], [], []⟩), (5, ⟨[.tmp 0 (.a .str), .tmp 1 (.a (.int .i64)), .tmp 2 (.a (.int .i64)), .tmp 3 (.a .str), .tmp 4 (.a (.slc .str)), .tmp 26 (.a .bool)], [], []⟩)])] }, rfrz := [], ts := [10] }
noncomputable def e_conciergeref41_Check (F : Nat) : Env El := (envS 35 (conOf TT s_conciergeref41_Seal (M_conciergeref41_Seal F)) (envS 33 (conOf TT s_conciergeref41_Climb (M_conciergeref41_Climb F)) (envS 34 (conOf TT s_conciergeref41_Leaf (M_conciergeref41_Leaf F)) envN)))
/-- concierge/conciergeref41.Check -/
noncomputable def M_conciergeref41_Check (F : Nat) (x : (List UInt8) × (Int) × (Int) × (List UInt8) × (List (El .str))) : Option (Bool) :=
  (if decide (x.2.1 < 1) = false then some (x.1, x.2.1, x.2.2.1, x.2.2.2.1, x.2.2.2.2, decide (1048576 < x.2.1), ())
      else some (x.1, x.2.1, x.2.2.1, x.2.2.2.1, x.2.2.2.2, true, ())).bind
    fun v0 =>
    (if v0.2.2.2.2.2.1 = false then some (v0.1, v0.2.1, v0.2.2.1, v0.2.2.2.1, v0.2.2.2.2.1, decide (v0.2.2.1 < 0), ())
        else some (v0.1, v0.2.1, v0.2.2.1, v0.2.2.2.1, v0.2.2.2.2.1, true, ())).bind
      fun v1 =>
      (if v1.2.2.2.2.2.1 = false then some (v1.1, v1.2.1, v1.2.2.1, v1.2.2.2.1, v1.2.2.2.2.1, decide (v1.2.1 ≤ v1.2.2.1), ())
          else some (v1.1, v1.2.1, v1.2.2.1, v1.2.2.2.1, v1.2.2.2.2.1, true, ())).bind
        fun v2 =>
        if v2.2.2.2.2.2.1 = true then some false
        else
          (M_conciergeref41_Leaf F v2.2.2.2.1).bind fun v3 =>
            (M_conciergeref41_Climb F (v2.2.1, v2.2.2.1, v3, v2.2.2.2.2.1)).bind fun v4 =>
              (if (!decide (v4 = [])) = true then (M_conciergeref41_Seal F (v2.2.1, v4)).bind fun v5 => some (decide (v5 = v2.1), ()) else some (false, ())).bind
                fun v6 => some v6.1
theorem t_conciergeref41_Check (x : (List UInt8) × (Int) × (Int) × (List UInt8) × (List (El .str))) (F : Nat) : fnRun TT Try.prog (e_conciergeref41_Check F) s_conciergeref41_Check (bodyOf 32) F x = M_conciergeref41_Check F x := by kernel_rfl
theorem c_conciergeref41_Check (F : Nat) : Ctr TT Try.prog 32 (conOf TT s_conciergeref41_Check (M_conciergeref41_Check F)) :=
  ctr_of (code := bodyOf 32) Try.func32 (by kernel_rfl) (by kernel_rfl) (by kernel_rfl) (by kernel_rfl) (envS_ok (envS_ok (envS_ok envN_ok (c_conciergeref41_Leaf F)) (c_conciergeref41_Climb F)) (c_conciergeref41_Seal F)) hm (by kernel_rfl) (fun x r h => ⟨F, (t_conciergeref41_Check x F).trans h⟩)
theorem mo_conciergeref41_Check {F F' : Nat} (h : F ≤ F') : ∀ v, Le (M_conciergeref41_Check F v) (M_conciergeref41_Check F' v) := by
  intro v
  unfold M_conciergeref41_Check
  with_reducible repeat (first | (intro v) | exact Le.refl _ | exact h | exact mo_conciergeref41_Leaf h _ | exact mo_conciergeref41_Climb h _ | exact mo_conciergeref41_Seal h _ | apply Le.bind | apply Le.ite | apply Le.loop | apply Le.sumC)
noncomputable def s_conciergeref41_right : Spec Kd := { params := [(.a (.int .i64)), (.a (.int .i64)), (.a (.int .i64))], ret := (.one (.a .bool)), pins := [], pl := { nt := 29, joins := [(700019, (.norm, ⟨[.tmp 0 (.a (.int .i64)), .tmp 1 (.a (.int .i64)), .tmp 2 (.a (.int .i64))], [], []⟩), [])], loops := [(0, ⟨[.tmp 0 (.a (.int .i64)), .tmp 1 (.a (.int .i64)), .tmp 2 (.a (.int .i64))], [], []⟩, (.exit 0, ⟨[], [], []⟩), [(.ret, ⟨[.tmp 6 (.a .bool)], [], []⟩)])] }, rfrz := [], ts := [6] }
noncomputable def e_conciergeref41_right (F : Nat) : Env El := (envS 53 (conOf TT s_conciergeref41_Half (M_conciergeref41_Half F)) envN)
/-- concierge/conciergeref41.right -/
noncomputable def M_conciergeref41_right_l0 (F : Nat) (v0 : (Int × Int × Int × Unit)) : Option ((Int × Int × Int × Unit) ⊕ (Unit ⊕ Bool × Unit)) :=
  if decide (2 ≤ v0.1) = true then
          (M_conciergeref41_Half F v0.1).bind fun v1 =>
            if decide (v0.2.2.1 = 0) = true then some (Sum.inr (Sum.inr (decide (v1 ≤ v0.2.1), ())))
            else
              (if decide (v0.2.1 < v1) = true then some (v1, v0.2.1, v0.2.2.1, ())
                  else some (IntKind.i64.wrap (v0.1 - v1), IntKind.i64.wrap (v0.2.1 - v1), v0.2.2.1, ())).bind
                fun v2 => some (Sum.inl (v2.1, v2.2.1, IntKind.i64.wrap (v2.2.2.1 - 1), ()))
        else some (Sum.inr (Sum.inl ()))
noncomputable def M_conciergeref41_right (F : Nat) (x : (Int) × (Int) × (Int)) : Option (Bool) :=
  (loopM (M_conciergeref41_right_l0 F)
        F (x.1, x.2.1, x.2.2, ())).bind
    fun v3 => sumC v3 (fun v4 => some false) fun v5 => some v5.1
theorem t_conciergeref41_right (x : (Int) × (Int) × (Int)) (F : Nat) : fnRun TT Try.prog (e_conciergeref41_right F) s_conciergeref41_right (bodyOf 59) F x = M_conciergeref41_right F x := by kernel_rfl
theorem c_conciergeref41_right (F : Nat) : Ctr TT Try.prog 59 (conOf TT s_conciergeref41_right (M_conciergeref41_right F)) :=
  ctr_of (code := bodyOf 59) Try.func59 (by kernel_rfl) (by kernel_rfl) (by kernel_rfl) (by kernel_rfl) (envS_ok envN_ok (c_conciergeref41_Half F)) hm (by kernel_rfl) (fun x r h => ⟨F, (t_conciergeref41_right x F).trans h⟩)
theorem mo_conciergeref41_right_l0 {F F' : Nat} (h : F ≤ F') : ∀ v, Le (M_conciergeref41_right_l0 F v) (M_conciergeref41_right_l0 F' v) := by
  intro v
  unfold M_conciergeref41_right_l0
  with_reducible repeat (first | (intro v) | exact Le.refl _ | exact h | exact mo_conciergeref41_Half h _ | apply Le.bind | apply Le.ite | apply Le.loop | apply Le.sumC)
theorem mo_conciergeref41_right {F F' : Nat} (h : F ≤ F') : ∀ v, Le (M_conciergeref41_right F v) (M_conciergeref41_right F' v) := by
  intro v
  unfold M_conciergeref41_right
  with_reducible repeat (first | (intro v) | exact Le.refl _ | exact h | exact mo_conciergeref41_Half h _ | exact mo_conciergeref41_right_l0 h | exact mo_conciergeref41_right_l0 h _ | apply Le.bind | apply Le.ite | apply Le.loop | apply Le.sumC)
noncomputable def s_conciergeref41_Tops : Spec Kd := { params := [(.a (.int .i64)), (.a (.int .i64)), (.a .str), (.a (.slc .str))], ret := (.one (.a (.slc .str))), pins := [], pl := { nt := 60, orc := { rv := [8, 9, 15, 46, 49, 52, 59], gv := [] }, joins := [(900038, (.norm, ⟨[.tmp 0 (.a (.int .i64)), .tmp 1 (.a (.int .i64)), .tmp 3 (.a (.slc .str)), .tmp 9 (.a (.rowp 576)), .tmp 11 (.a (.int .i64)), .tmp 12 (.a .str), .box 576 (.row 9 .str)], [], [.tmpRow 9 576 9 .str]⟩), [])], loops := [(0, ⟨[.tmp 0 (.a (.int .i64)), .tmp 1 (.a (.int .i64)), .tmp 3 (.a (.slc .str)), .tmp 9 (.a (.rowp 576)), .tmp 10 (.a .str), .tmp 11 (.a (.int .i64)), .box 576 (.row 9 .str)], [], [.tmpRow 9 576 9 .str]⟩, (.exit 0, ⟨[.tmp 0 (.a (.int .i64)), .tmp 9 (.a (.rowp 576)), .tmp 10 (.a .str), .box 576 (.row 9 .str)], [], [.tmpRow 9 576 9 .str]⟩), [])] }, rfrz := [576], ts := [8] }
noncomputable def e_conciergeref41_Tops (F : Nat) : Env El := (envS 58 (conOf TT s_conciergeref01_Num (M_conciergeref01_Num F)) (envS 37 (conOf TT s_conciergeref03_Sum (M_conciergeref03_Sum F)) (envS 59 (conOf TT s_conciergeref41_right (M_conciergeref41_right F)) (envS 34 (conOf TT s_conciergeref41_Leaf (M_conciergeref41_Leaf F)) envN))))
/-- concierge/conciergeref41.Tops -/
noncomputable def M_conciergeref41_Tops_l0 (F : Nat) (v1 : (Int × Int × List (List UInt8) × Unit × List UInt8 × Int × List (List UInt8) × Unit)) : Option ((Int × Int × List (List UInt8) × Unit × List UInt8 × Int × List (List UInt8) × Unit) ⊕ (Int × Unit × List UInt8 × List (List UInt8) × Unit)) :=
  if decide (v1.2.2.2.2.2.1 < (↑v1.2.2.1.length : Int)) = true then
              if decide ([1].length + v1.2.2.2.2.1.length ≤ 9223372036854775807) = true then
                (idx v1.2.2.1 v1.2.2.2.2.2.1).bind fun v2 =>
                  if decide (([1] ++ v1.2.2.2.2.1).length + v2.length ≤ 9223372036854775807) = true then
                    (M_conciergeref41_right F (v1.1, v1.2.1, IntKind.i64.wrap (IntKind.i64.wrap ((↑v1.2.2.1.length : Int) - 1) - v1.2.2.2.2.2.1))).bind
                      fun v3 =>
                      (if v3 = true then
                            (idx v1.2.2.1 v1.2.2.2.2.2.1).bind fun v4 =>
                              if decide ([1].length + v4.length ≤ 9223372036854775807) = true then
                                if decide (([1] ++ v4).length + v1.2.2.2.2.1.length ≤ 9223372036854775807) = true then
                                  some (v1.1, v1.2.1, v1.2.2.1, (), v1.2.2.2.2.2.1, [1] ++ v4 ++ v1.2.2.2.2.1, v1.2.2.2.2.2.2.1, ())
                                else none
                              else none
                          else some (v1.1, v1.2.1, v1.2.2.1, (), v1.2.2.2.2.2.1, [1] ++ v1.2.2.2.2.1 ++ v2, v1.2.2.2.2.2.2.1, ())).bind
                        fun v5 =>
                        if decide ((v5.2.2.2.2.2.2.1.length + [v5.2.2.2.2.2.1].length) * 16 ≤ 140737488355328) = true then
                          (M_conciergeref03_Sum F v5.2.2.2.2.2.1).bind fun v6 =>
                            some (Sum.inl (v5.1, v5.2.1, v5.2.2.1, (), v6, IntKind.i64.wrap (v5.2.2.2.2.1 + 1), v5.2.2.2.2.2.2.1 ++ [v5.2.2.2.2.2.1], ()))
                        else none
                  else none
              else none
            else some (Sum.inr (v1.1, (), v1.2.2.2.2.1, v1.2.2.2.2.2.2.1, ()))
noncomputable def M_conciergeref41_Tops (F : Nat) (x : (Int) × (Int) × (List UInt8) × (List (El .str))) : Option (List (El .str)) :=
  if decide ([0].length + x.2.2.1.length ≤ 9223372036854775807) = true then
    (M_conciergeref41_Leaf F x.2.2.1).bind fun v0 =>
      (loopM (M_conciergeref41_Tops_l0 F)
            F (x.1, x.2.1, x.2.2.2, (), v0, 0, [[0] ++ x.2.2.1], ())).bind
        fun v7 =>
        (M_conciergeref01_Num F v7.1).bind fun v8 =>
          if decide ([2].length + v8.length ≤ 9223372036854775807) = true then
            if decide (([2] ++ v8).length + v7.2.2.1.length ≤ 9223372036854775807) = true then
              if decide ((v7.2.2.2.1.length + [[2] ++ v8 ++ v7.2.2.1].length) * 16 ≤ 140737488355328) = true then some (v7.2.2.2.1 ++ [[2] ++ v8 ++ v7.2.2.1])
              else none
            else none
          else none
  else none
theorem t_conciergeref41_Tops (x : (Int) × (Int) × (List UInt8) × (List (El .str))) (F : Nat) : fnRun TT Try.prog (e_conciergeref41_Tops F) s_conciergeref41_Tops (bodyOf 36) F x = M_conciergeref41_Tops F x := by kernel_rfl
theorem c_conciergeref41_Tops (F : Nat) : Ctr TT Try.prog 36 (conOf TT s_conciergeref41_Tops (M_conciergeref41_Tops F)) :=
  ctr_of (code := bodyOf 36) Try.func36 (by kernel_rfl) (by kernel_rfl) (by kernel_rfl) (by kernel_rfl) (envS_ok (envS_ok (envS_ok (envS_ok envN_ok (c_conciergeref41_Leaf F)) (c_conciergeref41_right F)) (c_conciergeref03_Sum F)) (c_conciergeref01_Num F)) hm (by kernel_rfl) (fun x r h => ⟨F, (t_conciergeref41_Tops x F).trans h⟩)
theorem mo_conciergeref41_Tops_l0 {F F' : Nat} (h : F ≤ F') : ∀ v, Le (M_conciergeref41_Tops_l0 F v) (M_conciergeref41_Tops_l0 F' v) := by
  intro v
  unfold M_conciergeref41_Tops_l0
  with_reducible repeat (first | (intro v) | exact Le.refl _ | exact h | exact mo_conciergeref41_Leaf h _ | exact mo_conciergeref41_right h _ | exact mo_conciergeref03_Sum h _ | exact mo_conciergeref01_Num h _ | apply Le.bind | apply Le.ite | apply Le.loop | apply Le.sumC)
theorem mo_conciergeref41_Tops {F F' : Nat} (h : F ≤ F') : ∀ v, Le (M_conciergeref41_Tops F v) (M_conciergeref41_Tops F' v) := by
  intro v
  unfold M_conciergeref41_Tops
  with_reducible repeat (first | (intro v) | exact Le.refl _ | exact h | exact mo_conciergeref41_Leaf h _ | exact mo_conciergeref41_right h _ | exact mo_conciergeref03_Sum h _ | exact mo_conciergeref01_Num h _ | exact mo_conciergeref41_Tops_l0 h | exact mo_conciergeref41_Tops_l0 h _ | apply Le.bind | apply Le.ite | apply Le.loop | apply Le.sumC)

end Go.Vm
