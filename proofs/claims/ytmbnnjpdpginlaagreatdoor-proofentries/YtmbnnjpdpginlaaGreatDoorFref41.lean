/- Models of functions of the program, and that each keeps its contract: for all arguments of its shape. No condition. -/
import Derived.Test.YtmbnnjpdpginlaaGreatDoorKt
import Derived.Test.YtmbnnjpdpginlaaGreatDoorFref3
import Derived.Test.YtmbnnjpdpginlaaGreatDoorFnum
namespace Go.Vm
open Go.Proofs
set_option linter.unusedVariables false
noncomputable def s_conciergeref41_Knot : Spec Kd := { params := [(.a .str), (.a .str)], ret := (.one (.a .str)), pins := [], pl := { nt := 10 }, rfrz := [], ts := [4] }
noncomputable def e_conciergeref41_Knot (F : Nat) : Env El := (envS 81 (conOf TT s_conciergeref03_Sum (M_conciergeref03_Sum F)) envN)
/-- concierge/conciergeref41.Knot -/
noncomputable def M_conciergeref41_Knot (F : Nat) (x : (List UInt8) × (List UInt8)) : Option (List UInt8) :=
  if decide ([1].length + x.1.length ≤ 9223372036854775807) = true then
    if decide (([1] ++ x.1).length + x.2.length ≤ 9223372036854775807) = true then (M_conciergeref03_Sum F ([1] ++ x.1 ++ x.2)).bind fun v0 => some v0 else none
  else none
theorem t_conciergeref41_Knot (x : (List UInt8) × (List UInt8)) (F : Nat) : fnRun TT Tryz.prog (e_conciergeref41_Knot F) s_conciergeref41_Knot (bodyOf 84) F x = M_conciergeref41_Knot F x := by kernel_rfl
theorem c_conciergeref41_Knot (F : Nat) : Ctr TT Tryz.prog 84 (conOf TT s_conciergeref41_Knot (M_conciergeref41_Knot F)) :=
  ctr_of (code := bodyOf 84) Tryz.func84 (by kernel_rfl) (by kernel_rfl) (by kernel_rfl) (by kernel_rfl) (envS_ok envN_ok (c_conciergeref03_Sum F)) hm (by kernel_rfl) (fun x r h => ⟨F, (t_conciergeref41_Knot x F).trans h⟩)
theorem mo_conciergeref41_Knot {F F' : Nat} (h : F ≤ F') : ∀ v, Le (M_conciergeref41_Knot F v) (M_conciergeref41_Knot F' v) := by
  intro v
  unfold M_conciergeref41_Knot
  with_reducible repeat (first | (intro v) | exact Le.refl _ | exact h | exact mo_conciergeref03_Sum h _ | apply Le.bind | apply Le.ite | apply Le.loop | apply Le.sumC)
noncomputable def s_conciergeref41_Leaf : Spec Kd := { params := [(.a .str)], ret := (.one (.a .str)), pins := [], pl := { nt := 6 }, rfrz := [], ts := [2] }
noncomputable def e_conciergeref41_Leaf (F : Nat) : Env El := (envS 81 (conOf TT s_conciergeref03_Sum (M_conciergeref03_Sum F)) envN)
/-- concierge/conciergeref41.Leaf -/
noncomputable def M_conciergeref41_Leaf (F : Nat) (x : (List UInt8)) : Option (List UInt8) :=
  if decide ([0].length + x.length ≤ 9223372036854775807) = true then (M_conciergeref03_Sum F ([0] ++ x)).bind fun v0 => some v0 else none
theorem t_conciergeref41_Leaf (x : (List UInt8)) (F : Nat) : fnRun TT Tryz.prog (e_conciergeref41_Leaf F) s_conciergeref41_Leaf (bodyOf 82) F x = M_conciergeref41_Leaf F x := by kernel_rfl
theorem c_conciergeref41_Leaf (F : Nat) : Ctr TT Tryz.prog 82 (conOf TT s_conciergeref41_Leaf (M_conciergeref41_Leaf F)) :=
  ctr_of (code := bodyOf 82) Tryz.func82 (by kernel_rfl) (by kernel_rfl) (by kernel_rfl) (by kernel_rfl) (envS_ok envN_ok (c_conciergeref03_Sum F)) hm (by kernel_rfl) (fun x r h => ⟨F, (t_conciergeref41_Leaf x F).trans h⟩)
theorem mo_conciergeref41_Leaf {F F' : Nat} (h : F ≤ F') : ∀ v, Le (M_conciergeref41_Leaf F v) (M_conciergeref41_Leaf F' v) := by
  intro v
  unfold M_conciergeref41_Leaf
  with_reducible repeat (first | (intro v) | exact Le.refl _ | exact h | exact mo_conciergeref03_Sum h _ | apply Le.bind | apply Le.ite | apply Le.loop | apply Le.sumC)
noncomputable def s_conciergeref41_Half : Spec Kd := { params := [(.a (.int .i64))], ret := (.one (.a (.int .i64))), pins := [], pl := { nt := 11, loops := [(0, ⟨[.tmp 0 (.a (.int .i64)), .tmp 3 (.a (.int .i64))], [], []⟩, (.exit 0, ⟨[.tmp 3 (.a (.int .i64))], [], []⟩), [])] }, rfrz := [], ts := [2] }
noncomputable def e_conciergeref41_Half (F : Nat) : Env El := envN
/-- concierge/conciergeref41.Half -/
noncomputable def M_conciergeref41_Half_l0 (F : Nat) (v0 : (Int × Int × Unit)) : Option ((Int × Int × Unit) ⊕ (Int × Unit)) :=
  if decide (IntKind.i64.wrap (v0.2.1 * 2) < v0.1) = true then some (Sum.inl (v0.1, IntKind.i64.wrap (v0.2.1 * 2), ())) else some (Sum.inr (v0.2.1, ()))
noncomputable def M_conciergeref41_Half (F : Nat) (x : (Int)) : Option (Int) :=
  (loopM (M_conciergeref41_Half_l0 F)
        F (x, 1, ())).bind
    fun v1 => some v1.1
theorem t_conciergeref41_Half (x : (Int)) (F : Nat) : fnRun TT Tryz.prog (e_conciergeref41_Half F) s_conciergeref41_Half (bodyOf 83) F x = M_conciergeref41_Half F x := by kernel_rfl
theorem c_conciergeref41_Half (F : Nat) : Ctr TT Tryz.prog 83 (conOf TT s_conciergeref41_Half (M_conciergeref41_Half F)) :=
  ctr_of (code := bodyOf 83) Tryz.func83 (by kernel_rfl) (by kernel_rfl) (by kernel_rfl) (by kernel_rfl) envN_ok hm (by kernel_rfl) (fun x r h => ⟨F, (t_conciergeref41_Half x F).trans h⟩)
theorem mo_conciergeref41_Half_l0 {F F' : Nat} (h : F ≤ F') : ∀ v, Le (M_conciergeref41_Half_l0 F v) (M_conciergeref41_Half_l0 F' v) := by
  intro v
  unfold M_conciergeref41_Half_l0
  with_reducible repeat (first | (intro v) | exact Le.refl _ | exact h | apply Le.bind | apply Le.ite | apply Le.loop | apply Le.sumC)
theorem mo_conciergeref41_Half {F F' : Nat} (h : F ≤ F') : ∀ v, Le (M_conciergeref41_Half F v) (M_conciergeref41_Half F' v) := by
  intro v
  unfold M_conciergeref41_Half
  with_reducible repeat (first | (intro v) | exact Le.refl _ | exact h | exact mo_conciergeref41_Half_l0 h | exact mo_conciergeref41_Half_l0 h _ | apply Le.bind | apply Le.ite | apply Le.loop | apply Le.sumC)
noncomputable def s_conciergeref41_Top : Spec Kd := { params := [(.a (.slc .str))], ret := (.one (.a .str)), pins := [], pl := { nt := 27, ends := [(6, ⟨[.tmp 2 (.a .str)], [], []⟩)] }, rfrz := [], ts := [2] }
noncomputable def e_conciergeref41_Top (F : Nat) (R : tyS El s_conciergeref41_Top.params → Option (s_conciergeref41_Top.R El)) : Env El := (envS 54 (conOf TT s_conciergeref41_Top R) (envS 84 (conOf TT s_conciergeref41_Knot (M_conciergeref41_Knot F)) (envS 83 (conOf TT s_conciergeref41_Half (M_conciergeref41_Half F)) (envS 82 (conOf TT s_conciergeref41_Leaf (M_conciergeref41_Leaf F)) (envS 81 (conOf TT s_conciergeref03_Sum (M_conciergeref03_Sum F)) envN)))))
/-- concierge/conciergeref41.Top -/
noncomputable def Mb_conciergeref41_Top (F : Nat) (R : (List (El .str)) → Option (List UInt8)) (x : (List (El .str))) : Option (List UInt8) :=
  if decide ((↑x.length : Int) = 0) = true then (M_conciergeref03_Sum F []).bind fun v0 => some v0
  else
    if decide ((↑x.length : Int) = 1) = true then (idx x 0).bind fun v1 => (M_conciergeref41_Leaf F v1).bind fun v2 => some v2
    else
      (M_conciergeref41_Half F (↑x.length : Int)).bind fun v3 =>
        ((sub x 0 v3).bind fun v4 =>
              (R v4).bind fun v5 =>
                (sub x v3 (↑x.length : Int)).bind fun v6 => (R v6).bind fun v7 => (M_conciergeref41_Knot F (v5, v7)).bind fun v8 => some (v8, ())).bind
          fun v9 => some v9.1
noncomputable def Mr_conciergeref41_Top (F : Nat) : Nat → ((List (El .str))) → Option (List UInt8)
  | 0, _ => none
  | d + 1, x => Mb_conciergeref41_Top F (Mr_conciergeref41_Top F d) x
noncomputable def M_conciergeref41_Top (F : Nat) (x : (List (El .str))) : Option (List UInt8) := Mr_conciergeref41_Top F F x
theorem t_conciergeref41_Top (x : (List (El .str))) (F : Nat) (R : (List (El .str)) → Option (List UInt8)) : fnRun TT Tryz.prog (e_conciergeref41_Top F R) s_conciergeref41_Top (bodyOf 54) F x = Mb_conciergeref41_Top F R x := by kernel_rfl
theorem cr_conciergeref41_Top (F : Nat) : ∀ d, Ctr TT Tryz.prog 54 (conOf TT s_conciergeref41_Top (Mr_conciergeref41_Top F d))
  | 0 => ctr_none _ _ _ _ (fun _ => rfl)
  | d + 1 => ctr_of (code := bodyOf 54) Tryz.func54 (by kernel_rfl) (by kernel_rfl) (by kernel_rfl) (by kernel_rfl) (envS_ok (envS_ok (envS_ok (envS_ok (envS_ok envN_ok (c_conciergeref03_Sum F)) (c_conciergeref41_Leaf F)) (c_conciergeref41_Half F)) (c_conciergeref41_Knot F)) (cr_conciergeref41_Top F d)) hm (by kernel_rfl) (fun x r h => ⟨F, (t_conciergeref41_Top x F (Mr_conciergeref41_Top F d)).trans h⟩)
theorem c_conciergeref41_Top (F : Nat) : Ctr TT Tryz.prog 54 (conOf TT s_conciergeref41_Top (M_conciergeref41_Top F)) := cr_conciergeref41_Top F F
theorem mob_conciergeref41_Top {F F' : Nat} (h : F ≤ F') {R R' : (List (El .str)) → Option (List UInt8)} (hR : ∀ v, Le (R v) (R' v)) : ∀ v, Le (Mb_conciergeref41_Top F R v) (Mb_conciergeref41_Top F' R' v) := by
  intro v
  unfold Mb_conciergeref41_Top
  with_reducible repeat (first | (intro v) | exact Le.refl _ | exact h | exact hR _ | exact mo_conciergeref03_Sum h _ | exact mo_conciergeref41_Leaf h _ | exact mo_conciergeref41_Half h _ | exact mo_conciergeref41_Knot h _ | apply Le.bind | apply Le.ite | apply Le.loop | apply Le.sumC)
theorem mor_conciergeref41_Top {F F' : Nat} (h : F ≤ F') : ∀ {d d' : Nat}, d ≤ d' → ∀ v, Le (Mr_conciergeref41_Top F d v) (Mr_conciergeref41_Top F' d' v)
  | 0, _, _, _ => ⟨fun _ h => by cases h⟩
  | _ + 1, 0, h', _ => by omega
  | d + 1, d' + 1, h', v => mob_conciergeref41_Top h (mor_conciergeref41_Top h (Nat.le_of_succ_le_succ h')) v
theorem mo_conciergeref41_Top {F F' : Nat} (h : F ≤ F') (v : (List (El .str))) : Le (M_conciergeref41_Top F v) (M_conciergeref41_Top F' v) := mor_conciergeref41_Top h h v
noncomputable def s_conciergeref41_Seal : Spec Kd := { params := [(.a (.int .i64)), (.a .str)], ret := (.one (.a .str)), pins := [], pl := { nt := 11 }, rfrz := [], ts := [4] }
noncomputable def e_conciergeref41_Seal (F : Nat) : Env El := (envS 81 (conOf TT s_conciergeref03_Sum (M_conciergeref03_Sum F)) (envS 40 (conOf TT s_conciergeref01_Num (M_conciergeref01_Num F)) envN))
/-- concierge/conciergeref41.Seal -/
noncomputable def M_conciergeref41_Seal (F : Nat) (x : (Int) × (List UInt8)) : Option (List UInt8) :=
  (M_conciergeref01_Num F x.1).bind fun v0 =>
    if decide ([2].length + v0.length ≤ 9223372036854775807) = true then
      if decide (([2] ++ v0).length + x.2.length ≤ 9223372036854775807) = true then (M_conciergeref03_Sum F ([2] ++ v0 ++ x.2)).bind fun v1 => some v1 else none
    else none
theorem t_conciergeref41_Seal (x : (Int) × (List UInt8)) (F : Nat) : fnRun TT Tryz.prog (e_conciergeref41_Seal F) s_conciergeref41_Seal (bodyOf 53) F x = M_conciergeref41_Seal F x := by kernel_rfl
theorem c_conciergeref41_Seal (F : Nat) : Ctr TT Tryz.prog 53 (conOf TT s_conciergeref41_Seal (M_conciergeref41_Seal F)) :=
  ctr_of (code := bodyOf 53) Tryz.func53 (by kernel_rfl) (by kernel_rfl) (by kernel_rfl) (by kernel_rfl) (envS_ok (envS_ok envN_ok (c_conciergeref01_Num F)) (c_conciergeref03_Sum F)) hm (by kernel_rfl) (fun x r h => ⟨F, (t_conciergeref41_Seal x F).trans h⟩)
theorem mo_conciergeref41_Seal {F F' : Nat} (h : F ≤ F') : ∀ v, Le (M_conciergeref41_Seal F v) (M_conciergeref41_Seal F' v) := by
  intro v
  unfold M_conciergeref41_Seal
  with_reducible repeat (first | (intro v) | exact Le.refl _ | exact h | exact mo_conciergeref01_Num h _ | exact mo_conciergeref03_Sum h _ | apply Le.bind | apply Le.ite | apply Le.loop | apply Le.sumC)
noncomputable def s_conciergeref41_Root : Spec Kd := { params := [(.a (.slc .str))], ret := (.one (.a .str)), pins := [], pl := { nt := 8 }, rfrz := [], ts := [2] }
noncomputable def e_conciergeref41_Root (F : Nat) : Env El := (envS 53 (conOf TT s_conciergeref41_Seal (M_conciergeref41_Seal F)) (envS 54 (conOf TT s_conciergeref41_Top (M_conciergeref41_Top F)) envN))
/-- concierge/conciergeref41.Root -/
noncomputable def M_conciergeref41_Root (F : Nat) (x : (List (El .str))) : Option (List UInt8) :=
  (M_conciergeref41_Top F x).bind fun v0 => (M_conciergeref41_Seal F ((↑x.length : Int), v0)).bind fun v1 => some v1
theorem t_conciergeref41_Root (x : (List (El .str))) (F : Nat) : fnRun TT Tryz.prog (e_conciergeref41_Root F) s_conciergeref41_Root (bodyOf 21) F x = M_conciergeref41_Root F x := by kernel_rfl
theorem c_conciergeref41_Root (F : Nat) : Ctr TT Tryz.prog 21 (conOf TT s_conciergeref41_Root (M_conciergeref41_Root F)) :=
  ctr_of (code := bodyOf 21) Tryz.func21 (by kernel_rfl) (by kernel_rfl) (by kernel_rfl) (by kernel_rfl) (envS_ok (envS_ok envN_ok (c_conciergeref41_Top F)) (c_conciergeref41_Seal F)) hm (by kernel_rfl) (fun x r h => ⟨F, (t_conciergeref41_Root x F).trans h⟩)
theorem mo_conciergeref41_Root {F F' : Nat} (h : F ≤ F') : ∀ v, Le (M_conciergeref41_Root F v) (M_conciergeref41_Root F' v) := by
  intro v
  unfold M_conciergeref41_Root
  with_reducible repeat (first | (intro v) | exact Le.refl _ | exact h | exact mo_conciergeref41_Top h _ | exact mo_conciergeref41_Seal h _ | apply Le.bind | apply Le.ite | apply Le.loop | apply Le.sumC)

end Go.Vm
