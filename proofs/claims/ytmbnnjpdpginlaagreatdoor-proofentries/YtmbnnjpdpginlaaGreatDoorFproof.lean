/- Models of functions of the program, and that each keeps its contract: for all arguments of its shape. No condition. -/
import Derived.Test.YtmbnnjpdpginlaaGreatDoorKt
import Derived.Test.YtmbnnjpdpginlaaGreatDoorFsha
import Derived.Test.YtmbnnjpdpginlaaGreatDoorFpk
import Derived.Test.YtmbnnjpdpginlaaGreatDoorFbits
namespace Go.Vm
open Go.Proofs
set_option linter.unusedVariables false
noncomputable def s_proof_seal : Spec Kd := { params := [(.a (.int .i64)), (.a .str)], ret := (.one (.a .str)), pins := [], pl := { nt := 13 }, rfrz := [], ts := [4] }
noncomputable def e_proof_seal (F : Nat) : Env El := (envS 85 (conOf TT s_sha_Sum (M_sha_Sum F)) (envS 28 (conOf TT s_pack_Packer_String (M_pack_Packer_String F)) (envS 27 (conOf TT s_pack_Packer_Num (M_pack_Packer_Num F)) (envS 26 (conOf TT s_pack_Packer_Raw (M_pack_Packer_Raw F)) envN))))
/-- concierge/proof.seal -/
noncomputable def M_proof_seal (F : Nat) (x : (Int) × (List UInt8)) : Option (List UInt8) :=
  (M_pack_Packer_Raw F (([], false, ()), [2])).bind fun v0 =>
    (M_pack_Packer_Num F ((v0.2.1, v0.2.2.1, ()), x.1)).bind fun v1 =>
      (M_pack_Packer_Raw F ((v1.2.1, v1.2.2.1, ()), x.2)).bind fun v2 =>
        (M_pack_Packer_String F (v2.2.1, v2.2.2.1, ())).bind fun v3 => (M_sha_Sum F v3.1).bind fun v4 => some v4
theorem t_proof_seal (x : (Int) × (List UInt8)) (F : Nat) : fnRun TT Tryz.prog (e_proof_seal F) s_proof_seal (bodyOf 58) F x = M_proof_seal F x := by kernel_rfl
theorem c_proof_seal (F : Nat) : Ctr TT Tryz.prog 58 (conOf TT s_proof_seal (M_proof_seal F)) :=
  ctr_of (code := bodyOf 58) Tryz.func58 (by kernel_rfl) (by kernel_rfl) (by kernel_rfl) (by kernel_rfl) (envS_ok (envS_ok (envS_ok (envS_ok envN_ok (c_pack_Packer_Raw F)) (c_pack_Packer_Num F)) (c_pack_Packer_String F)) (c_sha_Sum F)) hm (by kernel_rfl) (fun x r h => ⟨F, (t_proof_seal x F).trans h⟩)
theorem mo_proof_seal {F F' : Nat} (h : F ≤ F') : ∀ v, Le (M_proof_seal F v) (M_proof_seal F' v) := by
  intro v
  unfold M_proof_seal
  with_reducible repeat (first | (intro v) | exact Le.refl _ | exact h | exact mo_pack_Packer_Raw h _ | exact mo_pack_Packer_Num h _ | exact mo_pack_Packer_String h _ | exact mo_sha_Sum h _ | apply Le.bind | apply Le.ite | apply Le.loop | apply Le.sumC)
noncomputable def s_proof_half : Spec Kd := { params := [(.a (.int .i64))], ret := (.one (.a (.int .i64))), pins := [], pl := { nt := 9 }, rfrz := [], ts := [2] }
noncomputable def e_proof_half (F : Nat) : Env El := (envS 101 (conOf TT s_math_bits_Len (M_math_bits_Len F)) envN)
/-- concierge/proof.half -/
noncomputable def M_proof_half (F : Nat) (x : (Int)) : Option (Int) :=
  (M_math_bits_Len F (IntKind.u64.wrap (IntKind.i64.wrap (x - 1)))).bind fun v0 =>
    if decide (0 ≤ IntKind.i64.wrap (v0 - 1)) = true then some (shl IntKind.i64 1 (IntKind.i64.wrap (v0 - 1))) else none
theorem t_proof_half (x : (Int)) (F : Nat) : fnRun TT Tryz.prog (e_proof_half F) s_proof_half (bodyOf 75) F x = M_proof_half F x := by kernel_rfl
theorem c_proof_half (F : Nat) : Ctr TT Tryz.prog 75 (conOf TT s_proof_half (M_proof_half F)) :=
  ctr_of (code := bodyOf 75) Tryz.func75 (by kernel_rfl) (by kernel_rfl) (by kernel_rfl) (by kernel_rfl) (envS_ok envN_ok (c_math_bits_Len F)) hm (by kernel_rfl) (fun x r h => ⟨F, (t_proof_half x F).trans h⟩)
theorem mo_proof_half {F F' : Nat} (h : F ≤ F') : ∀ v, Le (M_proof_half F v) (M_proof_half F' v) := by
  intro v
  unfold M_proof_half
  with_reducible repeat (first | (intro v) | exact Le.refl _ | exact h | exact mo_math_bits_Len h _ | apply Le.bind | apply Le.ite | apply Le.loop | apply Le.sumC)
noncomputable def s_proof_leaf : Spec Kd := { params := [(.a .str)], ret := (.one (.a .str)), pins := [], pl := { nt := 6 }, rfrz := [], ts := [2] }
noncomputable def e_proof_leaf (F : Nat) : Env El := (envS 85 (conOf TT s_sha_Sum (M_sha_Sum F)) envN)
/-- concierge/proof.leaf -/
noncomputable def M_proof_leaf (F : Nat) (x : (List UInt8)) : Option (List UInt8) :=
  if decide ([0].length + x.length ≤ 9223372036854775807) = true then (M_sha_Sum F ([0] ++ x)).bind fun v0 => some v0 else none
theorem t_proof_leaf (x : (List UInt8)) (F : Nat) : fnRun TT Tryz.prog (e_proof_leaf F) s_proof_leaf (bodyOf 56) F x = M_proof_leaf F x := by kernel_rfl
theorem c_proof_leaf (F : Nat) : Ctr TT Tryz.prog 56 (conOf TT s_proof_leaf (M_proof_leaf F)) :=
  ctr_of (code := bodyOf 56) Tryz.func56 (by kernel_rfl) (by kernel_rfl) (by kernel_rfl) (by kernel_rfl) (envS_ok envN_ok (c_sha_Sum F)) hm (by kernel_rfl) (fun x r h => ⟨F, (t_proof_leaf x F).trans h⟩)
theorem mo_proof_leaf {F F' : Nat} (h : F ≤ F') : ∀ v, Le (M_proof_leaf F v) (M_proof_leaf F' v) := by
  intro v
  unfold M_proof_leaf
  with_reducible repeat (first | (intro v) | exact Le.refl _ | exact h | exact mo_sha_Sum h _ | apply Le.bind | apply Le.ite | apply Le.loop | apply Le.sumC)
noncomputable def s_proof_knot : Spec Kd := { params := [(.a .str), (.a .str)], ret := (.one (.a .str)), pins := [], pl := { nt := 10 }, rfrz := [], ts := [4] }
noncomputable def e_proof_knot (F : Nat) : Env El := (envS 85 (conOf TT s_sha_Sum (M_sha_Sum F)) envN)
/-- concierge/proof.knot -/
noncomputable def M_proof_knot (F : Nat) (x : (List UInt8) × (List UInt8)) : Option (List UInt8) :=
  if decide ([1].length + x.1.length ≤ 9223372036854775807) = true then
    if decide (([1] ++ x.1).length + x.2.length ≤ 9223372036854775807) = true then (M_sha_Sum F ([1] ++ x.1 ++ x.2)).bind fun v0 => some v0 else none
  else none
theorem t_proof_knot (x : (List UInt8) × (List UInt8)) (F : Nat) : fnRun TT Tryz.prog (e_proof_knot F) s_proof_knot (bodyOf 57) F x = M_proof_knot F x := by kernel_rfl
theorem c_proof_knot (F : Nat) : Ctr TT Tryz.prog 57 (conOf TT s_proof_knot (M_proof_knot F)) :=
  ctr_of (code := bodyOf 57) Tryz.func57 (by kernel_rfl) (by kernel_rfl) (by kernel_rfl) (by kernel_rfl) (envS_ok envN_ok (c_sha_Sum F)) hm (by kernel_rfl) (fun x r h => ⟨F, (t_proof_knot x F).trans h⟩)
theorem mo_proof_knot {F F' : Nat} (h : F ≤ F') : ∀ v, Le (M_proof_knot F v) (M_proof_knot F' v) := by
  intro v
  unfold M_proof_knot
  with_reducible repeat (first | (intro v) | exact Le.refl _ | exact h | exact mo_sha_Sum h _ | apply Le.bind | apply Le.ite | apply Le.loop | apply Le.sumC)
noncomputable def s_proof_top : Spec Kd := { params := [(.a (.slc .str))], ret := (.one (.a .str)), pins := [], pl := { nt := 27, ends := [(7, ⟨[.tmp 2 (.a .str)], [], []⟩)] }, rfrz := [], ts := [2] }
noncomputable def e_proof_top (F : Nat) (R : tyS El s_proof_top.params → Option (s_proof_top.R El)) : Env El := (envS 76 (conOf TT s_proof_top R) (envS 57 (conOf TT s_proof_knot (M_proof_knot F)) (envS 75 (conOf TT s_proof_half (M_proof_half F)) (envS 56 (conOf TT s_proof_leaf (M_proof_leaf F)) (envS 85 (conOf TT s_sha_Sum (M_sha_Sum F)) envN)))))
/-- concierge/proof.top -/
noncomputable def Mb_proof_top (F : Nat) (R : (List (El .str)) → Option (List UInt8)) (x : (List (El .str))) : Option (List UInt8) :=
  if decide ((↑x.length : Int) = 0) = true then (M_sha_Sum F []).bind fun v0 => some v0
  else
    if decide ((↑x.length : Int) = 1) = true then (idx x 0).bind fun v1 => (M_proof_leaf F v1).bind fun v2 => some v2
    else
      (M_proof_half F (↑x.length : Int)).bind fun v3 =>
        ((sub x 0 v3).bind fun v4 =>
              (R v4).bind fun v5 => (sub x v3 (↑x.length : Int)).bind fun v6 => (R v6).bind fun v7 => (M_proof_knot F (v5, v7)).bind fun v8 => some (v8, ())).bind
          fun v9 => some v9.1
noncomputable def Mr_proof_top (F : Nat) : Nat → ((List (El .str))) → Option (List UInt8)
  | 0, _ => none
  | d + 1, x => Mb_proof_top F (Mr_proof_top F d) x
noncomputable def M_proof_top (F : Nat) (x : (List (El .str))) : Option (List UInt8) := Mr_proof_top F F x
theorem t_proof_top (x : (List (El .str))) (F : Nat) (R : (List (El .str)) → Option (List UInt8)) : fnRun TT Tryz.prog (e_proof_top F R) s_proof_top (bodyOf 76) F x = Mb_proof_top F R x := by kernel_rfl
theorem cr_proof_top (F : Nat) : ∀ d, Ctr TT Tryz.prog 76 (conOf TT s_proof_top (Mr_proof_top F d))
  | 0 => ctr_none _ _ _ _ (fun _ => rfl)
  | d + 1 => ctr_of (code := bodyOf 76) Tryz.func76 (by kernel_rfl) (by kernel_rfl) (by kernel_rfl) (by kernel_rfl) (envS_ok (envS_ok (envS_ok (envS_ok (envS_ok envN_ok (c_sha_Sum F)) (c_proof_leaf F)) (c_proof_half F)) (c_proof_knot F)) (cr_proof_top F d)) hm (by kernel_rfl) (fun x r h => ⟨F, (t_proof_top x F (Mr_proof_top F d)).trans h⟩)
theorem c_proof_top (F : Nat) : Ctr TT Tryz.prog 76 (conOf TT s_proof_top (M_proof_top F)) := cr_proof_top F F
theorem mob_proof_top {F F' : Nat} (h : F ≤ F') {R R' : (List (El .str)) → Option (List UInt8)} (hR : ∀ v, Le (R v) (R' v)) : ∀ v, Le (Mb_proof_top F R v) (Mb_proof_top F' R' v) := by
  intro v
  unfold Mb_proof_top
  with_reducible repeat (first | (intro v) | exact Le.refl _ | exact h | exact hR _ | exact mo_sha_Sum h _ | exact mo_proof_leaf h _ | exact mo_proof_half h _ | exact mo_proof_knot h _ | apply Le.bind | apply Le.ite | apply Le.loop | apply Le.sumC)
theorem mor_proof_top {F F' : Nat} (h : F ≤ F') : ∀ {d d' : Nat}, d ≤ d' → ∀ v, Le (Mr_proof_top F d v) (Mr_proof_top F' d' v)
  | 0, _, _, _ => ⟨fun _ h => by cases h⟩
  | _ + 1, 0, h', _ => by omega
  | d + 1, d' + 1, h', v => mob_proof_top h (mor_proof_top h (Nat.le_of_succ_le_succ h')) v
theorem mo_proof_top {F F' : Nat} (h : F ≤ F') (v : (List (El .str))) : Le (M_proof_top F v) (M_proof_top F' v) := mor_proof_top h h v
noncomputable def s_proof_Root : Spec Kd := { params := [(.a (.slc .str))], ret := (.one (.a .str)), pins := [], pl := { nt := 8 }, rfrz := [], ts := [2] }
noncomputable def e_proof_Root (F : Nat) : Env El := (envS 58 (conOf TT s_proof_seal (M_proof_seal F)) (envS 76 (conOf TT s_proof_top (M_proof_top F)) envN))
/-- concierge/proof.Root -/
noncomputable def M_proof_Root (F : Nat) (x : (List (El .str))) : Option (List UInt8) :=
  (M_proof_top F x).bind fun v0 => (M_proof_seal F ((↑x.length : Int), v0)).bind fun v1 => some v1
theorem t_proof_Root (x : (List (El .str))) (F : Nat) : fnRun TT Tryz.prog (e_proof_Root F) s_proof_Root (bodyOf 45) F x = M_proof_Root F x := by kernel_rfl
theorem c_proof_Root (F : Nat) : Ctr TT Tryz.prog 45 (conOf TT s_proof_Root (M_proof_Root F)) :=
  ctr_of (code := bodyOf 45) Tryz.func45 (by kernel_rfl) (by kernel_rfl) (by kernel_rfl) (by kernel_rfl) (envS_ok (envS_ok envN_ok (c_proof_top F)) (c_proof_seal F)) hm (by kernel_rfl) (fun x r h => ⟨F, (t_proof_Root x F).trans h⟩)
theorem mo_proof_Root {F F' : Nat} (h : F ≤ F') : ∀ v, Le (M_proof_Root F v) (M_proof_Root F' v) := by
  intro v
  unfold M_proof_Root
  with_reducible repeat (first | (intro v) | exact Le.refl _ | exact h | exact mo_proof_top h _ | exact mo_proof_seal h _ | apply Le.bind | apply Le.ite | apply Le.loop | apply Le.sumC)
noncomputable def s_slices_Reverse_string_string : Spec Kd := { params := [(.newb 9 [(.row 9 .str)])], ret := (.tup []), pins := [[(.row 9 .str)]], pl := { nt := 28, loops := [(0, ⟨[.tmp 0 (.a (.rowp 1)), .tmp 2 (.a (.int .i64)), .tmp 3 (.a (.int .i64)), .box 1 (.row 9 .str)], [], [.tmpRow 0 1 9 .str]⟩, (.exit 0, ⟨[.tmp 0 (.a (.rowp 1)), .box 1 (.row 9 .str)], [], [.tmpRow 0 1 9 .str]⟩), [])] }, rfrz := [], ts := [] }
noncomputable def e_slices_Reverse_string_string (F : Nat) : Env El := envN
/-- slices.Reverse[[]string,string] -/
noncomputable def M_slices_Reverse_string_string_l0 (F : Nat) (v0 : (Unit × Int × Int × List (List UInt8) × Unit)) : Option ((Unit × Int × Int × List (List UInt8) × Unit) ⊕ (Unit × List (List UInt8) × Unit)) :=
  if decide (v0.2.1 < v0.2.2.1) = true then
          (idx v0.2.2.2.1 v0.2.2.1).bind fun v1 =>
            (idx v0.2.2.2.1 v0.2.1).bind fun v2 =>
              (idx v0.2.2.2.1 v0.2.1).bind fun v3 =>
                ((idx v0.2.2.2.1 (↑v0.2.1.toNat : Int)).bind fun v4 => some v1).bind fun v5 =>
                  (idx (lset v0.2.2.2.1 v0.2.1.toNat v5) v0.2.2.1).bind fun v6 =>
                    ((idx (lset v0.2.2.2.1 v0.2.1.toNat v5) (↑v0.2.2.1.toNat : Int)).bind fun v7 => some v2).bind fun v8 =>
                      some
                        (Sum.inl
                          ((), IntKind.i64.wrap (v0.2.1 + 1), IntKind.i64.wrap (v0.2.2.1 - 1), lset (lset v0.2.2.2.1 v0.2.1.toNat v5) v0.2.2.1.toNat v8, ()))
        else some (Sum.inr ((), v0.2.2.2.1, ()))
noncomputable def M_slices_Reverse_string_string (F : Nat) (x : ((List (El .str)) × Unit)) : Option ((Unit) × ((List (El .str)) × Unit)) :=
  (loopM (M_slices_Reverse_string_string_l0 F)
        F ((), 0, IntKind.i64.wrap ((↑x.1.length : Int) - 1), x.1, ())).bind
    fun v9 => some ((), v9.2.1, ())
theorem t_slices_Reverse_string_string (x : ((List (El .str)) × Unit)) (F : Nat) : fnRun TT Tryz.prog (e_slices_Reverse_string_string F) s_slices_Reverse_string_string (bodyOf 77) F x = M_slices_Reverse_string_string F x := by kernel_rfl
theorem c_slices_Reverse_string_string (F : Nat) : Ctr TT Tryz.prog 77 (conOf TT s_slices_Reverse_string_string (M_slices_Reverse_string_string F)) :=
  ctr_of (code := bodyOf 77) Tryz.func77 (by kernel_rfl) (by kernel_rfl) (by kernel_rfl) (by kernel_rfl) envN_ok hm (by kernel_rfl) (fun x r h => ⟨F, (t_slices_Reverse_string_string x F).trans h⟩)
theorem mo_slices_Reverse_string_string_l0 {F F' : Nat} (h : F ≤ F') : ∀ v, Le (M_slices_Reverse_string_string_l0 F v) (M_slices_Reverse_string_string_l0 F' v) := by
  intro v
  unfold M_slices_Reverse_string_string_l0
  with_reducible repeat (first | (intro v) | exact Le.refl _ | exact h | apply Le.bind | apply Le.ite | apply Le.loop | apply Le.sumC)
theorem mo_slices_Reverse_string_string {F F' : Nat} (h : F ≤ F') : ∀ v, Le (M_slices_Reverse_string_string F v) (M_slices_Reverse_string_string F' v) := by
  intro v
  unfold M_slices_Reverse_string_string
  with_reducible repeat (first | (intro v) | exact Le.refl _ | exact h | exact mo_slices_Reverse_string_string_l0 h | exact mo_slices_Reverse_string_string_l0 h _ | apply Le.bind | apply Le.ite | apply Le.loop | apply Le.sumC)
noncomputable def s_proof_Path : Spec Kd := { params := [(.a (.slc .str)), (.a (.int .i64))], ret := (.tup [(.a (.row 9 .str)), (.a .bool)]), pins := [], pl := { nt := 51, orc := { rv := [4, 6, 25, 31, 35, 41, 50], gv := [], ln := [48] }, loops := [(0, ⟨[.tmp 0 (.a (.slc .str)), .tmp 1 (.a (.int .i64)), .tmp 6 (.a (.rowp 384)), .box 384 (.row 9 .str)], [], [.tmpRow 6 384 9 .str]⟩, (.exit 0, ⟨[.tmp 6 (.a (.rowp 384)), .box 384 (.row 9 .str)], [], [.tmpRow 6 384 9 .str]⟩), [])], cuts := [(1, [(8, ⟨[.tmp 0 (.a (.slc .str)), .tmp 1 (.a (.int .i64)), .tmp 15 (.a .bool)], [], []⟩)])] }, rfrz := [], ts := [4, 5] }
noncomputable def e_proof_Path (F : Nat) : Env El := (envS 77 (conOf TT s_slices_Reverse_string_string (M_slices_Reverse_string_string F)) (envS 76 (conOf TT s_proof_top (M_proof_top F)) (envS 75 (conOf TT s_proof_half (M_proof_half F)) envN)))
/-- concierge/proof.Path -/
noncomputable def M_proof_Path_l0 (F : Nat) (v1 : (List (List UInt8) × Int × Unit × List (List UInt8) × Unit)) : Option ((List (List UInt8) × Int × Unit × List (List UInt8) × Unit) ⊕ (Unit × List (List UInt8) × Unit)) :=
  if decide (1 < (↑v1.1.length : Int)) = true then
              (M_proof_half F (↑v1.1.length : Int)).bind fun v2 =>
                if decide (v1.2.1 < v2) = true then
                  (sub v1.1 v2 (↑v1.1.length : Int)).bind fun v3 =>
                    (M_proof_top F v3).bind fun v4 =>
                      if decide ((v1.2.2.2.1.length + [v4].length) * 16 ≤ 140737488355328) = true then
                        (sub v1.1 0 v2).bind fun v5 => some (Sum.inl (v5, v1.2.1, (), v1.2.2.2.1 ++ [v4], ()))
                      else none
                else
                  (sub v1.1 0 v2).bind fun v6 =>
                    (M_proof_top F v6).bind fun v7 =>
                      if decide ((v1.2.2.2.1.length + [v7].length) * 16 ≤ 140737488355328) = true then
                        (sub v1.1 v2 (↑v1.1.length : Int)).bind fun v8 => some (Sum.inl (v8, IntKind.i64.wrap (v1.2.1 - v2), (), v1.2.2.2.1 ++ [v7], ()))
                      else none
            else some (Sum.inr ((), v1.2.2.2.1, ()))
noncomputable def M_proof_Path (F : Nat) (x : (List (El .str)) × (Int)) : Option ((List (El .str)) × (Bool)) :=
  (if decide (x.2 < 0) = false then some (x.1, x.2, decide ((↑x.1.length : Int) ≤ x.2), ()) else some (x.1, x.2, true, ())).bind fun v0 =>
    if v0.2.2.1 = true then some ([], false)
    else
      (loopM (M_proof_Path_l0 F)
            F (v0.1, v0.2.1, (), [], ())).bind
        fun v9 => (M_slices_Reverse_string_string F (v9.2.1, ())).bind fun v10 => some (v10.2.1, true)
theorem t_proof_Path (x : (List (El .str)) × (Int)) (F : Nat) : fnRun TT Tryz.prog (e_proof_Path F) s_proof_Path (bodyOf 44) F x = M_proof_Path F x := by kernel_rfl
theorem c_proof_Path (F : Nat) : Ctr TT Tryz.prog 44 (conOf TT s_proof_Path (M_proof_Path F)) :=
  ctr_of (code := bodyOf 44) Tryz.func44 (by kernel_rfl) (by kernel_rfl) (by kernel_rfl) (by kernel_rfl) (envS_ok (envS_ok (envS_ok envN_ok (c_proof_half F)) (c_proof_top F)) (c_slices_Reverse_string_string F)) hm (by kernel_rfl) (fun x r h => ⟨F, (t_proof_Path x F).trans h⟩)
theorem mo_proof_Path_l0 {F F' : Nat} (h : F ≤ F') : ∀ v, Le (M_proof_Path_l0 F v) (M_proof_Path_l0 F' v) := by
  intro v
  unfold M_proof_Path_l0
  with_reducible repeat (first | (intro v) | exact Le.refl _ | exact h | exact mo_proof_half h _ | exact mo_proof_top h _ | exact mo_slices_Reverse_string_string h _ | apply Le.bind | apply Le.ite | apply Le.loop | apply Le.sumC)
theorem mo_proof_Path {F F' : Nat} (h : F ≤ F') : ∀ v, Le (M_proof_Path F v) (M_proof_Path F' v) := by
  intro v
  unfold M_proof_Path
  with_reducible repeat (first | (intro v) | exact Le.refl _ | exact h | exact mo_proof_half h _ | exact mo_proof_top h _ | exact mo_slices_Reverse_string_string h _ | exact mo_proof_Path_l0 h | exact mo_proof_Path_l0 h _ | apply Le.bind | apply Le.ite | apply Le.loop | apply Le.sumC)
noncomputable def s_proof_turns : Spec Kd := { params := [(.a (.int .i64)), (.a (.int .i64))], ret := (.one (.a (.row 4 .bo))), pins := [], pl := { nt := 28, orc := { rv := [4, 5, 15, 18, 27], gv := [] }, loops := [(0, ⟨[.tmp 0 (.a (.int .i64)), .tmp 1 (.a (.int .i64)), .tmp 5 (.a (.rowp 320)), .box 320 (.row 4 .bo)], [], [.tmpRow 5 320 4 .bo]⟩, (.exit 0, ⟨[.tmp 5 (.a (.rowp 320)), .box 320 (.row 4 .bo)], [], [.tmpRow 5 320 4 .bo]⟩), [])] }, rfrz := [], ts := [4] }
noncomputable def e_proof_turns (F : Nat) : Env El := (envS 75 (conOf TT s_proof_half (M_proof_half F)) envN)
/-- concierge/proof.turns -/
noncomputable def M_proof_turns_l0 (F : Nat) (v0 : (Int × Int × Unit × List Bool × Unit)) : Option ((Int × Int × Unit × List Bool × Unit) ⊕ (Unit × List Bool × Unit)) :=
  if decide (1 < v0.1) = true then
          (M_proof_half F v0.1).bind fun v1 =>
            if decide ((v0.2.2.2.1.length + [decide (v1 ≤ v0.2.1)].length) * 1 ≤ 140737488355328) = true then
              if decide (v1 ≤ v0.2.1) = true then
                some (Sum.inl (IntKind.i64.wrap (v0.1 - v1), IntKind.i64.wrap (v0.2.1 - v1), (), v0.2.2.2.1 ++ [decide (v1 ≤ v0.2.1)], ()))
              else some (Sum.inl (v1, v0.2.1, (), v0.2.2.2.1 ++ [decide (v1 ≤ v0.2.1)], ()))
            else none
        else some (Sum.inr ((), v0.2.2.2.1, ()))
noncomputable def M_proof_turns (F : Nat) (x : (Int) × (Int)) : Option (List (El .bo)) :=
  (loopM (M_proof_turns_l0 F)
        F (x.1, x.2, (), [], ())).bind
    fun v2 => some v2.2.1
theorem t_proof_turns (x : (Int) × (Int)) (F : Nat) : fnRun TT Tryz.prog (e_proof_turns F) s_proof_turns (bodyOf 55) F x = M_proof_turns F x := by kernel_rfl
theorem c_proof_turns (F : Nat) : Ctr TT Tryz.prog 55 (conOf TT s_proof_turns (M_proof_turns F)) :=
  ctr_of (code := bodyOf 55) Tryz.func55 (by kernel_rfl) (by kernel_rfl) (by kernel_rfl) (by kernel_rfl) (envS_ok envN_ok (c_proof_half F)) hm (by kernel_rfl) (fun x r h => ⟨F, (t_proof_turns x F).trans h⟩)
theorem mo_proof_turns_l0 {F F' : Nat} (h : F ≤ F') : ∀ v, Le (M_proof_turns_l0 F v) (M_proof_turns_l0 F' v) := by
  intro v
  unfold M_proof_turns_l0
  with_reducible repeat (first | (intro v) | exact Le.refl _ | exact h | exact mo_proof_half h _ | apply Le.bind | apply Le.ite | apply Le.loop | apply Le.sumC)
theorem mo_proof_turns {F F' : Nat} (h : F ≤ F') : ∀ v, Le (M_proof_turns F v) (M_proof_turns F' v) := by
  intro v
  unfold M_proof_turns
  with_reducible repeat (first | (intro v) | exact Le.refl _ | exact h | exact mo_proof_half h _ | exact mo_proof_turns_l0 h | exact mo_proof_turns_l0 h _ | apply Le.bind | apply Le.ite | apply Le.loop | apply Le.sumC)
noncomputable def s_proof_Check : Spec Kd := { params := [(.a .str), (.a (.int .i64)), (.a (.int .i64)), (.a .str), (.a (.slc .str))], ret := (.one (.a .bool)), pins := [], pl := { nt := 70, bjoins := [(1, (.norm, ⟨[.tmp 0 (.a .str), .tmp 1 (.a (.int .i64)), .tmp 11 (.a (.slc .bo)), .tmp 12 (.a .str), .tmp 40 (.a (.slc .str)), .tmp 41 (.a (.int .i64)), .tmp 42 (.a (.int .i64))], [2048], []⟩), [(.ret, ⟨[.tmp 10 (.a .bool)], [2048], []⟩)])], loops := [(0, ⟨[.tmp 0 (.a .str), .tmp 1 (.a (.int .i64)), .tmp 11 (.a (.slc .bo)), .tmp 12 (.a .str), .tmp 40 (.a (.slc .str)), .tmp 41 (.a (.int .i64)), .tmp 42 (.a (.int .i64))], [2048], []⟩, (.exit 0, ⟨[.tmp 0 (.a .str), .tmp 1 (.a (.int .i64)), .tmp 12 (.a .str)], [2048], []⟩), [(.ret, ⟨[.tmp 10 (.a .bool)], [2048], []⟩)])], cuts := [(1, [(6, ⟨[.tmp 0 (.a .str), .tmp 1 (.a (.int .i64)), .tmp 2 (.a (.int .i64)), .tmp 3 (.a .str), .tmp 4 (.a (.slc .str)), .tmp 20 (.a .bool)], [2048], []⟩), (4, ⟨[.tmp 0 (.a .str), .tmp 1 (.a (.int .i64)), .tmp 2 (.a (.int .i64)), .tmp 3 (.a .str), .tmp 4 (.a (.slc .str)), .tmp 24 (.a .bool)], [2048], []⟩), (5, ⟨[.tmp 0 (.a .str), .tmp 1 (.a (.int .i64)), .tmp 2 (.a (.int .i64)), .tmp 3 (.a .str), .tmp 4 (.a (.slc .str)), .tmp 29 (.a .bool)], [2048], []⟩)])] }, rfrz := [], ts := [10] }
noncomputable def e_proof_Check (F : Nat) : Env El := (envS 58 (conOf TT s_proof_seal (M_proof_seal F)) (envS 57 (conOf TT s_proof_knot (M_proof_knot F)) (envS 56 (conOf TT s_proof_leaf (M_proof_leaf F)) (envS 55 (conOf TT s_proof_turns (M_proof_turns F)) envN))))
/-- concierge/proof.Check -/
noncomputable def M_proof_Check_l0 (F : Nat) (v5 : (List UInt8 × Int × List Bool × List UInt8 × List (List UInt8) × Int × Int × Unit)) : Option ((List UInt8 × Int × List Bool × List UInt8 × List (List UInt8) × Int × Int × Unit) ⊕ (List UInt8 × Int × List UInt8 × Unit ⊕ Bool × Unit)) :=
  if decide (v5.2.2.2.2.2.2.1 < v5.2.2.2.2.2.1) = true then
                        ((idx v5.2.2.2.2.1 v5.2.2.2.2.2.2.1).bind fun v6 =>
                              if (!decide ((↑v6.length : Int) = 32)) = true then some (Sum.inr (false, ()))
                              else
                                (idx v5.2.2.1 (IntKind.i64.wrap (IntKind.i64.wrap ((↑v5.2.2.1.length : Int) - 1) - v5.2.2.2.2.2.2.1))).bind fun v7 =>
                                  if v7 = true then
                                    (M_proof_knot F (v6, v5.2.2.2.1)).bind fun v8 =>
                                      some (Sum.inl (v5.1, v5.2.1, v5.2.2.1, v8, v5.2.2.2.2.1, v5.2.2.2.2.2.1, v5.2.2.2.2.2.2.1, ()))
                                  else
                                    (M_proof_knot F (v5.2.2.2.1, v6)).bind fun v9 =>
                                      some (Sum.inl (v5.1, v5.2.1, v5.2.2.1, v9, v5.2.2.2.2.1, v5.2.2.2.2.2.1, v5.2.2.2.2.2.2.1, ()))).bind
                          fun v10 =>
                          sumC v10
                            (fun v11 =>
                              some
                                (Sum.inl
                                  (v11.1, v11.2.1, v11.2.2.1, v11.2.2.2.1, v11.2.2.2.2.1, v11.2.2.2.2.2.1, IntKind.i64.wrap (v11.2.2.2.2.2.2.1 + 1), ())))
                            fun v12 => some (Sum.inr (Sum.inr (v12.1, ())))
                      else some (Sum.inr (Sum.inl (v5.1, v5.2.1, v5.2.2.2.1, ())))
noncomputable def M_proof_Check (F : Nat) (x : (List UInt8) × (Int) × (Int) × (List UInt8) × (List (El .str))) : Option (Bool) :=
  (if decide (x.2.1 < 1) = false then some (x.1, x.2.1, x.2.2.1, x.2.2.2.1, x.2.2.2.2, decide (1048576 < x.2.1), ())
      else some (x.1, x.2.1, x.2.2.1, x.2.2.2.1, x.2.2.2.2, true, ())).bind
    fun v0 =>
    (if v0.2.2.2.2.2.1 = false then some (v0.1, v0.2.1, v0.2.2.1, v0.2.2.2.1, v0.2.2.2.2.1, decide (v0.2.2.1 < 0), ())
        else some (v0.1, v0.2.1, v0.2.2.1, v0.2.2.2.1, v0.2.2.2.2.1, true, ())).bind
      fun v1 =>
      (if v1.2.2.2.2.2.1 = false then some (v1.1, v1.2.1, v1.2.2.1, v1.2.2.2.1, v1.2.2.2.2.1, decide (v1.2.1 ≤ v1.2.2.1), ())
          else some (v1.1, v1.2.1, v1.2.2.1, v1.2.2.2.1, v1.2.2.2.2.1, true, ())).bind
        fun v2 =>
        if v2.2.2.2.2.2.1 = true then some false
        else
          (M_proof_turns F (v2.2.1, v2.2.2.1)).bind fun v3 =>
            if (!decide ((↑v3.length : Int) = (↑v2.2.2.2.2.1.length : Int))) = true then some false
            else
              (M_proof_leaf F v2.2.2.2.1).bind fun v4 =>
                (loopM (M_proof_Check_l0 F)
                      F (v2.1, v2.2.1, v3, v4, v2.2.2.2.2.1, (↑v2.2.2.2.2.1.length : Int), 0, ())).bind
                  fun v13 => sumC v13 (fun v14 => (M_proof_seal F (v14.2.1, v14.2.2.1)).bind fun v15 => some (decide (v15 = v14.1))) fun v16 => some v16.1
theorem t_proof_Check (x : (List UInt8) × (Int) × (Int) × (List UInt8) × (List (El .str))) (F : Nat) : fnRun TT Tryz.prog (e_proof_Check F) s_proof_Check (bodyOf 22) F x = M_proof_Check F x := by kernel_rfl
theorem c_proof_Check (F : Nat) : Ctr TT Tryz.prog 22 (conOf TT s_proof_Check (M_proof_Check F)) :=
  ctr_of (code := bodyOf 22) Tryz.func22 (by kernel_rfl) (by kernel_rfl) (by kernel_rfl) (by kernel_rfl) (envS_ok (envS_ok (envS_ok (envS_ok envN_ok (c_proof_turns F)) (c_proof_leaf F)) (c_proof_knot F)) (c_proof_seal F)) hm (by kernel_rfl) (fun x r h => ⟨F, (t_proof_Check x F).trans h⟩)
theorem mo_proof_Check_l0 {F F' : Nat} (h : F ≤ F') : ∀ v, Le (M_proof_Check_l0 F v) (M_proof_Check_l0 F' v) := by
  intro v
  unfold M_proof_Check_l0
  with_reducible repeat (first | (intro v) | exact Le.refl _ | exact h | exact mo_proof_turns h _ | exact mo_proof_leaf h _ | exact mo_proof_knot h _ | exact mo_proof_seal h _ | apply Le.bind | apply Le.ite | apply Le.loop | apply Le.sumC)
theorem mo_proof_Check {F F' : Nat} (h : F ≤ F') : ∀ v, Le (M_proof_Check F v) (M_proof_Check F' v) := by
  intro v
  unfold M_proof_Check
  with_reducible repeat (first | (intro v) | exact Le.refl _ | exact h | exact mo_proof_turns h _ | exact mo_proof_leaf h _ | exact mo_proof_knot h _ | exact mo_proof_seal h _ | exact mo_proof_Check_l0 h | exact mo_proof_Check_l0 h _ | apply Le.bind | apply Le.ite | apply Le.loop | apply Le.sumC)

end Go.Vm
