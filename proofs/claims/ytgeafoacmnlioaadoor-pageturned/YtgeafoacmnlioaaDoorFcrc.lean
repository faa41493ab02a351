/- Models of functions of the program, and that each keeps its contract: for all arguments of its shape. No condition. -/
import Derived.Test.YtgeafoacmnlioaaDoorKt
namespace Go.Vm
open Go.Proofs
set_option linter.unusedVariables false
noncomputable def s_crc_byteMore : Spec Kd := { params := [(.a (.int .u32)), (.a (.int .u8))], ret := (.one (.a (.int .u32))), pins := [], pl := { nt := 22, bjoins := [(1, (.norm, ⟨[.tmp 0 (.a (.int .u32)), .tmp 10 (.a (.int .i64))], [], []⟩), [])], loops := [(0, ⟨[.tmp 0 (.a (.int .u32)), .tmp 10 (.a (.int .i64))], [], []⟩, (.exit 0, ⟨[.tmp 0 (.a (.int .u32))], [], []⟩), [])] }, rfrz := [], ts := [4] }
noncomputable def e_crc_byteMore (F : Nat) : Env El := envN
noncomputable def M_crc_byteMore_l0 (F : Nat) (v0 : (Int × Int × Unit)) : Option ((Int × Int × Unit) ⊕ (Int × Unit)) :=
  if decide (v0.2.1 < 8) = true then
          (if decide (iand IntKind.u32 v0.1 1 = 1) = true then some (ixor IntKind.u32 (shr IntKind.u32 v0.1 1) 3988292384, v0.2.1, ())
              else some (shr IntKind.u32 v0.1 1, v0.2.1, ())).bind
            fun v1 => some (Sum.inl (v1.1, IntKind.i64.wrap (v1.2.1 + 1), ()))
        else some (Sum.inr (v0.1, ()))
noncomputable def M_crc_byteMore (F : Nat) (x : (Int) × (Int)) : Option (Int) :=
  (loopM (M_crc_byteMore_l0 F)
        F (ixor IntKind.u32 x.1 (IntKind.u32.wrap x.2), 0, ())).bind
    fun v2 => some v2.1
theorem t_crc_byteMore (x : (Int) × (Int)) (F : Nat) : fnRun TT Tryd.prog (e_crc_byteMore F) s_crc_byteMore (bodyOf 120) F x = M_crc_byteMore F x := by kernel_rfl
theorem c_crc_byteMore (F : Nat) : Ctr TT Tryd.prog 120 (conOf TT s_crc_byteMore (M_crc_byteMore F)) :=
  ctr_of (code := bodyOf 120) Tryd.func120 (by kernel_rfl) (by kernel_rfl) (by kernel_rfl) (by kernel_rfl) envN_ok hm (by kernel_rfl) (fun x r h => ⟨F, (t_crc_byteMore x F).trans h⟩)
theorem mo_crc_byteMore_l0 {F F' : Nat} (h : F ≤ F') : ∀ v, Le (M_crc_byteMore_l0 F v) (M_crc_byteMore_l0 F' v) := by
  intro v
  unfold M_crc_byteMore_l0
  with_reducible repeat (first | (intro v) | exact Le.refl _ | exact h | apply Le.bind | apply Le.ite | apply Le.loop | apply Le.sumC)
theorem mo_crc_byteMore {F F' : Nat} (h : F ≤ F') : ∀ v, Le (M_crc_byteMore F v) (M_crc_byteMore F' v) := by
  intro v
  unfold M_crc_byteMore
  with_reducible repeat (first | (intro v) | exact Le.refl _ | exact h | exact mo_crc_byteMore_l0 h | exact mo_crc_byteMore_l0 h _ | apply Le.bind | apply Le.ite | apply Le.loop | apply Le.sumC)
noncomputable def s_crc_Next : Spec Kd := { params := [(.a (.int .u32)), (.a .str)], ret := (.one (.a (.int .u32))), pins := [], pl := { nt := 22, loops := [(0, ⟨[.tmp 1 (.a .str), .tmp 5 (.a (.int .u32)), .tmp 10 (.a (.int .i64)), .tmp 11 (.a (.int .i64))], [], []⟩, (.exit 0, ⟨[.tmp 5 (.a (.int .u32))], [], []⟩), [])] }, rfrz := [], ts := [4] }
noncomputable def e_crc_Next (F : Nat) : Env El := (envS 120 (conOf TT s_crc_byteMore (M_crc_byteMore F)) envN)
noncomputable def M_crc_Next_l0 (F : Nat) (v0 : (List UInt8 × Int × Int × Int × Unit)) : Option ((List UInt8 × Int × Int × Int × Unit) ⊕ (Int × Unit)) :=
  if decide (v0.2.2.2.1 < v0.2.2.1) = true then
          (idx v0.1 v0.2.2.2.1).bind fun v1 =>
            (M_crc_byteMore F (v0.2.1, (↑v1.toNat : Int))).bind fun v2 => some (Sum.inl (v0.1, v2, v0.2.2.1, IntKind.i64.wrap (v0.2.2.2.1 + 1), ()))
        else some (Sum.inr (v0.2.1, ()))
noncomputable def M_crc_Next (F : Nat) (x : (Int) × (List UInt8)) : Option (Int) :=
  (loopM (M_crc_Next_l0 F)
        F (x.2, inot IntKind.u32 x.1, (↑x.2.length : Int), 0, ())).bind
    fun v3 => some (inot IntKind.u32 v3.1)
theorem t_crc_Next (x : (Int) × (List UInt8)) (F : Nat) : fnRun TT Tryd.prog (e_crc_Next F) s_crc_Next (bodyOf 92) F x = M_crc_Next F x := by kernel_rfl
theorem c_crc_Next (F : Nat) : Ctr TT Tryd.prog 92 (conOf TT s_crc_Next (M_crc_Next F)) :=
  ctr_of (code := bodyOf 92) Tryd.func92 (by kernel_rfl) (by kernel_rfl) (by kernel_rfl) (by kernel_rfl) (envS_ok envN_ok (c_crc_byteMore F)) hm (by kernel_rfl) (fun x r h => ⟨F, (t_crc_Next x F).trans h⟩)
theorem mo_crc_Next_l0 {F F' : Nat} (h : F ≤ F') : ∀ v, Le (M_crc_Next_l0 F v) (M_crc_Next_l0 F' v) := by
  intro v
  unfold M_crc_Next_l0
  with_reducible repeat (first | (intro v) | exact Le.refl _ | exact h | exact mo_crc_byteMore h _ | apply Le.bind | apply Le.ite | apply Le.loop | apply Le.sumC)
theorem mo_crc_Next {F F' : Nat} (h : F ≤ F') : ∀ v, Le (M_crc_Next F v) (M_crc_Next F' v) := by
  intro v
  unfold M_crc_Next
  with_reducible repeat (first | (intro v) | exact Le.refl _ | exact h | exact mo_crc_byteMore h _ | exact mo_crc_Next_l0 h | exact mo_crc_Next_l0 h _ | apply Le.bind | apply Le.ite | apply Le.loop | apply Le.sumC)
noncomputable def s_crc_Of : Spec Kd := { params := [(.a .str)], ret := (.one (.a (.int .u32))), pins := [], pl := { nt := 5 }, rfrz := [], ts := [2] }
noncomputable def e_crc_Of (F : Nat) : Env El := (envS 92 (conOf TT s_crc_Next (M_crc_Next F)) envN)
noncomputable def M_crc_Of (F : Nat) (x : (List UInt8)) : Option (Int) :=
  (M_crc_Next F (0, x)).bind fun v0 => some v0
theorem t_crc_Of (x : (List UInt8)) (F : Nat) : fnRun TT Tryd.prog (e_crc_Of F) s_crc_Of (bodyOf 69) F x = M_crc_Of F x := by kernel_rfl
theorem c_crc_Of (F : Nat) : Ctr TT Tryd.prog 69 (conOf TT s_crc_Of (M_crc_Of F)) :=
  ctr_of (code := bodyOf 69) Tryd.func69 (by kernel_rfl) (by kernel_rfl) (by kernel_rfl) (by kernel_rfl) (envS_ok envN_ok (c_crc_Next F)) hm (by kernel_rfl) (fun x r h => ⟨F, (t_crc_Of x F).trans h⟩)
theorem mo_crc_Of {F F' : Nat} (h : F ≤ F') : ∀ v, Le (M_crc_Of F v) (M_crc_Of F' v) := by
  intro v
  unfold M_crc_Of
  with_reducible repeat (first | (intro v) | exact Le.refl _ | exact h | exact mo_crc_Next h _ | apply Le.bind | apply Le.ite | apply Le.loop | apply Le.sumC)
noncomputable def s_crc_Seal : Spec Kd := { params := [(.a .str)], ret := (.one (.a .str)), pins := [], pl := { nt := 21, cuts := [(2, [(16, ⟨[.tmp 2 (.a .str)], [], []⟩)])] }, rfrz := [], ts := [2] }
noncomputable def e_crc_Seal (F : Nat) : Env El := (envS 69 (conOf TT s_crc_Of (M_crc_Of F)) envN)
noncomputable def M_crc_Seal (F : Nat) (x : (List UInt8)) : Option (List UInt8) :=
  (M_crc_Of F x).bind fun v0 =>
    (if
            decide
                (x.length +
                    [UInt8.ofNat (IntKind.u8.wrap (shr IntKind.u32 v0 24)).toNat, UInt8.ofNat (IntKind.u8.wrap (shr IntKind.u32 v0 16)).toNat,
                        UInt8.ofNat (IntKind.u8.wrap (shr IntKind.u32 v0 8)).toNat, UInt8.ofNat (IntKind.u8.wrap v0).toNat].length ≤
                  9223372036854775807) =
              true then
          some
            (x ++
                [UInt8.ofNat (IntKind.u8.wrap (shr IntKind.u32 v0 24)).toNat, UInt8.ofNat (IntKind.u8.wrap (shr IntKind.u32 v0 16)).toNat,
                  UInt8.ofNat (IntKind.u8.wrap (shr IntKind.u32 v0 8)).toNat, UInt8.ofNat (IntKind.u8.wrap v0).toNat],
              ())
        else none).bind
      fun v1 => some v1.1
theorem t_crc_Seal (x : (List UInt8)) (F : Nat) : fnRun TT Tryd.prog (e_crc_Seal F) s_crc_Seal (bodyOf 36) F x = M_crc_Seal F x := by kernel_rfl
theorem c_crc_Seal (F : Nat) : Ctr TT Tryd.prog 36 (conOf TT s_crc_Seal (M_crc_Seal F)) :=
  ctr_of (code := bodyOf 36) Tryd.func36 (by kernel_rfl) (by kernel_rfl) (by kernel_rfl) (by kernel_rfl) (envS_ok envN_ok (c_crc_Of F)) hm (by kernel_rfl) (fun x r h => ⟨F, (t_crc_Seal x F).trans h⟩)
theorem mo_crc_Seal {F F' : Nat} (h : F ≤ F') : ∀ v, Le (M_crc_Seal F v) (M_crc_Seal F' v) := by
  intro v
  unfold M_crc_Seal
  with_reducible repeat (first | (intro v) | exact Le.refl _ | exact h | exact mo_crc_Of h _ | apply Le.bind | apply Le.ite | apply Le.loop | apply Le.sumC)
noncomputable def s_crc_Open : Spec Kd := { params := [(.a .str)], ret := (.tup [(.a .str), (.a .bool)]), pins := [], pl := { nt := 21, cuts := [(2, [(10, ⟨[.tmp 0 (.a .str), .tmp 4 (.a (.int .i64)), .tmp 17 (.a .bool)], [], []⟩)])] }, rfrz := [], ts := [2, 3] }
noncomputable def e_crc_Open (F : Nat) : Env El := (envS 36 (conOf TT s_crc_Seal (M_crc_Seal F)) envN)
noncomputable def M_crc_Open (F : Nat) (x : (List UInt8)) : Option ((List UInt8) × (Bool)) :=
  (if decide (IntKind.i64.wrap ((↑x.length : Int) - 4) < 0) = false then
        (sub x 0 (IntKind.i64.wrap ((↑x.length : Int) - 4))).bind fun v0 =>
          (M_crc_Seal F v0).bind fun v1 => some (x, IntKind.i64.wrap ((↑x.length : Int) - 4), !decide (v1 = x), ())
      else some (x, IntKind.i64.wrap ((↑x.length : Int) - 4), true, ())).bind
    fun v2 => if v2.2.2.1 = true then some ([], false) else (sub v2.1 0 v2.2.1).bind fun v3 => some (v3, true)
theorem t_crc_Open (x : (List UInt8)) (F : Nat) : fnRun TT Tryd.prog (e_crc_Open F) s_crc_Open (bodyOf 27) F x = M_crc_Open F x := by kernel_rfl
theorem c_crc_Open (F : Nat) : Ctr TT Tryd.prog 27 (conOf TT s_crc_Open (M_crc_Open F)) :=
  ctr_of (code := bodyOf 27) Tryd.func27 (by kernel_rfl) (by kernel_rfl) (by kernel_rfl) (by kernel_rfl) (envS_ok envN_ok (c_crc_Seal F)) hm (by kernel_rfl) (fun x r h => ⟨F, (t_crc_Open x F).trans h⟩)
theorem mo_crc_Open {F F' : Nat} (h : F ≤ F') : ∀ v, Le (M_crc_Open F v) (M_crc_Open F' v) := by
  intro v
  unfold M_crc_Open
  with_reducible repeat (first | (intro v) | exact Le.refl _ | exact h | exact mo_crc_Seal h _ | apply Le.bind | apply Le.ite | apply Le.loop | apply Le.sumC)
end Go.Vm
