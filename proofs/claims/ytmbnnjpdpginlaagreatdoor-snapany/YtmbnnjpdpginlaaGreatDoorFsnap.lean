/- Models of functions of the program, and that each keeps its contract: for all arguments of its shape. No condition. -/
import Derived.Test.YtmbnnjpdpginlaaGreatDoorKt
import Derived.Test.YtmbnnjpdpginlaaGreatDoorFframe
import Derived.Test.YtmbnnjpdpginlaaGreatDoorFentry
import Derived.Test.YtmbnnjpdpginlaaGreatDoorFpk
import Derived.Test.YtmbnnjpdpginlaaGreatDoorFopn
import Derived.Test.YtmbnnjpdpginlaaGreatDoorFbld
namespace Go.Vm
open Go.Proofs
set_option linter.unusedVariables false
noncomputable def s_snap_Need : Spec Kd := { params := [(.a (.int .i64))], ret := (.one (.a (.int .i64))), pins := [], pl := { nt := 8 }, rfrz := [], ts := [2] }
noncomputable def e_snap_Need (F : Nat) : Env El := envN
/-- concierge/snap.Need -/
noncomputable def M_snap_Need (F : Nat) (x : (Int)) : Option (Int) :=
  some (IntKind.i64.wrap (20 + IntKind.i64.wrap (243 * if 200 < if x < 0 then 0 else x then 200 else if x < 0 then 0 else x)))
theorem t_snap_Need (x : (Int)) (F : Nat) : fnRun TT Tryz.prog (e_snap_Need F) s_snap_Need (bodyOf 13) F x = M_snap_Need F x := by kernel_rfl
theorem c_snap_Need (F : Nat) : Ctr TT Tryz.prog 13 (conOf TT s_snap_Need (M_snap_Need F)) :=
  ctr_of (code := bodyOf 13) Tryz.func13 (by kernel_rfl) (by kernel_rfl) (by kernel_rfl) (by kernel_rfl) envN_ok hm (by kernel_rfl) (fun x r h => ⟨F, (t_snap_Need x F).trans h⟩)
theorem mo_snap_Need {F F' : Nat} (h : F ≤ F') : ∀ v, Le (M_snap_Need F v) (M_snap_Need F' v) := by
  intro v
  unfold M_snap_Need
  with_reducible repeat (first | (intro v) | exact Le.refl _ | exact h | apply Le.bind | apply Le.ite | apply Le.loop | apply Le.sumC)
noncomputable def s_snap_behind : Spec Kd := { params := [(.agg [(.int .i64), .str, (.int .i64), (.int .i64), (.int .i64), (.int .i64), .str, (.int .i64), (.int .i64), (.int .i64), .str, .str, .str, .str]), (.agg [(.int .i64), .str, (.int .i64), (.int .i64), (.int .i64), (.int .i64), .str, (.int .i64), (.int .i64), (.int .i64), .str, .str, .str, .str])], ret := (.one (.a .bool)), pins := [], pl := { nt := 24, cuts := [(1, [(19, ⟨[.tmp 23 (.a .bool)], [], []⟩)])] }, rfrz := [], ts := [4] }
noncomputable def e_snap_behind (F : Nat) : Env El := envN
/-- concierge/snap.behind -/
noncomputable def M_snap_behind (F : Nat) (x : ((Int) × (List UInt8) × (Int) × (Int) × (Int) × (Int) × (List UInt8) × (Int) × (Int) × (Int) × (List UInt8) × (List UInt8) × (List UInt8) × (List UInt8) × Unit) × ((Int) × (List UInt8) × (Int) × (Int) × (Int) × (Int) × (List UInt8) × (Int) × (Int) × (Int) × (List UInt8) × (List UInt8) × (List UInt8) × (List UInt8) × Unit)) : Option (Bool) :=
  (if decide (x.2.1 < x.1.1) = false then
        if decide (x.1.1 = x.2.1) = true then some (!(Op.bytesLess x.1.2.1 x.2.2.1 || decide (x.1.2.1 = x.2.2.1)), ()) else some (false, ())
      else some (true, ())).bind
    fun (v0 : Bool × Unit) => some v0.1
theorem t_snap_behind (x : ((Int) × (List UInt8) × (Int) × (Int) × (Int) × (Int) × (List UInt8) × (Int) × (Int) × (Int) × (List UInt8) × (List UInt8) × (List UInt8) × (List UInt8) × Unit) × ((Int) × (List UInt8) × (Int) × (Int) × (Int) × (Int) × (List UInt8) × (Int) × (Int) × (Int) × (List UInt8) × (List UInt8) × (List UInt8) × (List UInt8) × Unit)) (F : Nat) : fnRun TT Tryz.prog (e_snap_behind F) s_snap_behind (bodyOf 61) F x = M_snap_behind F x := by kernel_rfl
theorem c_snap_behind (F : Nat) : Ctr TT Tryz.prog 61 (conOf TT s_snap_behind (M_snap_behind F)) :=
  ctr_of (code := bodyOf 61) Tryz.func61 (by kernel_rfl) (by kernel_rfl) (by kernel_rfl) (by kernel_rfl) envN_ok hm (by kernel_rfl) (fun x r h => ⟨F, (t_snap_behind x F).trans h⟩)
theorem mo_snap_behind {F F' : Nat} (h : F ≤ F') : ∀ v, Le (M_snap_behind F v) (M_snap_behind F' v) := by
  intro v
  unfold M_snap_behind
  with_reducible repeat (first | (intro v) | exact Le.refl _ | exact h | apply Le.bind | apply Le.ite | apply Le.loop | apply Le.sumC)
noncomputable def s_snap_may : Spec Kd := { params := [(.a (.slc .en)), (.a (.int .i64))], ret := (.one (.a .bool)), pins := [], pl := { nt := 49, loops := [(0, ⟨[.tmp 0 (.a (.slc .en)), .tmp 1 (.a (.int .i64)), .tmp 18 (.a (.slc .en)), .tmp 19 (.a (.int .i64)), .tmp 20 (.a (.int .i64))], [], []⟩, (.exit 0, ⟨[], [], []⟩), [(.ret, ⟨[.tmp 4 (.a .bool)], [], []⟩)])], cuts := [(1, [(6, ⟨[.tmp 0 (.a (.slc .en)), .tmp 1 (.a (.int .i64)), .tmp 12 (.a .bool)], [], []⟩), (5, ⟨[.tmp 0 (.a (.slc .en)), .tmp 1 (.a (.int .i64)), .tmp 17 (.a .bool)], [], []⟩)])], ends := [(6, ⟨[.tmp 0 (.a (.slc .en)), .tmp 1 (.a (.int .i64)), .tmp 18 (.a (.slc .en)), .tmp 19 (.a (.int .i64)), .tmp 20 (.a (.int .i64)), .tmp 47 (.a .bool)], [], []⟩)] }, rfrz := [], ts := [4] }
noncomputable def e_snap_may (F : Nat) : Env El := (envS 61 (conOf TT s_snap_behind (M_snap_behind F)) (envS 60 (conOf TT s_entry_May (M_entry_May F)) envN))
/-- concierge/snap.may -/
noncomputable def M_snap_may_l0 (F : Nat) (v2 : (List (Int × List UInt8 × Int × Int × Int × Int × List UInt8 × Int × Int × Int × List UInt8 × List UInt8 × List UInt8 × List UInt8 × Unit) ×
              Int ×
                List (Int × List UInt8 × Int × Int × Int × Int × List UInt8 × Int × Int × Int × List UInt8 × List UInt8 × List UInt8 × List UInt8 × Unit) ×
                  Int × Int × Unit)) : Option ((List (Int × List UInt8 × Int × Int × Int × Int × List UInt8 × Int × Int × Int × List UInt8 × List UInt8 × List UInt8 × List UInt8 × Unit) ×
              Int ×
                List (Int × List UInt8 × Int × Int × Int × Int × List UInt8 × Int × Int × Int × List UInt8 × List UInt8 × List UInt8 × List UInt8 × Unit) ×
                  Int × Int × Unit) ⊕ (Unit ⊕ Bool × Unit)) :=
  if decide (v2.2.2.2.2.1 < v2.2.2.2.1) = true then
                (idx v2.2.2.1 v2.2.2.2.2.1).bind
                  fun
                    (v3 :
                      Int × List UInt8 × Int × Int × Int × Int × List UInt8 × Int × Int × Int × List UInt8 × List UInt8 × List UInt8 × List UInt8 × PUnit) =>
                  ((M_entry_May F v3).bind fun (v4 : Bool) =>
                        if (!v4) = false then
                          if decide (v2.2.1 < v3.2.2.2.1) = false then
                            if decide (0 < v2.2.2.2.2.1) = true then
                              (idx v2.1 (IntKind.i64.wrap (v2.2.2.2.2.1 - 1))).bind
                                fun
                                  (v5 :
                                    Int ×
                                      List UInt8 ×
                                        Int × Int × Int × Int × List UInt8 × Int × Int × Int × List UInt8 × List UInt8 × List UInt8 × List UInt8 × PUnit) =>
                                (M_snap_behind F (v3, v5)).bind fun (v6 : Bool) => some (v2.1, v2.2.1, v2.2.2.1, v2.2.2.2.1, v2.2.2.2.2.1, !v6, ())
                            else some (v2.1, v2.2.1, v2.2.2.1, v2.2.2.2.1, v2.2.2.2.2.1, false, ())
                          else some (v2.1, v2.2.1, v2.2.2.1, v2.2.2.2.1, v2.2.2.2.2.1, true, ())
                        else some (v2.1, v2.2.1, v2.2.2.1, v2.2.2.2.1, v2.2.2.2.2.1, true, ())).bind
                    fun
                      (v7 :
                        List
                            (Int ×
                              List UInt8 × Int × Int × Int × Int × List UInt8 × Int × Int × Int × List UInt8 × List UInt8 × List UInt8 × List UInt8 × PUnit) ×
                          Int ×
                            List
                                (Int ×
                                  List UInt8 ×
                                    Int × Int × Int × Int × List UInt8 × Int × Int × Int × List UInt8 × List UInt8 × List UInt8 × List UInt8 × PUnit) ×
                              Int × Int × Bool × PUnit) =>
                    if v7.2.2.2.2.2.1 = true then some (Sum.inr (Sum.inr (false, ())))
                    else some (Sum.inl (v7.1, v7.2.1, v7.2.2.1, v7.2.2.2.1, IntKind.i64.wrap (v7.2.2.2.2.1 + 1), ()))
              else some (Sum.inr (Sum.inl ()))
noncomputable def M_snap_may (F : Nat) (x : (List (El .en)) × (Int)) : Option (Bool) :=
  (if decide (x.2 < 0) = false then some (x.1, x.2, decide (1073741824 < x.2), ()) else some (x.1, x.2, true, ())).bind
    fun
      (v0 :
        List (Int × List UInt8 × Int × Int × Int × Int × List UInt8 × Int × Int × Int × List UInt8 × List UInt8 × List UInt8 × List UInt8 × Unit) ×
          Int × Bool × Unit) =>
    (if v0.2.2.1 = false then some (v0.1, v0.2.1, decide (200 < (↑v0.1.length : Int)), ()) else some (v0.1, v0.2.1, true, ())).bind
      fun
        (v1 :
          List (Int × List UInt8 × Int × Int × Int × Int × List UInt8 × Int × Int × Int × List UInt8 × List UInt8 × List UInt8 × List UInt8 × Unit) ×
            Int × Bool × Unit) =>
      if v1.2.2.1 = true then some false
      else
        (loopM (M_snap_may_l0 F)
              F (v1.1, v1.2.1, v1.1, (↑v1.1.length : Int), 0, ())).bind
          fun (v8 : Unit ⊕ Bool × Unit) => sumC v8 (fun (v9 : Unit) => some true) fun (v10 : Bool × Unit) => some v10.1
theorem t_snap_may (x : (List (El .en)) × (Int)) (F : Nat) : fnRun TT Tryz.prog (e_snap_may F) s_snap_may (bodyOf 24) F x = M_snap_may F x := by kernel_rfl
theorem c_snap_may (F : Nat) : Ctr TT Tryz.prog 24 (conOf TT s_snap_may (M_snap_may F)) :=
  ctr_of (code := bodyOf 24) Tryz.func24 (by kernel_rfl) (by kernel_rfl) (by kernel_rfl) (by kernel_rfl) (envS_ok (envS_ok envN_ok (c_entry_May F)) (c_snap_behind F)) hm (by kernel_rfl) (fun x r h => ⟨F, (t_snap_may x F).trans h⟩)
theorem mo_snap_may_l0 {F F' : Nat} (h : F ≤ F') : ∀ v, Le (M_snap_may_l0 F v) (M_snap_may_l0 F' v) := by
  intro v
  unfold M_snap_may_l0
  with_reducible repeat (first | (intro v) | exact Le.refl _ | exact h | exact mo_entry_May h _ | exact mo_snap_behind h _ | apply Le.bind | apply Le.ite | apply Le.loop | apply Le.sumC)
theorem mo_snap_may {F F' : Nat} (h : F ≤ F') : ∀ v, Le (M_snap_may F v) (M_snap_may F' v) := by
  intro v
  unfold M_snap_may
  with_reducible repeat (first | (intro v) | exact Le.refl _ | exact h | exact mo_entry_May h _ | exact mo_snap_behind h _ | exact mo_snap_may_l0 h | exact mo_snap_may_l0 h _ | apply Le.bind | apply Le.ite | apply Le.loop | apply Le.sumC)
noncomputable def s_snap_Write : Spec Kd := { params := [(.a (.slc .en)), (.a (.int .i64))], ret := (.tup [(.a .str), (.a (.int .i64))]), pins := [], pl := { nt := 53, loops := [(0, ⟨[.tmp 9 (.a (.ptr 576 0)), .tmp 33 (.a (.slc .en)), .tmp 34 (.a (.int .i64)), .tmp 35 (.a (.int .i64)), .box 576 (.cells 60 [(.argp 576), (.rowp 1036865)]), .box 1036865 (.row 5 .u8)], [], [.cellSelf 576 0, .cellRow 576 1 1036865 5 .u8]⟩, (.exit 0, ⟨[.tmp 9 (.a (.ptr 576 0)), .box 576 (.cells 60 [(.argp 576), (.rowp 1036865)]), .box 1036865 (.row 5 .u8)], [], [.cellSelf 576 0, .cellRow 576 1 1036865 5 .u8]⟩), [])], cuts := [(4, [(13, ⟨[.tmp 0 (.a (.slc .en)), .tmp 7 (.a .str)], [], []⟩)])] }, rfrz := [], ts := [4, 5] }
noncomputable def e_snap_Write (F : Nat) : Env El := (envS 31 (conOf TT s_strings_Builder_String (M_strings_Builder_String F)) (envS 30 (conOf TT s_entry_Pack (M_entry_Pack F)) (envS 29 (conOf TT s_strings_Builder_WriteString (M_strings_Builder_WriteString F)) (envS 25 (conOf TT s_frame_Make (M_frame_Make F)) (envS 28 (conOf TT s_pack_Packer_String (M_pack_Packer_String F)) (envS 27 (conOf TT s_pack_Packer_Num (M_pack_Packer_Num F)) (envS 26 (conOf TT s_pack_Packer_Raw (M_pack_Packer_Raw F)) (envS 24 (conOf TT s_snap_may (M_snap_may F)) envN))))))))
/-- concierge/snap.Write -/
noncomputable def M_snap_Write_l0 (F : Nat) (v8 : (Unit ×
                List (Int × List UInt8 × Int × Int × Int × Int × List UInt8 × Int × Int × Int × List UInt8 × List UInt8 × List UInt8 × List UInt8 × Unit) ×
                  Int × Int × (Unit × Unit × Unit) × List UInt8 × Unit)) : Option ((Unit ×
                List (Int × List UInt8 × Int × Int × Int × Int × List UInt8 × Int × Int × Int × List UInt8 × List UInt8 × List UInt8 × List UInt8 × Unit) ×
                  Int × Int × (Unit × Unit × Unit) × List UInt8 × Unit) ⊕ (Unit × (Unit × Unit × Unit) × List UInt8 × Unit)) :=
  if decide (v8.2.2.2.1 < v8.2.2.1) = true then
                  (idx v8.2.1 v8.2.2.2.1).bind
                    fun
                      (v9 :
                        Int × List UInt8 × Int × Int × Int × Int × List UInt8 × Int × Int × Int × List UInt8 × List UInt8 × List UInt8 × List UInt8 × PUnit) =>
                    (M_entry_Pack F v9).bind fun (v10 : List UInt8 × Int) =>
                      (M_frame_Make F v10.1).bind fun (v11 : List UInt8 × Int) =>
                        (M_strings_Builder_WriteString F (((), v8.2.2.2.2.2.1, ()), v11.1)).bind fun (v12 : (Int × PUnit) × PUnit × List UInt8 × PUnit) =>
                          some (Sum.inl ((), v8.2.1, v8.2.2.1, IntKind.i64.wrap (v8.2.2.2.1 + 1), ((), (), ()), v12.2.2.1, ()))
                else some (Sum.inr ((), ((), (), ()), v8.2.2.2.2.2.1, ()))
noncomputable def M_snap_Write (F : Nat) (x : (List (El .en)) × (Int)) : Option ((List UInt8) × (Int)) :=
  (M_snap_may F x).bind fun (v0 : Bool) =>
    if (!v0) = true then some ([], 1)
    else
      ((M_pack_Packer_Raw F (([], false, ()), [99, 115, 49])).bind fun (v1 : Unit × List UInt8 × Bool × Unit) =>
            (M_pack_Packer_Num F ((v1.2.1, v1.2.2.1, ()), x.2)).bind fun (v2 : Unit × List UInt8 × Bool × Unit) =>
              (M_pack_Packer_Num F ((v2.2.1, v2.2.2.1, ()), (↑x.1.length : Int))).bind fun (v3 : Unit × List UInt8 × Bool × Unit) =>
                (M_pack_Packer_String F (v3.2.1, v3.2.2.1, ())).bind fun (v4 : List UInt8 × List UInt8 × Bool × Unit) =>
                  (M_frame_Make F v4.1).bind fun (v5 : List UInt8 × Int) => some (x.1, v5.1, ())).bind
        fun
          (v6 :
            List (Int × List UInt8 × Int × Int × Int × Int × List UInt8 × Int × Int × Int × List UInt8 × List UInt8 × List UInt8 × List UInt8 × Unit) ×
              List UInt8 × Unit) =>
        (M_strings_Builder_WriteString F (((), [], ()), v6.2.1)).bind fun (v7 : (Int × Unit) × Unit × List UInt8 × Unit) =>
          (loopM (M_snap_Write_l0 F)
                F ((), v6.1, (↑v6.1.length : Int), 0, ((), (), ()), v7.2.2.1, ())).bind
            fun (v13 : Unit × (Unit × Unit × Unit) × List UInt8 × Unit) =>
            (M_strings_Builder_String F ((), v13.2.2.1, ())).bind fun (v14 : List UInt8 × Unit × Unit × Unit) => some (v14.1, 0)
theorem t_snap_Write (x : (List (El .en)) × (Int)) (F : Nat) : fnRun TT Tryz.prog (e_snap_Write F) s_snap_Write (bodyOf 9) F x = M_snap_Write F x := by kernel_rfl
theorem c_snap_Write (F : Nat) : Ctr TT Tryz.prog 9 (conOf TT s_snap_Write (M_snap_Write F)) :=
  ctr_of (code := bodyOf 9) Tryz.func9 (by kernel_rfl) (by kernel_rfl) (by kernel_rfl) (by kernel_rfl) (envS_ok (envS_ok (envS_ok (envS_ok (envS_ok (envS_ok (envS_ok (envS_ok envN_ok (c_snap_may F)) (c_pack_Packer_Raw F)) (c_pack_Packer_Num F)) (c_pack_Packer_String F)) (c_frame_Make F)) (c_strings_Builder_WriteString F)) (c_entry_Pack F)) (c_strings_Builder_String F)) hm (by kernel_rfl) (fun x r h => ⟨F, (t_snap_Write x F).trans h⟩)
theorem mo_snap_Write_l0 {F F' : Nat} (h : F ≤ F') : ∀ v, Le (M_snap_Write_l0 F v) (M_snap_Write_l0 F' v) := by
  intro v
  unfold M_snap_Write_l0
  with_reducible repeat (first | (intro v) | exact Le.refl _ | exact h | exact mo_snap_may h _ | exact mo_pack_Packer_Raw h _ | exact mo_pack_Packer_Num h _ | exact mo_pack_Packer_String h _ | exact mo_frame_Make h _ | exact mo_strings_Builder_WriteString h _ | exact mo_entry_Pack h _ | exact mo_strings_Builder_String h _ | apply Le.bind | apply Le.ite | apply Le.loop | apply Le.sumC)
theorem mo_snap_Write {F F' : Nat} (h : F ≤ F') : ∀ v, Le (M_snap_Write F v) (M_snap_Write F' v) := by
  intro v
  unfold M_snap_Write
  with_reducible repeat (first | (intro v) | exact Le.refl _ | exact h | exact mo_snap_may h _ | exact mo_pack_Packer_Raw h _ | exact mo_pack_Packer_Num h _ | exact mo_pack_Packer_String h _ | exact mo_frame_Make h _ | exact mo_strings_Builder_WriteString h _ | exact mo_entry_Pack h _ | exact mo_strings_Builder_String h _ | exact mo_snap_Write_l0 h | exact mo_snap_Write_l0 h _ | apply Le.bind | apply Le.ite | apply Le.loop | apply Le.sumC)
noncomputable def s_snap_Read : Spec Kd := { params := [(.a .str)], ret := (.tup [(.a (.row 40 .en)), (.a (.int .i64)), (.a (.int .i64))]), pins := [], pl := { nt := 78, orc := { rv := [2, 12, 67, 70, 76], gv := [] }, loops := [(0, ⟨[.tmp 10 (.a (.int .i64)), .tmp 12 (.a (.rowp 768)), .tmp 54 (.a (.slc .str)), .tmp 55 (.a (.int .i64)), .tmp 56 (.a (.int .i64)), .box 768 (.row 40 .en)], [1345], [.tmpRow 12 768 40 .en]⟩, (.exit 0, ⟨[.tmp 10 (.a (.int .i64)), .tmp 12 (.a (.rowp 768)), .box 768 (.row 40 .en)], [1345], [.tmpRow 12 768 40 .en]⟩), [(.ret, ⟨[.tmp 2 (.a (.rowp 128)), .tmp 3 (.a (.int .i64)), .tmp 4 (.a (.int .i64)), .box 128 (.row 40 .en)], [1345], [.tmpRow 2 128 40 .en]⟩)])], cuts := [(9, [(7, ⟨[.tmp 5 (.a (.slc .str)), .tmp 10 (.a (.int .i64)), .tmp 11 (.a (.int .i64)), .tmp 45 (.a .bool)], [1345], []⟩), (7, ⟨[.tmp 5 (.a (.slc .str)), .tmp 10 (.a (.int .i64)), .tmp 52 (.a .bool)], [1345], []⟩)])] }, rfrz := [], ts := [2, 3, 4] }
noncomputable def e_snap_Read (F : Nat) : Env El := (envS 24 (conOf TT s_snap_may (M_snap_may F)) (envS 38 (conOf TT s_entry_Open (M_entry_Open F)) (envS 37 (conOf TT s_pack_Opener_Done (M_pack_Opener_Done F)) (envS 36 (conOf TT s_pack_Opener_Num (M_pack_Opener_Num F)) (envS 35 (conOf TT s_pack_Opener_Raw (M_pack_Opener_Raw F)) (envS 34 (conOf TT s_pack_Open (M_pack_Open F)) (envS 33 (conOf TT s_frame_Split (M_frame_Split F)) envN)))))))
/-- concierge/snap.Read -/
noncomputable def M_snap_Read_l0 (F : Nat) (v10 : (Int ×
                                Unit ×
                                  List (List UInt8) ×
                                    Int ×
                                      Int ×
                                        List
                                            (Int ×
                                              List UInt8 ×
                                                Int ×
                                                  Int × Int × Int × List UInt8 × Int × Int × Int × List UInt8 × List UInt8 × List UInt8 × List UInt8 × Unit) ×
                                          Unit)) : Option ((Int ×
                                Unit ×
                                  List (List UInt8) ×
                                    Int ×
                                      Int ×
                                        List
                                            (Int ×
                                              List UInt8 ×
                                                Int ×
                                                  Int × Int × Int × List UInt8 × Int × Int × Int × List UInt8 × List UInt8 × List UInt8 × List UInt8 × Unit) ×
                                          Unit) ⊕ (Int ×
                                  Unit ×
                                    List
                                        (Int ×
                                          List UInt8 ×
                                            Int × Int × Int × Int × List UInt8 × Int × Int × Int × List UInt8 × List UInt8 × List UInt8 × List UInt8 × Unit) ×
                                      Unit ⊕
                                Unit ×
                                  Int ×
                                    Int ×
                                      List
                                          (Int ×
                                            List UInt8 ×
                                              Int ×
                                                Int × Int × Int × List UInt8 × Int × Int × Int × List UInt8 × List UInt8 × List UInt8 × List UInt8 × Unit) ×
                                        Unit)) :=
  if decide (v10.2.2.2.2.1 < v10.2.2.2.1) = true then
                                  (idx v10.2.2.1 v10.2.2.2.2.1).bind fun (v11 : List UInt8) =>
                                    (M_entry_Open F v11).bind
                                      fun
                                        (v12 :
                                          (Int ×
                                              List UInt8 ×
                                                Int ×
                                                  Int × Int × Int × List UInt8 × Int × Int × Int × List UInt8 × List UInt8 × List UInt8 × List UInt8 × PUnit) ×
                                            Int) =>
                                      if (!decide (v12.2 = 0)) = true then some (Sum.inr (Sum.inr ((), 0, 3, [], ())))
                                      else
                                        if decide ((v10.2.2.2.2.2.1.length + [v12.1].length) * 160 ≤ 140737488355328) = true then
                                          some
                                            (Sum.inl (v10.1, (), v10.2.2.1, v10.2.2.2.1, IntKind.i64.wrap (v10.2.2.2.2.1 + 1), v10.2.2.2.2.2.1 ++ [v12.1], ()))
                                        else none
                                else some (Sum.inr (Sum.inl (v10.1, (), v10.2.2.2.2.2.1, ())))
noncomputable def M_snap_Read (F : Nat) (x : (List UInt8)) : Option ((List (El .en)) × (Int) × (Int)) :=
  if decide (x = []) = true then some ([], 0, 0)
  else
    (M_frame_Split F x).bind fun (v0 : List (List UInt8) × Int × Int) =>
      if (!decide (v0.2.2 = 0)) = true then some ([], 0, v0.2.2)
      else
        (idx v0.1 0).bind fun (v1 : List UInt8) =>
          (M_pack_Open F v1).bind fun (v2 : List UInt8 × Bool × Unit) =>
            (M_pack_Opener_Raw F ((v2.1, v2.2.1, ()), 3)).bind fun (v3 : List UInt8 × List UInt8 × Bool × Unit) =>
              (M_pack_Opener_Num F ((v3.2.1, v3.2.2.1, ()), 1073741824)).bind fun (v4 : Int × List UInt8 × Bool × Unit) =>
                (M_pack_Opener_Num F ((v4.2.1, v4.2.2.1, ()), 200)).bind fun (v5 : Int × List UInt8 × Bool × Unit) =>
                  (if (!decide (v3.1 = [99, 115, 49])) = false then
                        (M_pack_Opener_Done F (v5.2.1, v5.2.2.1, ())).bind fun (v6 : Bool × List UInt8 × Bool × Unit) => some (v0.1, v4.1, v5.1, !v6.1, ())
                      else some (v0.1, v4.1, v5.1, true, ())).bind
                    fun (v7 : List (List UInt8) × Int × Int × Bool × Unit) =>
                    (if v7.2.2.2.1 = false then some (v7.1, v7.2.1, !decide (v7.2.2.1 = IntKind.i64.wrap ((↑v7.1.length : Int) - 1)), ())
                        else some (v7.1, v7.2.1, true, ())).bind
                      fun (v8 : List (List UInt8) × Int × Bool × Unit) =>
                      if v8.2.2.1 = true then some ([], 0, 3)
                      else
                        (sub v8.1 1 (↑v8.1.length : Int)).bind fun (v9 : List (List UInt8)) =>
                          (loopM (M_snap_Read_l0 F)
                                F (v8.2.1, (), v9, (↑v9.length : Int), 0, [], ())).bind
                            fun
                              (v13 :
                                Int ×
                                    Unit ×
                                      List
                                          (Int ×
                                            List UInt8 ×
                                              Int × Int × Int × Int × List UInt8 × Int × Int × Int × List UInt8 × List UInt8 × List UInt8 × List UInt8 × Unit) ×
                                        Unit ⊕
                                  Unit ×
                                    Int ×
                                      Int ×
                                        List
                                            (Int ×
                                              List UInt8 ×
                                                Int ×
                                                  Int × Int × Int × List UInt8 × Int × Int × Int × List UInt8 × List UInt8 × List UInt8 × List UInt8 × Unit) ×
                                          Unit) =>
                            sumC v13
                              (fun
                                  (v14 :
                                    Int ×
                                      Unit ×
                                        List
                                            (Int ×
                                              List UInt8 ×
                                                Int ×
                                                  Int × Int × Int × List UInt8 × Int × Int × Int × List UInt8 × List UInt8 × List UInt8 × List UInt8 × Unit) ×
                                          Unit) =>
                                (M_snap_may F (v14.2.2.1, v14.1)).bind fun (v15 : Bool) => if (!v15) = true then some ([], 0, 3) else some (v14.2.2.1, v14.1, 0))
                              fun
                                (v16 :
                                  Unit ×
                                    Int ×
                                      Int ×
                                        List
                                            (Int ×
                                              List UInt8 ×
                                                Int ×
                                                  Int × Int × Int × List UInt8 × Int × Int × Int × List UInt8 × List UInt8 × List UInt8 × List UInt8 × Unit) ×
                                          Unit) =>
                              some (v16.2.2.2.1, v16.2.1, v16.2.2.1)
theorem t_snap_Read (x : (List UInt8)) (F : Nat) : fnRun TT Tryz.prog (e_snap_Read F) s_snap_Read (bodyOf 11) F x = M_snap_Read F x := by kernel_rfl
theorem c_snap_Read (F : Nat) : Ctr TT Tryz.prog 11 (conOf TT s_snap_Read (M_snap_Read F)) :=
  ctr_of (code := bodyOf 11) Tryz.func11 (by kernel_rfl) (by kernel_rfl) (by kernel_rfl) (by kernel_rfl) (envS_ok (envS_ok (envS_ok (envS_ok (envS_ok (envS_ok (envS_ok envN_ok (c_frame_Split F)) (c_pack_Open F)) (c_pack_Opener_Raw F)) (c_pack_Opener_Num F)) (c_pack_Opener_Done F)) (c_entry_Open F)) (c_snap_may F)) hm (by kernel_rfl) (fun x r h => ⟨F, (t_snap_Read x F).trans h⟩)
theorem mo_snap_Read_l0 {F F' : Nat} (h : F ≤ F') : ∀ v, Le (M_snap_Read_l0 F v) (M_snap_Read_l0 F' v) := by
  intro v
  unfold M_snap_Read_l0
  with_reducible repeat (first | (intro v) | exact Le.refl _ | exact h | exact mo_frame_Split h _ | exact mo_pack_Open h _ | exact mo_pack_Opener_Raw h _ | exact mo_pack_Opener_Num h _ | exact mo_pack_Opener_Done h _ | exact mo_entry_Open h _ | exact mo_snap_may h _ | apply Le.bind | apply Le.ite | apply Le.loop | apply Le.sumC)
theorem mo_snap_Read {F F' : Nat} (h : F ≤ F') : ∀ v, Le (M_snap_Read F v) (M_snap_Read F' v) := by
  intro v
  unfold M_snap_Read
  with_reducible repeat (first | (intro v) | exact Le.refl _ | exact h | exact mo_frame_Split h _ | exact mo_pack_Open h _ | exact mo_pack_Opener_Raw h _ | exact mo_pack_Opener_Num h _ | exact mo_pack_Opener_Done h _ | exact mo_entry_Open h _ | exact mo_snap_may h _ | exact mo_snap_Read_l0 h | exact mo_snap_Read_l0 h _ | apply Le.bind | apply Le.ite | apply Le.loop | apply Le.sumC)

end Go.Vm
