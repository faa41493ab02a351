/- Models of functions of the program, and that each keeps its contract: for all arguments of its shape. No condition. -/
import Derived.Test.YtgeafoacmnlioaaDoorKt
import Derived.Test.YtgeafoacmnlioaaDoorFentry
import Derived.Test.YtgeafoacmnlioaaDoorFcrc
import Derived.Test.YtgeafoacmnlioaaDoorFpk
import Derived.Test.YtgeafoacmnlioaaDoorFopn
import Derived.Test.YtgeafoacmnlioaaDoorFsha
import Derived.Test.YtgeafoacmnlioaaDoorFbld
import Derived.Test.YtgeafoacmnlioaaDoorFstab
namespace Go.Vm
open Go.Proofs
set_option linter.unusedVariables false
noncomputable def s_page_may : Spec Kd := { params := [(.a (.int .i64)), (.a .str)], ret := (.one (.a .bool)), pins := [], pl := { nt := 15, cuts := [(1, [(6, ⟨[.tmp 1 (.a .str), .tmp 10 (.a .bool)], [], []⟩), (4, ⟨[.tmp 14 (.a .bool)], [], []⟩)])] }, rfrz := [], ts := [4] }
noncomputable def e_page_may (F : Nat) : Env El := (envS 67 (conOf TT s_canon_Key (M_canon_Key F)) envN)
noncomputable def M_page_may (F : Nat) (x : (Int) × (List UInt8)) : Option (Bool) :=
  (if decide (0 ≤ x.1) = true then some (x.2, decide (x.1 < 4), ()) else some (x.2, false, ())).bind fun (v0 : List UInt8 × Bool × Unit) =>
    (if v0.2.1 = true then (M_canon_Key F v0.1).bind fun (v1 : Bool) => some (v1, ()) else some (false, ())).bind fun (v2 : Bool × Unit) => some v2.1
theorem t_page_may (x : (Int) × (List UInt8)) (F : Nat) : fnRun TT Tryd.prog (e_page_may F) s_page_may (bodyOf 32) F x = M_page_may F x := by kernel_rfl
theorem c_page_may (F : Nat) : Ctr TT Tryd.prog 32 (conOf TT s_page_may (M_page_may F)) :=
  ctr_of (code := bodyOf 32) Tryd.func32 (by kernel_rfl) (by kernel_rfl) (by kernel_rfl) (by kernel_rfl) (envS_ok envN_ok (c_canon_Key F)) hm (by kernel_rfl) (fun x r h => ⟨F, (t_page_may x F).trans h⟩)
theorem mo_page_may {F F' : Nat} (h : F ≤ F') : ∀ v, Le (M_page_may F v) (M_page_may F' v) := by
  intro v
  unfold M_page_may
  with_reducible repeat (first | (intro v) | exact Le.refl _ | exact h | exact mo_canon_Key h _ | apply Le.bind | apply Le.ite | apply Le.loop | apply Le.sumC)
noncomputable def s_page_Mark : Spec Kd := { params := [(.a (.int .i64)), (.a .str)], ret := (.tup [(.a .str), (.a (.int .i64))]), pins := [], pl := { nt := 18 }, rfrz := [], ts := [4, 5] }
noncomputable def e_page_Mark (F : Nat) : Env El := (envS 35 (conOf TT s_sha_Hex (M_sha_Hex F)) (envS 36 (conOf TT s_crc_Seal (M_crc_Seal F)) (envS 39 (conOf TT s_pack_Packer_String (M_pack_Packer_String F)) (envS 38 (conOf TT s_pack_Packer_Text (M_pack_Packer_Text F)) (envS 37 (conOf TT s_pack_Packer_Num (M_pack_Packer_Num F)) (envS 32 (conOf TT s_page_may (M_page_may F)) envN))))))
noncomputable def M_page_Mark (F : Nat) (x : (Int) × (List UInt8)) : Option ((List UInt8) × (Int)) :=
  (M_page_may F x).bind fun (v0 : Bool) =>
    if (!v0) = true then some ([], 1)
    else
      (M_pack_Packer_Num F (([], false, ()), x.1)).bind fun (v1 : Unit × List UInt8 × Bool × Unit) =>
        (M_pack_Packer_Text F ((v1.2.1, v1.2.2.1, ()), x.2)).bind fun (v2 : Unit × List UInt8 × Bool × Unit) =>
          (M_pack_Packer_String F (v2.2.1, v2.2.2.1, ())).bind fun (v3 : List UInt8 × List UInt8 × Bool × Unit) =>
            (M_crc_Seal F v3.1).bind fun (v4 : List UInt8) => (M_sha_Hex F v4).bind fun (v5 : List UInt8) => some (v5, 0)
theorem t_page_Mark (x : (Int) × (List UInt8)) (F : Nat) : fnRun TT Tryd.prog (e_page_Mark F) s_page_Mark (bodyOf 11) F x = M_page_Mark F x := by kernel_rfl
theorem c_page_Mark (F : Nat) : Ctr TT Tryd.prog 11 (conOf TT s_page_Mark (M_page_Mark F)) :=
  ctr_of (code := bodyOf 11) Tryd.func11 (by kernel_rfl) (by kernel_rfl) (by kernel_rfl) (by kernel_rfl) (envS_ok (envS_ok (envS_ok (envS_ok (envS_ok (envS_ok envN_ok (c_page_may F)) (c_pack_Packer_Num F)) (c_pack_Packer_Text F)) (c_pack_Packer_String F)) (c_crc_Seal F)) (c_sha_Hex F)) hm (by kernel_rfl) (fun x r h => ⟨F, (t_page_Mark x F).trans h⟩)
theorem mo_page_Mark {F F' : Nat} (h : F ≤ F') : ∀ v, Le (M_page_Mark F v) (M_page_Mark F' v) := by
  intro v
  unfold M_page_Mark
  with_reducible repeat (first | (intro v) | exact Le.refl _ | exact h | exact mo_page_may h _ | exact mo_pack_Packer_Num h _ | exact mo_pack_Packer_Text h _ | exact mo_pack_Packer_String h _ | exact mo_crc_Seal h _ | exact mo_sha_Hex h _ | apply Le.bind | apply Le.ite | apply Le.loop | apply Le.sumC)
noncomputable def s_page_raw : Spec Kd := { params := [(.a .str)], ret := (.tup [(.a .str), (.a .bool)]), pins := [], pl := { nt := 43, orc := { rv := [4, 33, 40], gv := [] }, loops := [(0, ⟨[.tmp 0 (.a .str), .tmp 4 (.a (.rowp 256)), .tmp 5 (.a (.int .i64)), .box 256 (.row 5 .u8)], [], [.tmpRow 4 256 5 .u8]⟩, (.exit 0, ⟨[.tmp 4 (.a (.rowp 256)), .box 256 (.row 5 .u8)], [], [.tmpRow 4 256 5 .u8]⟩), [(.ret, ⟨[.tmp 2 (.a .str), .tmp 3 (.a .bool)], [], []⟩)])], cuts := [(8, [(6, ⟨[.tmp 0 (.a .str), .tmp 4 (.a (.rowp 256)), .tmp 5 (.a (.int .i64)), .tmp 6 (.a (.int .i64)), .tmp 7 (.a (.int .i64)), .tmp 32 (.a .bool), .box 256 (.row 5 .u8)], [], [.tmpRow 4 256 5 .u8]⟩)])], ends := [(7, ⟨[.tmp 0 (.a .str), .tmp 4 (.a (.rowp 256)), .tmp 5 (.a (.int .i64)), .tmp 6 (.a (.int .i64)), .tmp 7 (.a (.int .i64)), .box 256 (.row 5 .u8)], [], [.tmpRow 4 256 5 .u8]⟩)] }, rfrz := [], ts := [2, 3] }
noncomputable def e_page_raw (F : Nat) : Env El := (envS 61 (conOf TT s_strings_IndexByte (M_strings_IndexByte F)) envN)
noncomputable def M_page_raw_l0 (F : Nat) (v0 : (List UInt8 × Unit × Int × List UInt8 × Unit)) : Option ((List UInt8 × Unit × Int × List UInt8 × Unit) ⊕ (Unit × List UInt8 × Unit ⊕ List UInt8 × Bool × Unit)) :=
  if decide (v0.2.2.1 < (↑v0.1.length : Int)) = true then
            ((idx v0.1 v0.2.2.1).bind fun (v1 : UInt8) =>
                  (M_strings_IndexByte F ([48, 49, 50, 51, 52, 53, 54, 55, 56, 57, 97, 98, 99, 100, 101, 102], (↑v1.toNat : Int))).bind fun (v2 : Int) =>
                    (idx v0.1 (IntKind.i64.wrap (v0.2.2.1 + 1))).bind fun (v3 : UInt8) =>
                      (M_strings_IndexByte F ([48, 49, 50, 51, 52, 53, 54, 55, 56, 57, 97, 98, 99, 100, 101, 102], (↑v3.toNat : Int))).bind fun (v4 : Int) =>
                        some (v0.1, (), v0.2.2.1, v2, v4, v0.2.2.2.1, ())).bind
              fun (v5 : List UInt8 × Unit × Int × Int × Int × List UInt8 × Unit) =>
              (if decide (v5.2.2.2.1 < 0) = false then some (v5.1, (), v5.2.2.1, v5.2.2.2.1, v5.2.2.2.2.1, decide (v5.2.2.2.2.1 < 0), v5.2.2.2.2.2.1, ())
                  else some (v5.1, (), v5.2.2.1, v5.2.2.2.1, v5.2.2.2.2.1, true, v5.2.2.2.2.2.1, ())).bind
                fun (v6 : List UInt8 × Unit × Int × Int × Int × Bool × List UInt8 × Unit) =>
                if v6.2.2.2.2.2.1 = true then some (Sum.inr (Sum.inr ([], false, ())))
                else
                  if
                      decide
                          ((v6.2.2.2.2.2.2.1.length +
                                [UInt8.ofNat (IntKind.u8.wrap (ior IntKind.i64 (shl IntKind.i64 v6.2.2.2.1 4) v6.2.2.2.2.1)).toNat].length) *
                              1 ≤
                            140737488355328) =
                        true then
                    some
                      (Sum.inl
                        (v6.1, (), IntKind.i64.wrap (v6.2.2.1 + 2),
                          v6.2.2.2.2.2.2.1 ++ [UInt8.ofNat (IntKind.u8.wrap (ior IntKind.i64 (shl IntKind.i64 v6.2.2.2.1 4) v6.2.2.2.2.1)).toNat], ()))
                  else none
          else some (Sum.inr (Sum.inl ((), v0.2.2.2.1, ())))
noncomputable def M_page_raw (F : Nat) (x : (List UInt8)) : Option ((List UInt8) × (Bool)) :=
  if (!decide ((↑x.length : Int).tmod 2 = 0)) = true then some ([], false)
  else
    (loopM (M_page_raw_l0 F)
          F (x, (), 0, [], ())).bind
      fun (v7 : Unit × List UInt8 × Unit ⊕ List UInt8 × Bool × Unit) =>
      sumC v7 (fun (v8 : Unit × List UInt8 × Unit) => some (v8.2.1, true)) fun (v9 : List UInt8 × Bool × Unit) => some (v9.1, v9.2.1)
theorem t_page_raw (x : (List UInt8)) (F : Nat) : fnRun TT Tryd.prog (e_page_raw F) s_page_raw (bodyOf 26) F x = M_page_raw F x := by kernel_rfl
theorem c_page_raw (F : Nat) : Ctr TT Tryd.prog 26 (conOf TT s_page_raw (M_page_raw F)) :=
  ctr_of (code := bodyOf 26) Tryd.func26 (by kernel_rfl) (by kernel_rfl) (by kernel_rfl) (by kernel_rfl) (envS_ok envN_ok (c_strings_IndexByte F)) hm (by kernel_rfl) (fun x r h => ⟨F, (t_page_raw x F).trans h⟩)
theorem mo_page_raw_l0 {F F' : Nat} (h : F ≤ F') : ∀ v, Le (M_page_raw_l0 F v) (M_page_raw_l0 F' v) := by
  intro v
  unfold M_page_raw_l0
  with_reducible repeat (first | (intro v) | exact Le.refl _ | exact h | exact mo_strings_IndexByte h _ | apply Le.bind | apply Le.ite | apply Le.loop | apply Le.sumC)
theorem mo_page_raw {F F' : Nat} (h : F ≤ F') : ∀ v, Le (M_page_raw F v) (M_page_raw F' v) := by
  intro v
  unfold M_page_raw
  with_reducible repeat (first | (intro v) | exact Le.refl _ | exact h | exact mo_strings_IndexByte h _ | exact mo_page_raw_l0 h | exact mo_page_raw_l0 h _ | apply Le.bind | apply Le.ite | apply Le.loop | apply Le.sumC)
noncomputable def s_page_Place : Spec Kd := { params := [(.a .str)], ret := (.tup [(.a (.int .i64)), (.a .str), (.a (.int .i64))]), pins := [], pl := { nt := 41, cuts := [(9, [(9, ⟨[.tmp 8 (.a (.int .i64)), .tmp 9 (.a .str), .tmp 38 (.a .bool)], [], []⟩)])] }, rfrz := [], ts := [2, 3, 4] }
noncomputable def e_page_Place (F : Nat) : Env El := (envS 32 (conOf TT s_page_may (M_page_may F)) (envS 31 (conOf TT s_pack_Opener_Done (M_pack_Opener_Done F)) (envS 30 (conOf TT s_pack_Opener_Text (M_pack_Opener_Text F)) (envS 29 (conOf TT s_pack_Opener_Num (M_pack_Opener_Num F)) (envS 28 (conOf TT s_pack_Open (M_pack_Open F)) (envS 27 (conOf TT s_crc_Open (M_crc_Open F)) (envS 26 (conOf TT s_page_raw (M_page_raw F)) envN)))))))
noncomputable def M_page_Place (F : Nat) (x : (List UInt8)) : Option ((Int) × (List UInt8) × (Int)) :=
  (M_page_raw F x).bind fun (v0 : List UInt8 × Bool) =>
    if (!v0.2) = true then some (0, [], 3)
    else
      (M_crc_Open F v0.1).bind fun (v1 : List UInt8 × Bool) =>
        if (!v1.2) = true then some (0, [], 4)
        else
          (M_pack_Open F v1.1).bind fun (v2 : List UInt8 × Bool × Unit) =>
            (M_pack_Opener_Num F ((v2.1, v2.2.1, ()), 4)).bind fun (v3 : Int × List UInt8 × Bool × Unit) =>
              (M_pack_Opener_Text F ((v3.2.1, v3.2.2.1, ()), 24)).bind fun (v4 : List UInt8 × List UInt8 × Bool × Unit) =>
                ((M_pack_Opener_Done F (v4.2.1, v4.2.2.1, ())).bind fun (v5 : Bool × List UInt8 × Bool × Unit) =>
                      if (!v5.1) = false then (M_page_may F (v3.1, v4.1)).bind fun (v6 : Bool) => some (v3.1, v4.1, !v6, ())
                      else some (v3.1, v4.1, true, ())).bind
                  fun (v7 : Int × List UInt8 × Bool × Unit) => if v7.2.2.1 = true then some (0, [], 3) else some (v7.1, v7.2.1, 0)
theorem t_page_Place (x : (List UInt8)) (F : Nat) : fnRun TT Tryd.prog (e_page_Place F) s_page_Place (bodyOf 9) F x = M_page_Place F x := by kernel_rfl
theorem c_page_Place (F : Nat) : Ctr TT Tryd.prog 9 (conOf TT s_page_Place (M_page_Place F)) :=
  ctr_of (code := bodyOf 9) Tryd.func9 (by kernel_rfl) (by kernel_rfl) (by kernel_rfl) (by kernel_rfl) (envS_ok (envS_ok (envS_ok (envS_ok (envS_ok (envS_ok (envS_ok envN_ok (c_page_raw F)) (c_crc_Open F)) (c_pack_Open F)) (c_pack_Opener_Num F)) (c_pack_Opener_Text F)) (c_pack_Opener_Done F)) (c_page_may F)) hm (by kernel_rfl) (fun x r h => ⟨F, (t_page_Place x F).trans h⟩)
theorem mo_page_Place {F F' : Nat} (h : F ≤ F') : ∀ v, Le (M_page_Place F v) (M_page_Place F' v) := by
  intro v
  unfold M_page_Place
  with_reducible repeat (first | (intro v) | exact Le.refl _ | exact h | exact mo_page_raw h _ | exact mo_crc_Open h _ | exact mo_pack_Open h _ | exact mo_pack_Opener_Num h _ | exact mo_pack_Opener_Text h _ | exact mo_pack_Opener_Done h _ | exact mo_page_may h _ | apply Le.bind | apply Le.ite | apply Le.loop | apply Le.sumC)
noncomputable def s_page_start : Spec Kd := { params := [(.a (.int .i64)), (.a .str)], ret := (.tup [(.a .str), (.a .bool), (.a (.int .i64))]), pins := [], pl := { nt := 25 }, rfrz := [], ts := [4, 5, 6] }
noncomputable def e_page_start (F : Nat) : Env El := (envS 9 (conOf TT s_page_Place (M_page_Place F)) envN)
noncomputable def M_page_start (F : Nat) (x : (Int) × (List UInt8)) : Option ((List UInt8) × (Bool) × (Int)) :=
  if decide (x.2 = []) = true then some ([], false, 0)
  else
    (M_page_Place F x.2).bind fun (v0 : Int × List UInt8 × Int) =>
      if (!decide (v0.2.2 = 0)) = true then some ([], false, v0.2.2) else if (!decide (v0.1 = x.1)) = true then some ([], false, 1) else some (v0.2.1, true, 0)
theorem t_page_start (x : (Int) × (List UInt8)) (F : Nat) : fnRun TT Tryd.prog (e_page_start F) s_page_start (bodyOf 55) F x = M_page_start F x := by kernel_rfl
theorem c_page_start (F : Nat) : Ctr TT Tryd.prog 55 (conOf TT s_page_start (M_page_start F)) :=
  ctr_of (code := bodyOf 55) Tryd.func55 (by kernel_rfl) (by kernel_rfl) (by kernel_rfl) (by kernel_rfl) (envS_ok envN_ok (c_page_Place F)) hm (by kernel_rfl) (fun x r h => ⟨F, (t_page_start x F).trans h⟩)
theorem mo_page_start {F F' : Nat} (h : F ≤ F') : ∀ v, Le (M_page_start F v) (M_page_start F' v) := by
  intro v
  unfold M_page_start
  with_reducible repeat (first | (intro v) | exact Le.refl _ | exact h | exact mo_page_Place h _ | apply Le.bind | apply Le.ite | apply Le.loop | apply Le.sumC)
noncomputable def s_page_Page : Spec Kd := { params := [(.a (.slc .en)), (.a (.int .i64)), (.a .str), (.a (.int .i64))], ret := (.tup [(.a (.slc .en)), (.a .str), (.a (.int .i64))]), pins := [], pl := { nt := 103, orc := { rv := [11, 39, 42, 57, 78], gv := [56], ln := [54] }, bjoins := [(1, (.norm, ⟨[.tmp 1 (.a (.int .i64)), .tmp 2 (.a .str), .tmp 3 (.a (.int .i64)), .tmp 11 (.a (.rowp 704)), .tmp 26 (.a (.slc .en)), .tmp 27 (.a (.int .i64)), .tmp 28 (.a (.int .i64)), .box 704 (.row 60 .en)], [3648], [.tmpRow 11 704 60 .en]⟩), [(.ret, ⟨[.tmp 8 (.a (.slc .en)), .tmp 9 (.a .str), .tmp 10 (.a (.int .i64))], [3648], []⟩)])], loops := [(2, ⟨[.tmp 1 (.a (.int .i64)), .tmp 3 (.a (.int .i64)), .tmp 11 (.a (.slc .en)), .tmp 14 (.a .str), .tmp 15 (.a .bool), .tmp 17 (.a (.int .i64))], [3648], []⟩, (.exit 2, ⟨[.tmp 1 (.a (.int .i64)), .tmp 3 (.a (.int .i64)), .tmp 11 (.a (.slc .en)), .tmp 17 (.a (.int .i64))], [3648], []⟩), []), (0, ⟨[.tmp 1 (.a (.int .i64)), .tmp 2 (.a .str), .tmp 3 (.a (.int .i64)), .tmp 11 (.a (.rowp 704)), .tmp 26 (.a (.slc .en)), .tmp 27 (.a (.int .i64)), .tmp 28 (.a (.int .i64)), .box 704 (.row 60 .en)], [3648], [.tmpRow 11 704 60 .en]⟩, (.exit 0, ⟨[.tmp 1 (.a (.int .i64)), .tmp 2 (.a .str), .tmp 3 (.a (.int .i64)), .tmp 11 (.a (.rowp 704)), .box 704 (.row 60 .en)], [3648], [.tmpRow 11 704 60 .en]⟩), [(.ret, ⟨[.tmp 8 (.a (.slc .en)), .tmp 9 (.a .str), .tmp 10 (.a (.int .i64))], [3648], []⟩)])], cuts := [(24, [(13, ⟨[.tmp 3 (.a (.int .i64)), .tmp 11 (.a (.slc .en)), .tmp 18 (.a .str)], [3648], []⟩)]), (18, [(7, ⟨[.tmp 1 (.a (.int .i64)), .tmp 3 (.a (.int .i64)), .tmp 11 (.a (.slc .en)), .tmp 14 (.a .str), .tmp 15 (.a .bool), .tmp 17 (.a (.int .i64)), .tmp 64 (.a .bool)], [3648], []⟩), (9, ⟨[.tmp 1 (.a (.int .i64)), .tmp 3 (.a (.int .i64)), .tmp 11 (.a (.slc .en)), .tmp 14 (.a .str), .tmp 15 (.a .bool), .tmp 17 (.a (.int .i64)), .tmp 73 (.a .bool)], [3648], []⟩)]), (12, [(10, ⟨[.tmp 1 (.a (.int .i64)), .tmp 3 (.a (.int .i64)), .tmp 11 (.a (.rowp 704)), .tmp 14 (.a .str), .tmp 15 (.a .bool), .tmp 16 (.a (.int .i64)), .box 704 (.row 60 .en)], [3648], [.tmpRow 11 704 60 .en]⟩)]), (1, [(6, ⟨[.tmp 0 (.a (.slc .en)), .tmp 1 (.a (.int .i64)), .tmp 2 (.a .str), .tmp 3 (.a (.int .i64)), .tmp 25 (.a .bool)], [3648], []⟩)])], frz := [(17, [704])] }, rfrz := [], ts := [8, 9, 10] }
noncomputable def e_page_Page (F : Nat) : Env El := (envS 11 (conOf TT s_page_Mark (M_page_Mark F)) (envS 60 (conOf TT s_page_Page_2 (M_page_Page_2 F)) (envS 59 (conOf TT s_slices_CompactFunc_api_Entry_api_Entry (M_slices_CompactFunc_api_Entry_api_Entry F)) (envS 57 (conOf TT s_page_Page_1 (M_page_Page_1 F)) (envS 56 (conOf TT s_slices_SortStableFunc_api_Entry_api_Entry (M_slices_SortStableFunc_api_Entry_api_Entry F)) (envS 55 (conOf TT s_page_start (M_page_start F)) (envS 54 (conOf TT s_entry_May (M_entry_May F)) envN)))))))
noncomputable def M_page_Page_l0 (F : Nat) (v1 : (Int ×
            List UInt8 ×
              Int ×
                Unit ×
                  List (Int × List UInt8 × Int × Int × Int × Int × List UInt8 × Int × Int × Int × List UInt8 × List UInt8 × List UInt8 × List UInt8 × Unit) ×
                    Int ×
                      Int ×
                        List
                            (Int ×
                              List UInt8 × Int × Int × Int × Int × List UInt8 × Int × Int × Int × List UInt8 × List UInt8 × List UInt8 × List UInt8 × Unit) ×
                          Unit)) : Option ((Int ×
            List UInt8 ×
              Int ×
                Unit ×
                  List (Int × List UInt8 × Int × Int × Int × Int × List UInt8 × Int × Int × Int × List UInt8 × List UInt8 × List UInt8 × List UInt8 × Unit) ×
                    Int ×
                      Int ×
                        List
                            (Int ×
                              List UInt8 × Int × Int × Int × Int × List UInt8 × Int × Int × Int × List UInt8 × List UInt8 × List UInt8 × List UInt8 × Unit) ×
                          Unit) ⊕ (Int ×
              List UInt8 ×
                Int ×
                  Unit ×
                    List (Int × List UInt8 × Int × Int × Int × Int × List UInt8 × Int × Int × Int × List UInt8 × List UInt8 × List UInt8 × List UInt8 × Unit) ×
                      Unit ⊕
            List (Int × List UInt8 × Int × Int × Int × Int × List UInt8 × Int × Int × Int × List UInt8 × List UInt8 × List UInt8 × List UInt8 × Unit) ×
              List UInt8 × Int × Unit)) :=
  if decide (v1.2.2.2.2.2.2.1 < v1.2.2.2.2.2.1) = true then
              ((idx v1.2.2.2.2.1 v1.2.2.2.2.2.2.1).bind
                    fun
                      (v2 :
                        Int × List UInt8 × Int × Int × Int × Int × List UInt8 × Int × Int × Int × List UInt8 × List UInt8 × List UInt8 × List UInt8 × Unit) =>
                    (M_entry_May F v2).bind fun (v3 : Bool) =>
                      if (!v3) = true then some (Sum.inr ([], [], 1, ()))
                      else
                        if decide (v2.1 = v1.1) = true then
                          if decide ((v1.2.2.2.2.2.2.2.1.length + [v2].length) * 160 ≤ 140737488355328) = true then
                            some (Sum.inl (v1.1, v1.2.1, v1.2.2.1, (), v1.2.2.2.2.1, v1.2.2.2.2.2.1, v1.2.2.2.2.2.2.1, v1.2.2.2.2.2.2.2.1 ++ [v2], ()))
                          else none
                        else some (Sum.inl v1)).bind
                fun
                  (v4 :
                    Int ×
                        List UInt8 ×
                          Int ×
                            Unit ×
                              List
                                  (Int ×
                                    List UInt8 ×
                                      Int × Int × Int × Int × List UInt8 × Int × Int × Int × List UInt8 × List UInt8 × List UInt8 × List UInt8 × Unit) ×
                                Int ×
                                  Int ×
                                    List
                                        (Int ×
                                          List UInt8 ×
                                            Int × Int × Int × Int × List UInt8 × Int × Int × Int × List UInt8 × List UInt8 × List UInt8 × List UInt8 × Unit) ×
                                      Unit ⊕
                      List
                          (Int ×
                            List UInt8 × Int × Int × Int × Int × List UInt8 × Int × Int × Int × List UInt8 × List UInt8 × List UInt8 × List UInt8 × Unit) ×
                        List UInt8 × Int × Unit) =>
                sumC v4
                  (fun
                      (v5 :
                        Int ×
                          List UInt8 ×
                            Int ×
                              Unit ×
                                List
                                    (Int ×
                                      List UInt8 ×
                                        Int × Int × Int × Int × List UInt8 × Int × Int × Int × List UInt8 × List UInt8 × List UInt8 × List UInt8 × Unit) ×
                                  Int ×
                                    Int ×
                                      List
                                          (Int ×
                                            List UInt8 ×
                                              Int ×
                                                Int × Int × Int × List UInt8 × Int × Int × Int × List UInt8 × List UInt8 × List UInt8 × List UInt8 × Unit) ×
                                        Unit) =>
                    some (Sum.inl (v5.1, v5.2.1, v5.2.2.1, (), v5.2.2.2.2.1, v5.2.2.2.2.2.1, IntKind.i64.wrap (v5.2.2.2.2.2.2.1 + 1), v5.2.2.2.2.2.2.2.1, ())))
                  fun
                    (v6 :
                      List
                          (Int ×
                            List UInt8 × Int × Int × Int × Int × List UInt8 × Int × Int × Int × List UInt8 × List UInt8 × List UInt8 × List UInt8 × Unit) ×
                        List UInt8 × Int × Unit) =>
                  some (Sum.inr (Sum.inr (v6.1, v6.2.1, v6.2.2.1, ())))
            else some (Sum.inr (Sum.inl (v1.1, v1.2.1, v1.2.2.1, (), v1.2.2.2.2.2.2.2.1, ())))
noncomputable def M_page_Page_l1 (F : Nat) (v13 : (Int ×
                          Int ×
                            List
                                (Int ×
                                  List UInt8 ×
                                    Int × Int × Int × Int × List UInt8 × Int × Int × Int × List UInt8 × List UInt8 × List UInt8 × List UInt8 × Unit) ×
                              List UInt8 × Bool × Int × Unit)) : Option ((Int ×
                          Int ×
                            List
                                (Int ×
                                  List UInt8 ×
                                    Int × Int × Int × Int × List UInt8 × Int × Int × Int × List UInt8 × List UInt8 × List UInt8 × List UInt8 × Unit) ×
                              List UInt8 × Bool × Int × Unit) ⊕ (Int ×
                          Int ×
                            List
                                (Int ×
                                  List UInt8 ×
                                    Int × Int × Int × Int × List UInt8 × Int × Int × Int × List UInt8 × List UInt8 × List UInt8 × List UInt8 × Unit) ×
                              Int × Unit)) :=
  (if v13.2.2.2.2.1 = true then
                                some
                                  (v13.1, v13.2.1, v13.2.2.1, v13.2.2.2.1, v13.2.2.2.2.1, v13.2.2.2.2.2.1, decide (v13.2.2.2.2.2.1 < (↑v13.2.2.1.length : Int)),
                                    ())
                              else some (v13.1, v13.2.1, v13.2.2.1, v13.2.2.2.1, v13.2.2.2.2.1, v13.2.2.2.2.2.1, false, ())).bind
                            fun
                              (v14 :
                                Int ×
                                  Int ×
                                    List
                                        (Int ×
                                          List UInt8 ×
                                            Int × Int × Int × Int × List UInt8 × Int × Int × Int × List UInt8 × List UInt8 × List UInt8 × List UInt8 × Unit) ×
                                      List UInt8 × Bool × Int × Bool × Unit) =>
                            (if v14.2.2.2.2.2.2.1 = true then
                                  (idx v14.2.2.1 v14.2.2.2.2.2.1).bind
                                    fun
                                      (v15 :
                                        Int ×
                                          List UInt8 ×
                                            Int × Int × Int × Int × List UInt8 × Int × Int × Int × List UInt8 × List UInt8 × List UInt8 × List UInt8 × Unit) =>
                                    some
                                      (v14.1, v14.2.1, v14.2.2.1, v14.2.2.2.1, v14.2.2.2.2.1, v14.2.2.2.2.2.1,
                                        Op.bytesLess v15.2.1 v14.2.2.2.1 || decide (v15.2.1 = v14.2.2.2.1), ())
                                else some (v14.1, v14.2.1, v14.2.2.1, v14.2.2.2.1, v14.2.2.2.2.1, v14.2.2.2.2.2.1, false, ())).bind
                              fun
                                (v16 :
                                  Int ×
                                    Int ×
                                      List
                                          (Int ×
                                            List UInt8 ×
                                              Int ×
                                                Int × Int × Int × List UInt8 × Int × Int × Int × List UInt8 × List UInt8 × List UInt8 × List UInt8 × Unit) ×
                                        List UInt8 × Bool × Int × Bool × Unit) =>
                              if v16.2.2.2.2.2.2.1 = true then
                                some (Sum.inl (v16.1, v16.2.1, v16.2.2.1, v16.2.2.2.1, v16.2.2.2.2.1, IntKind.i64.wrap (v16.2.2.2.2.2.1 + 1), ()))
                              else some (Sum.inr (v16.1, v16.2.1, v16.2.2.1, v16.2.2.2.2.2.1, ()))
noncomputable def M_page_Page (F : Nat) (x : (List (El .en)) × (Int) × (List UInt8) × (Int)) : Option ((List (El .en)) × (List UInt8) × (Int)) :=
  (if decide (x.2.1 < 0) = false then some (x.1, x.2.1, x.2.2.1, x.2.2.2, decide (4 ≤ x.2.1), ()) else some (x.1, x.2.1, x.2.2.1, x.2.2.2, true, ())).bind
    fun
      (v0 :
        List (Int × List UInt8 × Int × Int × Int × Int × List UInt8 × Int × Int × Int × List UInt8 × List UInt8 × List UInt8 × List UInt8 × Unit) ×
          Int × List UInt8 × Int × Bool × Unit) =>
    if v0.2.2.2.2.1 = true then some ([], [], 1)
    else
      (loopM (M_page_Page_l0 F)
            F (v0.2.1, v0.2.2.1, v0.2.2.2.1, (), v0.1, (↑v0.1.length : Int), 0, [], ())).bind
        fun
          (v7 :
            Int ×
                List UInt8 ×
                  Int ×
                    Unit ×
                      List (Int × List UInt8 × Int × Int × Int × Int × List UInt8 × Int × Int × Int × List UInt8 × List UInt8 × List UInt8 × List UInt8 × Unit) ×
                        Unit ⊕
              List (Int × List UInt8 × Int × Int × Int × Int × List UInt8 × Int × Int × Int × List UInt8 × List UInt8 × List UInt8 × List UInt8 × Unit) ×
                List UInt8 × Int × Unit) =>
        sumC v7
          (fun
              (v8 :
                Int ×
                  List UInt8 ×
                    Int ×
                      Unit ×
                        List
                            (Int ×
                              List UInt8 × Int × Int × Int × Int × List UInt8 × Int × Int × Int × List UInt8 × List UInt8 × List UInt8 × List UInt8 × Unit) ×
                          Unit) =>
            ((M_page_start F (v8.1, v8.2.1)).bind fun (v9 : List UInt8 × Bool × Int) => some (v8.1, v8.2.2.1, (), v9.1, v9.2.1, v9.2.2, v8.2.2.2.2.1, ())).bind
              fun
                (v10 :
                  Int ×
                    Int ×
                      Unit ×
                        List UInt8 ×
                          Bool ×
                            Int ×
                              List
                                  (Int ×
                                    List UInt8 ×
                                      Int × Int × Int × Int × List UInt8 × Int × Int × Int × List UInt8 × List UInt8 × List UInt8 × List UInt8 × Unit) ×
                                Unit) =>
              if (!decide (v10.2.2.2.2.2.1 = 0)) = true then some ([], [], v10.2.2.2.2.2.1)
              else
                (M_slices_SortStableFunc_api_Entry_api_Entry F ((v10.2.2.2.2.2.2.1, ()), ())).bind
                  fun
                    (v11 :
                      Unit ×
                        List
                            (Int ×
                              List UInt8 × Int × Int × Int × Int × List UInt8 × Int × Int × Int × List UInt8 × List UInt8 × List UInt8 × List UInt8 × Unit) ×
                          Unit) =>
                  (M_slices_CompactFunc_api_Entry_api_Entry F (v11.2.1, ())).bind
                    fun
                      (v12 :
                        List
                          (Int ×
                            List UInt8 × Int × Int × Int × Int × List UInt8 × Int × Int × Int × List UInt8 × List UInt8 × List UInt8 × List UInt8 × Unit)) =>
                    (loopM (M_page_Page_l1 F)
                          F (v10.1, v10.2.1, v12, v10.2.2.2.1, v10.2.2.2.2.1, 0, ())).bind
                      fun
                        (v17 :
                          Int ×
                            Int ×
                              List
                                  (Int ×
                                    List UInt8 ×
                                      Int × Int × Int × Int × List UInt8 × Int × Int × Int × List UInt8 × List UInt8 × List UInt8 × List UInt8 × Unit) ×
                                Int × Unit) =>
                      (sub v17.2.2.1 v17.2.2.2.1 (↑v17.2.2.1.length : Int)).bind
                        fun
                          (v18 :
                            List
                              (Int ×
                                List UInt8 × Int × Int × Int × Int × List UInt8 × Int × Int × Int × List UInt8 × List UInt8 × List UInt8 × List UInt8 × Unit)) =>
                        if decide ((↑v18.length : Int) ≤ if 50 < if v17.2.1 < 1 then 1 else v17.2.1 then 50 else if v17.2.1 < 1 then 1 else v17.2.1) = true then
                          some (v18, [], 0)
                        else
                          ((idx v18 (IntKind.i64.wrap ((if 50 < if v17.2.1 < 1 then 1 else v17.2.1 then 50 else if v17.2.1 < 1 then 1 else v17.2.1) - 1))).bind
                                fun
                                  (v19 :
                                    Int ×
                                      List UInt8 ×
                                        Int × Int × Int × Int × List UInt8 × Int × Int × Int × List UInt8 × List UInt8 × List UInt8 × List UInt8 × Unit) =>
                                (M_page_Mark F (v17.1, v19.2.1)).bind fun (v20 : List UInt8 × Int) =>
                                  some (if 50 < if v17.2.1 < 1 then 1 else v17.2.1 then 50 else if v17.2.1 < 1 then 1 else v17.2.1, v18, v20.1, ())).bind
                            fun
                              (v21 :
                                Int ×
                                  List
                                      (Int ×
                                        List UInt8 ×
                                          Int × Int × Int × Int × List UInt8 × Int × Int × Int × List UInt8 × List UInt8 × List UInt8 × List UInt8 × Unit) ×
                                    List UInt8 × Unit) =>
                            (if v21.1 ≤ v21.1 ∧ v21.1 ≤ (↑v21.2.1.length : Int) then sub v21.2.1 0 v21.1 else none).bind
                              fun
                                (v22 :
                                  List
                                    (Int ×
                                      List UInt8 ×
                                        Int × Int × Int × Int × List UInt8 × Int × Int × Int × List UInt8 × List UInt8 × List UInt8 × List UInt8 × Unit)) =>
                              some (v22, v21.2.2.1, 0))
          fun
            (v23 :
              List (Int × List UInt8 × Int × Int × Int × Int × List UInt8 × Int × Int × Int × List UInt8 × List UInt8 × List UInt8 × List UInt8 × Unit) ×
                List UInt8 × Int × Unit) =>
          some (v23.1, v23.2.1, v23.2.2.1)
theorem t_page_Page (x : (List (El .en)) × (Int) × (List UInt8) × (Int)) (F : Nat) : fnRun TT Tryd.prog (e_page_Page F) s_page_Page (bodyOf 25) F x = M_page_Page F x := by kernel_rfl
theorem c_page_Page (F : Nat) : Ctr TT Tryd.prog 25 (conOf TT s_page_Page (M_page_Page F)) :=
  ctr_of (code := bodyOf 25) Tryd.func25 (by kernel_rfl) (by kernel_rfl) (by kernel_rfl) (by kernel_rfl) (envS_ok (envS_ok (envS_ok (envS_ok (envS_ok (envS_ok (envS_ok envN_ok (c_entry_May F)) (c_page_start F)) (c_slices_SortStableFunc_api_Entry_api_Entry F)) (c_page_Page_1 F)) (c_slices_CompactFunc_api_Entry_api_Entry F)) (c_page_Page_2 F)) (c_page_Mark F)) hm (by kernel_rfl) (fun x r h => ⟨F, (t_page_Page x F).trans h⟩)
theorem mo_page_Page_l0 {F F' : Nat} (h : F ≤ F') : ∀ v, Le (M_page_Page_l0 F v) (M_page_Page_l0 F' v) := by
  intro v
  unfold M_page_Page_l0
  with_reducible repeat (first | (intro v) | exact Le.refl _ | exact h | exact mo_entry_May h _ | exact mo_page_start h _ | exact mo_slices_SortStableFunc_api_Entry_api_Entry h _ | exact mo_page_Page_1 h _ | exact mo_slices_CompactFunc_api_Entry_api_Entry h _ | exact mo_page_Page_2 h _ | exact mo_page_Mark h _ | apply Le.bind | apply Le.ite | apply Le.loop | apply Le.sumC)
theorem mo_page_Page_l1 {F F' : Nat} (h : F ≤ F') : ∀ v, Le (M_page_Page_l1 F v) (M_page_Page_l1 F' v) := by
  intro v
  unfold M_page_Page_l1
  with_reducible repeat (first | (intro v) | exact Le.refl _ | exact h | exact mo_entry_May h _ | exact mo_page_start h _ | exact mo_slices_SortStableFunc_api_Entry_api_Entry h _ | exact mo_page_Page_1 h _ | exact mo_slices_CompactFunc_api_Entry_api_Entry h _ | exact mo_page_Page_2 h _ | exact mo_page_Mark h _ | exact mo_page_Page_l0 h | exact mo_page_Page_l0 h _ | apply Le.bind | apply Le.ite | apply Le.loop | apply Le.sumC)
theorem mo_page_Page {F F' : Nat} (h : F ≤ F') : ∀ v, Le (M_page_Page F v) (M_page_Page F' v) := by
  intro v
  unfold M_page_Page
  with_reducible repeat (first | (intro v) | exact Le.refl _ | exact h | exact mo_entry_May h _ | exact mo_page_start h _ | exact mo_slices_SortStableFunc_api_Entry_api_Entry h _ | exact mo_page_Page_1 h _ | exact mo_slices_CompactFunc_api_Entry_api_Entry h _ | exact mo_page_Page_2 h _ | exact mo_page_Mark h _ | exact mo_page_Page_l0 h | exact mo_page_Page_l0 h _ | exact mo_page_Page_l1 h | exact mo_page_Page_l1 h _ | apply Le.bind | apply Le.ite | apply Le.loop | apply Le.sumC)
end Go.Vm
