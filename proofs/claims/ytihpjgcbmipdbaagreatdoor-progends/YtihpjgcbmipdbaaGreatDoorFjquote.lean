/- Models of functions of the program, and that each keeps its contract: for all arguments of its shape. No condition. -/
import Derived.Test.YtihpjgcbmipdbaaGreatDoorKt
import Derived.Test.YtihpjgcbmipdbaaGreatDoorFbld
namespace Go.Vm
open Go.Proofs
set_option linter.unusedVariables false
noncomputable def s_json_quote : Spec Kd := { params := [(.a (.row 5 .u8)), (.a .str)], ret := (.one (.a (.row 5 .u8))), pins := [], pl := { nt := 72, orc := { rv := [4, 69, 71], gv := [15] }, loops := [(0, ⟨[.tmp 0 (.a (.rowp 1)), .tmp 11 (.a (.ptr 704 0)), .box 704 .siter, .box 1 (.row 5 .u8)], [1088], [.tmpRow 0 1 5 .u8]⟩, (.exit 0, ⟨[.tmp 0 (.a (.rowp 1)), .box 1 (.row 5 .u8)], [1088], [.tmpRow 0 1 5 .u8]⟩), [])], cuts := [(6, [(6, ⟨[.tmp 0 (.a (.rowp 1)), .tmp 6 (.a (.int .i32)), .tmp 11 (.a (.ptr 704 0)), .tmp 24 (.a .bool), .box 704 .siter, .box 1 (.row 5 .u8)], [1088], [.tmpRow 0 1 5 .u8]⟩)])] }, rfrz := [], ts := [4] }
noncomputable def e_json_quote (F : Nat) : Env El := (envS 218 (conOf TT s_unicode_utf8_AppendRune (M_unicode_utf8_AppendRune F)) envN)
noncomputable def M_json_quote_l0 (F : Nat) (v0 : (Unit × Unit × (List UInt8 × Nat) × List UInt8 × Unit)) : Option ((Unit × Unit × (List UInt8 × Nat) × List UInt8 × Unit) ⊕ (Unit × List UInt8 × Unit)) :=
 if decide (v0.2.2.1.2 < v0.2.2.1.1.length) = true then
      (if decide (runeAt v0.2.2.1.1 v0.2.2.1.2 = 34) = false then
         some
          ((), runeAt v0.2.2.1.1 v0.2.2.1.2, (), decide (runeAt v0.2.2.1.1 v0.2.2.1.2 = 92), (v0.2.2.1.1, v0.2.2.1.2 + runeLen v0.2.2.1.1 v0.2.2.1.2),
            v0.2.2.2.1, ())
        else some ((), runeAt v0.2.2.1.1 v0.2.2.1.2, (), true, (v0.2.2.1.1, v0.2.2.1.2 + runeLen v0.2.2.1.1 v0.2.2.1.2), v0.2.2.2.1, ())).bind
       fun v1 =>
       if v1.2.2.2.1 = true then
        if decide ((v1.2.2.2.2.2.1.length + [UInt8.ofNat 92, UInt8.ofNat (IntKind.u8.wrap v1.2.1).toNat].length) * 1 ≤ 140737488355328) = true then
         some (Sum.inl ((), (), v1.2.2.2.2.1, v1.2.2.2.2.2.1 ++ [UInt8.ofNat 92, UInt8.ofNat (IntKind.u8.wrap v1.2.1).toNat], ()))
        else none
       else
        if decide (v1.2.1 = 8) = true then
         if decide ((v1.2.2.2.2.2.1.length + [92, 98].length) * 1 ≤ 140737488355328) = true then
          some (Sum.inl ((), (), v1.2.2.2.2.1, v1.2.2.2.2.2.1 ++ [92, 98], ()))
         else none
        else
         if decide (v1.2.1 = 12) = true then
          if decide ((v1.2.2.2.2.2.1.length + [92, 102].length) * 1 ≤ 140737488355328) = true then
           some (Sum.inl ((), (), v1.2.2.2.2.1, v1.2.2.2.2.2.1 ++ [92, 102], ()))
          else none
         else
          if decide (v1.2.1 = 10) = true then
           if decide ((v1.2.2.2.2.2.1.length + [92, 110].length) * 1 ≤ 140737488355328) = true then
            some (Sum.inl ((), (), v1.2.2.2.2.1, v1.2.2.2.2.2.1 ++ [92, 110], ()))
           else none
          else
           if decide (v1.2.1 = 13) = true then
            if decide ((v1.2.2.2.2.2.1.length + [92, 114].length) * 1 ≤ 140737488355328) = true then
             some (Sum.inl ((), (), v1.2.2.2.2.1, v1.2.2.2.2.2.1 ++ [92, 114], ()))
            else none
           else
            if decide (v1.2.1 = 9) = true then
             if decide ((v1.2.2.2.2.2.1.length + [92, 116].length) * 1 ≤ 140737488355328) = true then
              some (Sum.inl ((), (), v1.2.2.2.2.1, v1.2.2.2.2.2.1 ++ [92, 116], ()))
             else none
            else
             if decide (v1.2.1 < 32) = true then
              if decide ((v1.2.2.2.2.2.1.length + [92, 117, 48, 48].length) * 1 ≤ 140737488355328) = true then
               (idx ([48, 49, 50, 51, 52, 53, 54, 55, 56, 57, 97, 98, 99, 100, 101, 102] : List UInt8) (shr IntKind.i32 v1.2.1 4)).bind fun v2 =>
                (idx ([48, 49, 50, 51, 52, 53, 54, 55, 56, 57, 97, 98, 99, 100, 101, 102] : List UInt8) (iand IntKind.i32 v1.2.1 15)).bind fun v3 =>
                 if
                   decide
                     (((v1.2.2.2.2.2.1 ++ [92, 117, 48, 48]).length +
                        [UInt8.ofNat (↑v2.toNat : Int).toNat, UInt8.ofNat (↑v3.toNat : Int).toNat].length) *
                       1 ≤
                      140737488355328) =
                    true then
                  some
                   (Sum.inl
                    ((), (), v1.2.2.2.2.1,
                      v1.2.2.2.2.2.1 ++ [92, 117, 48, 48] ++ [UInt8.ofNat (↑v2.toNat : Int).toNat, UInt8.ofNat (↑v3.toNat : Int).toNat],
                      ()))
                 else none
              else none
             else (M_unicode_utf8_AppendRune F (v1.2.2.2.2.2.1, v1.2.1)).bind fun v4 => some (Sum.inl ((), (), v1.2.2.2.2.1, v4, ()))
     else some (Sum.inr ((), v0.2.2.2.1, ()))
noncomputable def M_json_quote (F : Nat) (x : (List (El .u8)) × (List UInt8)) : Option (List (El .u8)) :=
 if decide ((x.1.length + [UInt8.ofNat 34].length) * 1 ≤ 140737488355328) = true then
  (loopM (M_json_quote_l0 F)
     F ((), (), (x.2, 0), x.1 ++ [UInt8.ofNat 34], ())).bind
   fun v5 => if decide ((v5.2.1.length + [UInt8.ofNat 34].length) * 1 ≤ 140737488355328) = true then some (v5.2.1 ++ [UInt8.ofNat 34]) else none
 else none
theorem t_json_quote (x : (List (El .u8)) × (List UInt8)) (F : Nat) : fnRun TT Tryz.prog (e_json_quote F) s_json_quote (bodyOf 163) F x = M_json_quote F x := by kernel_rfl
theorem c_json_quote (F : Nat) : Ctr TT Tryz.prog 163 (conOf TT s_json_quote (M_json_quote F)) :=
 ctr_of (code := bodyOf 163) Tryz.func163 (by kernel_rfl) (by kernel_rfl) (by kernel_rfl) (by kernel_rfl) (envS_ok envN_ok (c_unicode_utf8_AppendRune F)) hm (by kernel_rfl) (fun x r h => ⟨F, (t_json_quote x F).trans h⟩)
end Go.Vm
