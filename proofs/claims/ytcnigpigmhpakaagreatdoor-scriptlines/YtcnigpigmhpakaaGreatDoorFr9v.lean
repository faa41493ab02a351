/- Models of functions of the program, and that each keeps its contract: for all arguments of its shape. No condition. -/
import Derived.Test.YtcnigpigmhpakaaGreatDoorKt
import Derived.Test.YtcnigpigmhpakaaGreatDoorFr9
namespace Go.Vm
open Go.Proofs
set_option linter.unusedVariables false
noncomputable def ao:Spec Kd:={ params := [(.pin 89 [.str,(.int .i64),(.int .i64),(.int .i64)])],ret:=(.one (.agg [(.int .i64), .str, .str,(.int .i64),(.slc .str),(.slc .str)])),pins := [[.str,(.int .i64),(.int .i64),(.int .i64)]],pl:={ nt:=39 },rfrz := [],ts := [39],rc := [(2,some 70)],rco := [.cellSlc 128 4 .str, .cellSlc 128 5 .str] }
noncomputable def eI:Spec Kd:={ params := [(.pin 89 [.str,(.int .i64),(.int .i64),(.int .i64)])],ret:=(.one (.agg [(.int .i64), .str, .str,(.int .i64),(.slc .str),(.slc .str)])),pins := [[.str,(.int .i64),(.int .i64),(.int .i64)]],pl:={ nt:=70,joins := [(1600050,(.norm,⟨[.tmp 0 (.a (.ptr 1 0)), .tmp 2 (.a (.ptr 128 0)), .tmp 3 (.a (.ptr 192 0)), .tmp 4 (.a (.int .i64)), .box 1 (.cells 89 [.str,(.int .i64),(.int .i64),(.int .i64)]), .box 128 (.cells 70 [(.int .i64), .str, .str,(.int .i64),(.slc .str),(.slc .str)]), .box 192 (.cells 70 [(.int .i64), .str, .str,(.int .i64),(.slc .str),(.rowp 1012293)]), .box 1012293 (.row 9 .str)],[],[.cellSlc 128 4 .str, .cellSlc 128 5 .str, .cellSlc 192 4 .str, .cellRow 192 5 1012293 9 .str]⟩),[])],loops := [(2,⟨[.tmp 0 (.a (.ptr 1 0)), .tmp 2 (.a (.ptr 128 0)), .tmp 3 (.a (.ptr 192 0)), .tmp 4 (.a (.int .i64)), .box 1 (.cells 89 [.str,(.int .i64),(.int .i64),(.int .i64)]), .box 128 (.cells 70 [(.int .i64), .str, .str,(.int .i64),(.slc .str),(.slc .str)]), .box 192 (.cells 70 [(.int .i64), .str, .str,(.int .i64),(.slc .str),(.rowp 1012293)]), .box 1012293 (.row 9 .str)],[],[.cellSlc 128 4 .str, .cellSlc 128 5 .str, .cellSlc 192 4 .str, .cellRow 192 5 1012293 9 .str]⟩,(.exit 2,⟨[.tmp 0 (.a (.ptr 1 0)), .tmp 2 (.a (.ptr 128 0)), .tmp 3 (.a (.ptr 192 0)), .box 1 (.cells 89 [.str,(.int .i64),(.int .i64),(.int .i64)]), .box 128 (.cells 70 [(.int .i64), .str, .str,(.int .i64),(.slc .str),(.slc .str)]), .box 192 (.cells 70 [(.int .i64), .str, .str,(.int .i64),(.slc .str),(.rowp 1012293)]), .box 1012293 (.row 9 .str)],[],[.cellSlc 128 4 .str, .cellSlc 128 5 .str, .cellSlc 192 4 .str, .cellRow 192 5 1012293 9 .str]⟩),[]),(0,⟨[.tmp 0 (.a (.ptr 1 0)), .tmp 2 (.a (.ptr 128 0)), .tmp 3 (.a (.ptr 192 0)), .box 1 (.cells 89 [.str,(.int .i64),(.int .i64),(.int .i64)]), .box 128 (.cells 70 [(.int .i64), .str, .str,(.int .i64),(.slc .str),(.slc .str)]), .box 192 (.cells 70 [(.int .i64), .str, .str,(.int .i64),(.slc .str),(.rowp 1012293)]), .box 1012293 (.row 9 .str)],[],[.cellSlc 128 4 .str, .cellSlc 128 5 .str, .cellSlc 192 4 .str, .cellRow 192 5 1012293 9 .str]⟩,(.exit 0,⟨[.tmp 0 (.a (.ptr 1 0)), .tmp 2 (.a (.ptr 128 0)), .tmp 3 (.a (.ptr 192 0)), .box 1 (.cells 89 [.str,(.int .i64),(.int .i64),(.int .i64)]), .box 128 (.cells 70 [(.int .i64), .str, .str,(.int .i64),(.slc .str),(.slc .str)]), .box 192 (.cells 70 [(.int .i64), .str, .str,(.int .i64),(.slc .str),(.rowp 1012293)]), .box 1012293 (.row 9 .str)],[],[.cellSlc 128 4 .str, .cellSlc 128 5 .str, .cellSlc 192 4 .str, .cellRow 192 5 1012293 9 .str]⟩),[])],ends := [(9,⟨[.tmp 0 (.a (.ptr 1 0)), .tmp 2 (.a (.ptr 128 0)), .tmp 3 (.a (.ptr 192 0)), .box 1 (.cells 89 [.str,(.int .i64),(.int .i64),(.int .i64)]), .box 128 (.cells 70 [(.int .i64), .str, .str,(.int .i64),(.slc .str),(.slc .str)]), .box 192 (.cells 70 [(.int .i64), .str, .str,(.int .i64),(.slc .str),(.rowp 1012293)]), .box 1012293 (.row 9 .str)],[],[.cellSlc 128 4 .str, .cellSlc 128 5 .str, .cellSlc 192 4 .str, .cellRow 192 5 1012293 9 .str]⟩)],frz := [(7,[1012293]),(18,[1012293])] },rfrz := [],ts := [70],rc := [(2,some 70)],rco := [.cellSlc 128 4 .str, .cellSlc 128 5 .str] }
noncomputable def lA (F:Nat) (R:tyS El ao.params→Option (ao.R El)):Env El:=(el 44 (ak TT ao R) (el 78 (ak TT eT (ax F)) (el 57 (ak TT cS (ai F)) (el 76 (ak TT eP (aQ F)) yI))))
noncomputable def bI (F:Nat) (R:(B8×(Int)×(Int)×(Int)×Unit)→Option (((Int)×B8×B8×(Int)×(List (El .str))×(List (El .str))×Unit)×(B8×(Int)×(Int)×(Int)×Unit))) (v2:(Unit ×
       Unit ×
        Unit ×
         (B8×Int×Int×Int×Unit) ×
          (Int×B8×B8×Int×List B8×List B8×Unit) ×
           (Int×B8×B8×Int×List B8×Unit×Unit)×List B8×Unit)):Option ((Unit ×
       Unit ×
        Unit ×
         (B8×Int×Int×Int×Unit) ×
          (Int×B8×B8×Int×List B8×List B8×Unit) ×
           (Int×B8×B8×Int×List B8×Unit×Unit)×List B8×Unit) ⊕ (Unit ×
       Unit ×
        Unit ×
         (B8×Int×Int×Int×Unit) ×
          (Int×B8×B8×Int×List B8×List B8×Unit) ×
           (Int×B8×B8×Int×List B8×Unit×Unit)×List B8×Unit)) :=
 if decide (v2.2.2.2.1.2.2.2.1=0)=true then
        ((R (v2.2.2.2.1.1,v2.2.2.2.1.2.1,v2.2.2.2.1.2.2.1,v2.2.2.2.1.2.2.2.1,())).bind
           fun (v3:(Int×B8×B8×Int×List B8×List B8×Unit)×B8×Int×Int×Int×Unit) =>
           if decide ((v2.2.2.2.2.2.2.1.length + [v3.1.2.1].length) * 16≤140737488355328)=true then
            some
             ((),(),(),(v3.2.1,v3.2.2.1,v3.2.2.2.1,v3.2.2.2.2.1,()),v2.2.2.2.2.1,
               (v2.2.2.2.2.2.1.1,v2.2.2.2.2.2.1.2.1,v2.2.2.2.2.2.1.2.2.1,v2.2.2.2.2.2.1.2.2.2.1,v2.2.2.2.2.2.1.2.2.2.2.1,(),()),
               v2.2.2.2.2.2.2.1 ++ [v3.1.2.1],())
           else none).bind
         fun
          (v4 :
           Unit ×
            Unit ×
             Unit ×
              (B8×Int×Int×Int×Unit) ×
               (Int×B8×B8×Int×List B8×List B8×Unit) ×
                (Int×B8×B8×Int×List B8×Unit×Unit)×List B8×Unit) =>
         (ax F ((v4.2.2.2.1.1,v4.2.2.2.1.2.1,v4.2.2.2.1.2.2.1,v4.2.2.2.1.2.2.2.1,()),93)).bind
          fun (v5:Bool×B8×Int×Int×Int×Unit) =>
          if (!v5.1)=true then
           some
            (Sum.inr
             ((),(),(),(v5.2.1,v5.2.2.1,v5.2.2.2.1,v5.2.2.2.2.1,()),v4.2.2.2.2.1,
               (v4.2.2.2.2.2.1.1,v4.2.2.2.2.2.1.2.1,v4.2.2.2.2.2.1.2.2.1,v4.2.2.2.2.2.1.2.2.2.1,v4.2.2.2.2.2.1.2.2.2.2.1,(),()),
               v4.2.2.2.2.2.2.1,()))
          else
           some
            (Sum.inl
             ((),(),(),(v5.2.1,v5.2.2.1,v5.2.2.2.1,v5.2.2.2.2.1,()),v4.2.2.2.2.1,
               (v4.2.2.2.2.2.1.1,v4.2.2.2.2.2.1.2.1,v4.2.2.2.2.2.1.2.2.1,v4.2.2.2.2.2.1.2.2.2.1,v4.2.2.2.2.2.1.2.2.2.2.1,(),()),
               v4.2.2.2.2.2.2.1,()))
       else
        some
         (Sum.inr
          ((),(),(),(v2.2.2.2.1.1,v2.2.2.2.1.2.1,v2.2.2.2.1.2.2.1,v2.2.2.2.1.2.2.2.1,()),v2.2.2.2.2.1,
            (v2.2.2.2.2.2.1.1,v2.2.2.2.2.2.1.2.1,v2.2.2.2.2.2.1.2.2.1,v2.2.2.2.2.2.1.2.2.2.1,v2.2.2.2.2.2.1.2.2.2.2.1,(),()),v2.2.2.2.2.2.2.1,
            ()))
noncomputable def cL (F:Nat) (R:(B8×(Int)×(Int)×(Int)×Unit)→Option (((Int)×B8×B8×(Int)×(List (El .str))×(List (El .str))×Unit)×(B8×(Int)×(Int)×(Int)×Unit))) (v7:(Unit ×
        Unit ×
         Unit ×
          Int ×
           (B8×Int×Int×Int×Unit) ×
            (Int×B8×B8×Int×List B8×List B8×Unit) ×
             (Int×B8×B8×Int×List B8×Unit×Unit)×List B8×Unit)):Option ((Unit ×
        Unit ×
         Unit ×
          Int ×
           (B8×Int×Int×Int×Unit) ×
            (Int×B8×B8×Int×List B8×List B8×Unit) ×
             (Int×B8×B8×Int×List B8×Unit×Unit)×List B8×Unit) ⊕ (Unit ×
        Unit ×
         Unit ×
          (B8×Int×Int×Int×Unit) ×
           (Int×B8×B8×Int×List B8×List B8×Unit) ×
            (Int×B8×B8×Int×List B8×Unit×Unit)×List B8×Unit)) :=
 if decide (v7.2.2.2.1<(↑v7.2.2.2.2.2.2.2.1.length:Int))=true then
         (if decide (0<v7.2.2.2.1)=true then
            if decide (v7.2.2.2.2.2.2.1.2.1.length + [44].length≤9223372036854775807)=true then
             some
              ((),(),(),v7.2.2.2.1,(v7.2.2.2.2.1.1,v7.2.2.2.2.1.2.1,v7.2.2.2.2.1.2.2.1,v7.2.2.2.2.1.2.2.2.1,()),v7.2.2.2.2.2.1,
                (v7.2.2.2.2.2.2.1.1,v7.2.2.2.2.2.2.1.2.1 ++ [44],v7.2.2.2.2.2.2.1.2.2.1,v7.2.2.2.2.2.2.1.2.2.2.1,v7.2.2.2.2.2.2.1.2.2.2.2.1,
                  (),()),
                v7.2.2.2.2.2.2.2.1,())
            else none
           else
            some
             ((),(),(),v7.2.2.2.1,(v7.2.2.2.2.1.1,v7.2.2.2.2.1.2.1,v7.2.2.2.2.1.2.2.1,v7.2.2.2.2.1.2.2.2.1,()),v7.2.2.2.2.2.1,
               (v7.2.2.2.2.2.2.1.1,v7.2.2.2.2.2.2.1.2.1,v7.2.2.2.2.2.2.1.2.2.1,v7.2.2.2.2.2.2.1.2.2.2.1,v7.2.2.2.2.2.2.1.2.2.2.2.1,(),()),
               v7.2.2.2.2.2.2.2.1,())).bind
          fun
           (v8 :
            Unit ×
             Unit ×
              Unit ×
               Int ×
                (B8×Int×Int×Int×Unit) ×
                 (Int×B8×B8×Int×List B8×List B8×Unit) ×
                  (Int×B8×B8×Int×List B8×Unit×Unit)×List B8×Unit) =>
          (idx v8.2.2.2.2.2.2.2.1 v8.2.2.2.1).bind fun (v9:B8) =>
           if decide (v8.2.2.2.2.2.2.1.2.1.length+v9.length≤9223372036854775807)=true then
            some
             (Sum.inl
              ((),(),(),IntKind.i64.wrap (v8.2.2.2.1+1),(v8.2.2.2.2.1.1,v8.2.2.2.2.1.2.1,v8.2.2.2.2.1.2.2.1,v8.2.2.2.2.1.2.2.2.1,()),
                v8.2.2.2.2.2.1,
                (v8.2.2.2.2.2.2.1.1,v8.2.2.2.2.2.2.1.2.1 ++ v9,v8.2.2.2.2.2.2.1.2.2.1,v8.2.2.2.2.2.2.1.2.2.2.1,v8.2.2.2.2.2.2.1.2.2.2.2.1,(),
                  ()),
                v8.2.2.2.2.2.2.2.1,()))
           else none
        else
         some
          (Sum.inr
           ((),(),(),(v7.2.2.2.2.1.1,v7.2.2.2.2.1.2.1,v7.2.2.2.2.1.2.2.1,v7.2.2.2.2.1.2.2.2.1,()),v7.2.2.2.2.2.1,
             (v7.2.2.2.2.2.2.1.1,v7.2.2.2.2.2.2.1.2.1,v7.2.2.2.2.2.2.1.2.2.1,v7.2.2.2.2.2.2.1.2.2.2.1,v7.2.2.2.2.2.2.1.2.2.2.2.1,(),()),
             v7.2.2.2.2.2.2.2.1,()))
noncomputable def aR (F:Nat) (R:(B8×(Int)×(Int)×(Int)×Unit)→Option (((Int)×B8×B8×(Int)×(List (El .str))×(List (El .str))×Unit)×(B8×(Int)×(Int)×(Int)×Unit))) (x:(B8×(Int)×(Int)×(Int)×Unit)):Option (((Int)×B8×B8×(Int)×(List (El .str))×(List (El .str))×Unit)×(B8×(Int)×(Int)×(Int)×Unit)):=(aQ F (x.1,x.2.1,x.2.2.1,x.2.2.2.1,())).bind fun (v0:Unit×B8×Int×Int×Int×Unit)=>(ai F ((v0.2.1,v0.2.2.1,v0.2.2.2.1,v0.2.2.2.2.1,()),93)).bind fun (v1:Bool×B8×Int×Int×Int×Unit)=>if v1.1=true then some ((5,[91,93],[],0,[],[],()),v1.2.1,IntKind.i64.wrap (v1.2.2.1+1),IntKind.i64.wrap (v1.2.2.2.1 - 1),v1.2.2.2.2.1,()) else (bS (bI F R) F ((),(),(),(v1.2.1,v1.2.2.1,v1.2.2.2.1,v1.2.2.2.2.1,()),(0,[],[],0,[],[],()),(5,[],[],0,[],(),()),[],())).bind fun (v6:Unit×Unit×Unit×(B8×Int×Int×Int×Unit)×(Int×B8×B8×Int×List B8×List B8×Unit)×(Int×B8×B8×Int×List B8×Unit×Unit)×List B8×Unit)=>(bS (cL F R) F ((),(),(),0,(v6.2.2.2.1.1,v6.2.2.2.1.2.1,v6.2.2.2.1.2.2.1,v6.2.2.2.1.2.2.2.1,()),v6.2.2.2.2.1,(v6.2.2.2.2.2.1.1,v6.2.2.2.2.2.1.2.1,v6.2.2.2.2.2.1.2.2.1,v6.2.2.2.2.2.1.2.2.2.1,v6.2.2.2.2.2.1.2.2.2.2.1,(),()),v6.2.2.2.2.2.2.1,())).bind fun (v10:Unit×Unit×Unit×(B8×Int×Int×Int×Unit)×(Int×B8×B8×Int×List B8×List B8×Unit)×(Int×B8×B8×Int×List B8×Unit×Unit)×List B8×Unit)=>if decide ([91].length+v10.2.2.2.2.2.1.2.1.length≤9223372036854775807)=true then if decide (([91] ++ v10.2.2.2.2.2.1.2.1).length + [93].length≤9223372036854775807)=true then some ((v10.2.2.2.2.2.1.1,[91] ++ v10.2.2.2.2.2.1.2.1 ++ [93],v10.2.2.2.2.2.1.2.2.1,v10.2.2.2.2.2.1.2.2.2.1,v10.2.2.2.2.2.1.2.2.2.2.1,v10.2.2.2.2.2.2.1,()),v10.2.2.2.1.1,v10.2.2.2.1.2.1,v10.2.2.2.1.2.2.1,v10.2.2.2.1.2.2.2.1,()) else none else none
theorem ll (x:(B8×(Int)×(Int)×(Int)×Unit)) (F:Nat) (R:(B8×(Int)×(Int)×(Int)×Unit)→Option (((Int)×B8×B8×(Int)×(List (El .str))×(List (El .str))×Unit)×(B8×(Int)×(Int)×(Int)×Unit))):o6 TT Tryz.prog (lA F R) eI (aw 59) F x=aR F R x:=by kernel_rfl
theorem lz (F:Nat) (R:(B8×(Int)×(Int)×(Int)×Unit)→Option (((Int)×B8×B8×(Int)×(List (El .str))×(List (El .str))×Unit)×(B8×(Int)×(Int)×(Int)×Unit))) (hR:Ctr TT Tryz.prog 44 (ak TT ao R)):Ctr TT Tryz.prog 59 (ak TT eI (aR F R)) :=
 nh (code:=aw 59) Tryz.func59 (by kernel_rfl) (by kernel_rfl) (by kernel_rfl) (by kernel_rfl) (ag (ag (ag (ag aq (gG F)) (bY F)) (gH F)) hR) hm (by kernel_rfl) (fun x r h=>⟨F,(ll x F R).trans h⟩)
noncomputable def dZ:Spec Kd:={ params := [(.pin 89 [.str,(.int .i64),(.int .i64),(.int .i64)]),(.agg [(.int .i64), .str, .str,(.int .i64),(.slc .str),(.slc .str)])],ret:=(.one (.agg [(.int .i64), .str, .str,(.int .i64),(.slc .str),(.slc .str)])),pins := [[.str,(.int .i64),(.int .i64),(.int .i64)]],pl:={ nt:=60,joins := [(900026,(.norm,⟨[.tmp 0 (.a (.ptr 1 0)), .tmp 3 (.a (.ptr 192 0)), .tmp 4 (.a (.ptr 256 0)), .tmp 5 (.a .str), .tmp 6 (.a (.int .i64)), .box 1 (.cells 89 [.str,(.int .i64),(.int .i64),(.int .i64)]), .box 192 (.cells 70 [(.int .i64), .str, .str,(.int .i64),(.slc .str),(.slc .str)]), .box 256 (.cells 70 [(.int .i64), .str, .str,(.int .i64),(.slc .str),(.slc .str)])],[],[.cellSlc 192 4 .str, .cellSlc 192 5 .str, .cellSlc 256 4 .str, .cellSlc 256 5 .str]⟩),[])] },rfrz := [],ts := [60],rc := [(4,some 70)],rco := [.cellSlc 256 4 .str, .cellSlc 256 5 .str] }
noncomputable def kp (F:Nat) (R:tyS El ao.params→Option (ao.R El)):Env El:=(el 44 (ak TT ao R) (el 103 (ak TT jZ (bJ F)) (el 102 (ak TT jm (cA F)) (el 60 (ak TT eO (aI F)) (el 46 (ak TT gX (aj F)) (el 57 (ak TT cS (ai F)) (el 45 (ak TT eh (au F)) yI)))))))
noncomputable def aV (F:Nat) (R:(B8×(Int)×(Int)×(Int)×Unit)→Option (((Int)×B8×B8×(Int)×(List (El .str))×(List (El .str))×Unit)×(B8×(Int)×(Int)×(Int)×Unit))) (x:(B8×(Int)×(Int)×(Int)×Unit)×((Int)×B8×B8×(Int)×(List (El .str))×(List (El .str))×Unit)):Option (((Int)×B8×B8×(Int)×(List (El .str))×(List (El .str))×Unit)×(B8×(Int)×(Int)×(Int)×Unit)):=(au F (x.1.1,x.1.2.1,x.1.2.2.1,x.1.2.2.2.1,())).bind fun (v0:Unit×B8×Int×Int×Int×Unit)=>(ai F ((v0.2.1,v0.2.2.1,v0.2.2.2.1,v0.2.2.2.2.1,()),34)).bind fun (v1:Bool×B8×Int×Int×Int×Unit)=>if (!v1.1)=true then (aj F ((v1.2.1,v1.2.2.1,v1.2.2.2.1,v1.2.2.2.2.1,()),3)).bind fun (v2:Unit×B8×Int×Int×Int×Unit)=>some (x.2,v2.2.1,v2.2.2.1,v2.2.2.2.1,v2.2.2.2.2.1,()) else (aI F (v1.2.1,v1.2.2.1,v1.2.2.2.1,v1.2.2.2.2.1,())).bind fun (v3:B8×B8×Int×Int×Int×Unit)=>(cA F (x.2.2.2.2.2.1,v3.1)).bind fun (v4:Int×Bool)=>(if v4.2=true then (aj F ((v3.2.1,v3.2.2.1,v3.2.2.2.1,v3.2.2.2.2.1,()),7)).bind fun (v5:Unit×B8×Int×Int×Int×Unit)=>some ((),(),(),v3.1,v4.1,(v5.2.1,v5.2.2.1,v5.2.2.2.1,v5.2.2.2.2.1,()),x.2,(0,[],[],0,[],[],()),()) else some ((),(),(),v3.1,v4.1,(v3.2.1,v3.2.2.1,v3.2.2.2.1,v3.2.2.2.2.1,()),x.2,(0,[],[],0,[],[],()),())).bind fun (v6:Unit×Unit×Unit×B8×Int×(B8×Int×Int×Int×Unit)×(Int×B8×B8×Int×List B8×List B8×Unit)×(Int×B8×B8×Int×List B8×List B8×Unit)×Unit)=>(au F (v6.2.2.2.2.2.1.1,v6.2.2.2.2.2.1.2.1,v6.2.2.2.2.2.1.2.2.1,v6.2.2.2.2.2.1.2.2.2.1,())).bind fun (v7:Unit×B8×Int×Int×Int×Unit)=>(ai F ((v7.2.1,v7.2.2.1,v7.2.2.2.1,v7.2.2.2.2.1,()),58)).bind fun (v8:Bool×B8×Int×Int×Int×Unit)=>if (!v8.1)=true then (aj F ((v8.2.1,v8.2.2.1,v8.2.2.2.1,v8.2.2.2.2.1,()),3)).bind fun (v9:Unit×B8×Int×Int×Int×Unit)=>some (v6.2.2.2.2.2.2.1,v9.2.1,v9.2.2.1,v9.2.2.2.1,v9.2.2.2.2.1,()) else (R (v8.2.1,IntKind.i64.wrap (v8.2.2.1+1),v8.2.2.2.1,v8.2.2.2.2.1,())).bind fun (v10:(Int×B8×B8×Int×List B8×List B8×Unit)×B8×Int×Int×Int×Unit)=>(bJ F (v6.2.2.2.2.2.2.1.2.2.2.2.1,v6.2.2.2.2.1,v6.2.2.2.1)).bind fun (v11:List B8)=>(bJ F (v6.2.2.2.2.2.2.1.2.2.2.2.2.1,v6.2.2.2.2.1,v10.1.2.1)).bind fun (v12:List B8)=>some ((v6.2.2.2.2.2.2.1.1,v6.2.2.2.2.2.2.1.2.1,v6.2.2.2.2.2.2.1.2.2.1,v6.2.2.2.2.2.2.1.2.2.2.1,v11,v12,()),v10.2.1,v10.2.2.1,v10.2.2.2.1,v10.2.2.2.2.1,())
theorem kj (x:(B8×(Int)×(Int)×(Int)×Unit)×((Int)×B8×B8×(Int)×(List (El .str))×(List (El .str))×Unit)) (F:Nat) (R:(B8×(Int)×(Int)×(Int)×Unit)→Option (((Int)×B8×B8×(Int)×(List (El .str))×(List (El .str))×Unit)×(B8×(Int)×(Int)×(Int)×Unit))):o6 TT Tryz.prog (kp F R) dZ (aw 77) F x=aV F R x:=by kernel_rfl
theorem j5 (F:Nat) (R:(B8×(Int)×(Int)×(Int)×Unit)→Option (((Int)×B8×B8×(Int)×(List (El .str))×(List (El .str))×Unit)×(B8×(Int)×(Int)×(Int)×Unit))) (hR:Ctr TT Tryz.prog 44 (ak TT ao R)):Ctr TT Tryz.prog 77 (ak TT dZ (aV F R)) :=
 nh (code:=aw 77) Tryz.func77 (by kernel_rfl) (by kernel_rfl) (by kernel_rfl) (by kernel_rfl) (ag (ag (ag (ag (ag (ag (ag aq (bW F)) (bY F)) (bq F)) (gA F)) (mU F)) (oU F)) hR) hm (by kernel_rfl) (fun x r h=>⟨F,(kj x F R).trans h⟩)
noncomputable def ed:Spec Kd:={ params := [(.pin 89 [.str,(.int .i64),(.int .i64),(.int .i64)])],ret:=(.one (.agg [(.int .i64), .str, .str,(.int .i64),(.slc .str),(.slc .str)])),pins := [[.str,(.int .i64),(.int .i64),(.int .i64)]],pl:={ nt:=73,joins := [(1600045,(.norm,⟨[.tmp 0 (.a (.ptr 1 0)), .tmp 2 (.a (.ptr 128 0)), .tmp 3 (.a (.ptr 192 0)), .tmp 4 (.a (.int .i64)), .box 1 (.cells 89 [.str,(.int .i64),(.int .i64),(.int .i64)]), .box 128 (.cells 70 [(.int .i64), .str, .str,(.int .i64),(.slc .str),(.slc .str)]), .box 192 (.cells 70 [(.int .i64), .str, .str,(.int .i64),(.slc .str),(.slc .str)])],[],[.cellSlc 128 4 .str, .cellSlc 128 5 .str, .cellSlc 192 4 .str, .cellSlc 192 5 .str]⟩),[])],loops := [(2,⟨[.tmp 0 (.a (.ptr 1 0)), .tmp 2 (.a (.ptr 128 0)), .tmp 3 (.a (.ptr 192 0)), .tmp 4 (.a (.int .i64)), .box 1 (.cells 89 [.str,(.int .i64),(.int .i64),(.int .i64)]), .box 128 (.cells 70 [(.int .i64), .str, .str,(.int .i64),(.slc .str),(.slc .str)]), .box 192 (.cells 70 [(.int .i64), .str, .str,(.int .i64),(.slc .str),(.slc .str)])],[],[.cellSlc 128 4 .str, .cellSlc 128 5 .str, .cellSlc 192 4 .str, .cellSlc 192 5 .str]⟩,(.exit 2,⟨[.tmp 0 (.a (.ptr 1 0)), .tmp 2 (.a (.ptr 128 0)), .tmp 3 (.a (.ptr 192 0)), .box 1 (.cells 89 [.str,(.int .i64),(.int .i64),(.int .i64)]), .box 128 (.cells 70 [(.int .i64), .str, .str,(.int .i64),(.slc .str),(.slc .str)]), .box 192 (.cells 70 [(.int .i64), .str, .str,(.int .i64),(.slc .str),(.slc .str)])],[],[.cellSlc 128 4 .str, .cellSlc 128 5 .str, .cellSlc 192 4 .str, .cellSlc 192 5 .str]⟩),[]),(0,⟨[.tmp 0 (.a (.ptr 1 0)), .tmp 2 (.a (.ptr 128 0)), .tmp 3 (.a (.ptr 192 0)), .box 1 (.cells 89 [.str,(.int .i64),(.int .i64),(.int .i64)]), .box 128 (.cells 70 [(.int .i64), .str, .str,(.int .i64),(.slc .str),(.slc .str)]), .box 192 (.cells 70 [(.int .i64), .str, .str,(.int .i64),(.slc .str),(.slc .str)])],[],[.cellSlc 128 4 .str, .cellSlc 128 5 .str, .cellSlc 192 4 .str, .cellSlc 192 5 .str]⟩,(.exit 0,⟨[.tmp 0 (.a (.ptr 1 0)), .tmp 2 (.a (.ptr 128 0)), .tmp 3 (.a (.ptr 192 0)), .box 1 (.cells 89 [.str,(.int .i64),(.int .i64),(.int .i64)]), .box 128 (.cells 70 [(.int .i64), .str, .str,(.int .i64),(.slc .str),(.slc .str)]), .box 192 (.cells 70 [(.int .i64), .str, .str,(.int .i64),(.slc .str),(.slc .str)])],[],[.cellSlc 128 4 .str, .cellSlc 128 5 .str, .cellSlc 192 4 .str, .cellSlc 192 5 .str]⟩),[])] },rfrz := [],ts := [73],rc := [(2,some 70)],rco := [.cellSlc 128 4 .str, .cellSlc 128 5 .str] }
noncomputable def kc (F:Nat) (R:tyS El ao.params→Option (ao.R El)):Env El:=(el 44 (ak TT ao R) (el 32 (ak TT fL (aC F)) (el 78 (ak TT eT (ax F)) (el 77 (ak TT dZ (aV F R)) (el 57 (ak TT cS (ai F)) (el 76 (ak TT eP (aQ F)) yI))))))
noncomputable def bD (F:Nat) (R:(B8×(Int)×(Int)×(Int)×Unit)→Option (((Int)×B8×B8×(Int)×(List (El .str))×(List (El .str))×Unit)×(B8×(Int)×(Int)×(Int)×Unit))) (v2:(Unit ×
       Unit ×
        Unit ×
         (B8×Int×Int×Int×Unit) ×
          (Int×B8×B8×Int×List B8×List B8×Unit) ×
           (Int×B8×B8×Int×List B8×List B8×Unit)×Unit)):Option ((Unit ×
       Unit ×
        Unit ×
         (B8×Int×Int×Int×Unit) ×
          (Int×B8×B8×Int×List B8×List B8×Unit) ×
           (Int×B8×B8×Int×List B8×List B8×Unit)×Unit) ⊕ (Unit ×
       Unit ×
        Unit ×
         (B8×Int×Int×Int×Unit) ×
          (Int×B8×B8×Int×List B8×List B8×Unit) ×
           (Int×B8×B8×Int×List B8×List B8×Unit)×Unit)) :=
 if decide (v2.2.2.2.1.2.2.2.1=0)=true then
        (aV F R ((v2.2.2.2.1.1,v2.2.2.2.1.2.1,v2.2.2.2.1.2.2.1,v2.2.2.2.1.2.2.2.1,()),v2.2.2.2.2.2.1)).bind
         fun (v3:(Int×B8×B8×Int×List B8×List B8×Unit)×B8×Int×Int×Int×Unit) =>
         (ax F ((v3.2.1,v3.2.2.1,v3.2.2.2.1,v3.2.2.2.2.1,()),125)).bind
          fun (v4:Bool×B8×Int×Int×Int×Unit) =>
          if (!v4.1)=true then some (Sum.inr ((),(),(),(v4.2.1,v4.2.2.1,v4.2.2.2.1,v4.2.2.2.2.1,()),v2.2.2.2.2.1,v3.1,()))
          else some (Sum.inl ((),(),(),(v4.2.1,v4.2.2.1,v4.2.2.2.1,v4.2.2.2.2.1,()),v2.2.2.2.2.1,v3.1,()))
       else some (Sum.inr ((),v2.2))
noncomputable def ck (F:Nat) (R:(B8×(Int)×(Int)×(Int)×Unit)→Option (((Int)×B8×B8×(Int)×(List (El .str))×(List (El .str))×Unit)×(B8×(Int)×(Int)×(Int)×Unit))) (v6:(Unit ×
        Unit ×
         Unit ×
          Int ×
           (B8×Int×Int×Int×Unit) ×
            (Int×B8×B8×Int×List B8×List B8×Unit) ×
             (Int×B8×B8×Int×List B8×List B8×Unit)×Unit)):Option ((Unit ×
        Unit ×
         Unit ×
          Int ×
           (B8×Int×Int×Int×Unit) ×
            (Int×B8×B8×Int×List B8×List B8×Unit) ×
             (Int×B8×B8×Int×List B8×List B8×Unit)×Unit) ⊕ (Unit ×
        Unit ×
         Unit ×
          (B8×Int×Int×Int×Unit) ×
           (Int×B8×B8×Int×List B8×List B8×Unit) ×
            (Int×B8×B8×Int×List B8×List B8×Unit)×Unit)) :=
 if decide (v6.2.2.2.1<(↑v6.2.2.2.2.2.2.1.2.2.2.2.1.length:Int))=true then
         (if decide (0<v6.2.2.2.1)=true then
            if decide (v6.2.2.2.2.2.2.1.2.1.length + [44].length≤9223372036854775807)=true then
             some
              ((),(),(),v6.2.2.2.1,(v6.2.2.2.2.1.1,v6.2.2.2.2.1.2.1,v6.2.2.2.2.1.2.2.1,v6.2.2.2.2.1.2.2.2.1,()),v6.2.2.2.2.2.1,
                (v6.2.2.2.2.2.2.1.1,v6.2.2.2.2.2.2.1.2.1 ++ [44],v6.2.2.2.2.2.2.1.2.2.1,v6.2.2.2.2.2.2.1.2.2.2.1,v6.2.2.2.2.2.2.1.2.2.2.2.1,
                  v6.2.2.2.2.2.2.1.2.2.2.2.2.1,()),
                ())
            else none
           else some ((),(),v6.2.2)).bind
          fun
           (v7 :
            Unit ×
             Unit ×
              Unit ×
               Int ×
                (B8×Int×Int×Int×Unit) ×
                 (Int×B8×B8×Int×List B8×List B8×Unit) ×
                  (Int×B8×B8×Int×List B8×List B8×Unit)×Unit) =>
          (idx v7.2.2.2.2.2.2.1.2.2.2.2.1 v7.2.2.2.1).bind fun (v8:B8) =>
           (aC F v8).bind fun (v9:B8) =>
            if decide (v7.2.2.2.2.2.2.1.2.1.length+v9.length≤9223372036854775807)=true then
             if decide ((v7.2.2.2.2.2.2.1.2.1 ++ v9).length + [58].length≤9223372036854775807)=true then
              (idx v7.2.2.2.2.2.2.1.2.2.2.2.2.1 v7.2.2.2.1).bind fun (v10:B8) =>
               if decide ((v7.2.2.2.2.2.2.1.2.1 ++ v9 ++ [58]).length+v10.length≤9223372036854775807)=true then
                some
                 (Sum.inl
                  ((),(),(),IntKind.i64.wrap (v7.2.2.2.1+1),
                    (v7.2.2.2.2.1.1,v7.2.2.2.2.1.2.1,v7.2.2.2.2.1.2.2.1,v7.2.2.2.2.1.2.2.2.1,()),v7.2.2.2.2.2.1,
                    (v7.2.2.2.2.2.2.1.1,v7.2.2.2.2.2.2.1.2.1 ++ v9 ++ [58] ++ v10,v7.2.2.2.2.2.2.1.2.2.1,v7.2.2.2.2.2.2.1.2.2.2.1,
                      v7.2.2.2.2.2.2.1.2.2.2.2.1,v7.2.2.2.2.2.2.1.2.2.2.2.2.1,()),
                    ()))
               else none
             else none
            else none
        else
         some
          (Sum.inr
           ((),(),(),(v6.2.2.2.2.1.1,v6.2.2.2.2.1.2.1,v6.2.2.2.2.1.2.2.1,v6.2.2.2.2.1.2.2.2.1,()),v6.2.2.2.2.2.1,v6.2.2.2.2.2.2.1,()))
noncomputable def aK (F:Nat) (R:(B8×(Int)×(Int)×(Int)×Unit)→Option (((Int)×B8×B8×(Int)×(List (El .str))×(List (El .str))×Unit)×(B8×(Int)×(Int)×(Int)×Unit))) (x:(B8×(Int)×(Int)×(Int)×Unit)):Option (((Int)×B8×B8×(Int)×(List (El .str))×(List (El .str))×Unit)×(B8×(Int)×(Int)×(Int)×Unit)):=(aQ F (x.1,x.2.1,x.2.2.1,x.2.2.2.1,())).bind fun (v0:Unit×B8×Int×Int×Int×Unit)=>(ai F ((v0.2.1,v0.2.2.1,v0.2.2.2.1,v0.2.2.2.2.1,()),125)).bind fun (v1:Bool×B8×Int×Int×Int×Unit)=>if v1.1=true then some ((6,[123,125],[],0,[],[],()),v1.2.1,IntKind.i64.wrap (v1.2.2.1+1),IntKind.i64.wrap (v1.2.2.2.1 - 1),v1.2.2.2.2.1,()) else (bS (bD F R) F ((),(),(),(v1.2.1,v1.2.2.1,v1.2.2.2.1,v1.2.2.2.2.1,()),(0,[],[],0,[],[],()),(6,[],[],0,[],[],()),())).bind fun (v5:Unit×Unit×Unit×(B8×Int×Int×Int×Unit)×(Int×B8×B8×Int×List B8×List B8×Unit)×(Int×B8×B8×Int×List B8×List B8×Unit)×Unit)=>(bS (ck F R) F ((),(),(),0,(v5.2.2.2.1.1,v5.2.2.2.1.2.1,v5.2.2.2.1.2.2.1,v5.2.2.2.1.2.2.2.1,()),v5.2.2.2.2.1,v5.2.2.2.2.2.1,())).bind fun (v11:Unit×Unit×Unit×(B8×Int×Int×Int×Unit)×(Int×B8×B8×Int×List B8×List B8×Unit)×(Int×B8×B8×Int×List B8×List B8×Unit)×Unit)=>if decide ([123].length+v11.2.2.2.2.2.1.2.1.length≤9223372036854775807)=true then if decide (([123] ++ v11.2.2.2.2.2.1.2.1).length + [125].length≤9223372036854775807)=true then some ((v11.2.2.2.2.2.1.1,[123] ++ v11.2.2.2.2.2.1.2.1 ++ [125],v11.2.2.2.2.2.1.2.2.1,v11.2.2.2.2.2.1.2.2.2.1,v11.2.2.2.2.2.1.2.2.2.2.1,v11.2.2.2.2.2.1.2.2.2.2.2.1,()),v11.2.2.2.1.1,v11.2.2.2.1.2.1,v11.2.2.2.1.2.2.1,v11.2.2.2.1.2.2.2.1,()) else none else none
theorem ko (x:(B8×(Int)×(Int)×(Int)×Unit)) (F:Nat) (R:(B8×(Int)×(Int)×(Int)×Unit)→Option (((Int)×B8×B8×(Int)×(List (El .str))×(List (El .str))×Unit)×(B8×(Int)×(Int)×(Int)×Unit))):o6 TT Tryz.prog (kc F R) ed (aw 58) F x=aK F R x:=by kernel_rfl
theorem j8 (F:Nat) (R:(B8×(Int)×(Int)×(Int)×Unit)→Option (((Int)×B8×B8×(Int)×(List (El .str))×(List (El .str))×Unit)×(B8×(Int)×(Int)×(Int)×Unit))) (hR:Ctr TT Tryz.prog 44 (ak TT ao R)):Ctr TT Tryz.prog 58 (ak TT ed (aK F R)) :=
 nh (code:=aw 58) Tryz.func58 (by kernel_rfl) (by kernel_rfl) (by kernel_rfl) (by kernel_rfl) (ag (ag (ag (ag (ag (ag aq (gG F)) (bY F)) (j5 F R hR)) (gH F)) (eG F)) hR) hm (by kernel_rfl) (fun x r h=>⟨F,(ko x F R).trans h⟩)
noncomputable def kF (F:Nat) (R:tyS El ao.params→Option (ao.R El)):Env El:=(el 44 (ak TT ao R) (el 62 (ak TT fP (bc F)) (el 61 (ak TT gK (ar F)) (el 32 (ak TT fL (aC F)) (el 60 (ak TT eO (aI F)) (el 59 (ak TT eI (aR F R)) (el 58 (ak TT ed (aK F R)) (el 57 (ak TT cS (ai F)) (el 45 (ak TT eh (au F)) yI)))))))))
noncomputable def bU (F:Nat) (R:(B8×(Int)×(Int)×(Int)×Unit)→Option (((Int)×B8×B8×(Int)×(List (El .str))×(List (El .str))×Unit)×(B8×(Int)×(Int)×(Int)×Unit))) (x:(B8×(Int)×(Int)×(Int)×Unit)):Option (((Int)×B8×B8×(Int)×(List (El .str))×(List (El .str))×Unit)×(B8×(Int)×(Int)×(Int)×Unit)):=(au F (x.1,x.2.1,x.2.2.1,x.2.2.2.1,())).bind fun (v0:Unit×B8×Int×Int×Int×Unit)=>if (!decide (v0.2.2.2.2.1=0))=true then some ((0,[],[],0,[],[],()),v0.2.1,v0.2.2.1,v0.2.2.2.1,v0.2.2.2.2.1,()) else (ai F ((v0.2.1,v0.2.2.1,v0.2.2.2.1,v0.2.2.2.2.1,()),123)).bind fun (v1:Bool×B8×Int×Int×Int×Unit)=>if v1.1=true then (aK F R (v1.2.1,v1.2.2.1,v1.2.2.2.1,v1.2.2.2.2.1,())).bind fun (v2:(Int×B8×B8×Int×List B8×List B8×Unit)×B8×Int×Int×Int×Unit)=>some v2 else (ai F ((v1.2.1,v1.2.2.1,v1.2.2.2.1,v1.2.2.2.2.1,()),91)).bind fun (v3:Bool×B8×Int×Int×Int×Unit)=>if v3.1=true then (aR F R (v3.2.1,v3.2.2.1,v3.2.2.2.1,v3.2.2.2.2.1,())).bind fun (v4:(Int×B8×B8×Int×List B8×List B8×Unit)×B8×Int×Int×Int×Unit)=>some v4 else (ai F ((v3.2.1,v3.2.2.1,v3.2.2.2.1,v3.2.2.2.2.1,()),34)).bind fun (v5:Bool×B8×Int×Int×Int×Unit)=>if v5.1=true then (aI F (v5.2.1,v5.2.2.1,v5.2.2.2.1,v5.2.2.2.2.1,())).bind fun (v6:B8×B8×Int×Int×Int×Unit)=>(aC F v6.1).bind fun (v7:B8)=>some ((4,v7,v6.1,0,[],[],()),v6.2.1,v6.2.2.1,v6.2.2.2.1,v6.2.2.2.2.1,()) else (ar F ((v5.2.1,v5.2.2.1,v5.2.2.2.1,v5.2.2.2.2.1,()),[110,117,108,108])).bind fun (v8:Bool×B8×Int×Int×Int×Unit)=>if v8.1=true then some ((1,[110,117,108,108],[],0,[],[],()),v8.2.1,v8.2.2.1,v8.2.2.2.1,v8.2.2.2.2.1,()) else (ar F ((v8.2.1,v8.2.2.1,v8.2.2.2.1,v8.2.2.2.2.1,()),[116,114,117,101])).bind fun (v9:Bool×B8×Int×Int×Int×Unit)=>if v9.1=true then some ((2,[116,114,117,101],[],0,[],[],()),v9.2.1,v9.2.2.1,v9.2.2.2.1,v9.2.2.2.2.1,()) else (ar F ((v9.2.1,v9.2.2.1,v9.2.2.2.1,v9.2.2.2.2.1,()),[102,97,108,115,101])).bind fun (v10:Bool×B8×Int×Int×Int×Unit)=>if v10.1=true then some ((2,[102,97,108,115,101],[],0,[],[],()),v10.2.1,v10.2.2.1,v10.2.2.2.1,v10.2.2.2.2.1,()) else (bc F (v10.2.1,v10.2.2.1,v10.2.2.2.1,v10.2.2.2.2.1,())).bind fun (v11:(Int×B8×B8×Int×List B8×List B8×Unit)×B8×Int×Int×Int×Unit)=>some v11
noncomputable def az (F:Nat):Nat→((B8×(Int)×(Int)×(Int)×Unit))→Option (((Int)×B8×B8×(Int)×(List (El .str))×(List (El .str))×Unit)×(B8×(Int)×(Int)×(Int)×Unit))
 | 0,_=>none
 | d+1,x=>bU F (az F d) x
noncomputable def eF (F:Nat) (x:(B8×(Int)×(Int)×(Int)×Unit)):Option (((Int)×B8×B8×(Int)×(List (El .str))×(List (El .str))×Unit)×(B8×(Int)×(Int)×(Int)×Unit)):=az F F x
theorem kD (x:(B8×(Int)×(Int)×(Int)×Unit)) (F:Nat) (R:(B8×(Int)×(Int)×(Int)×Unit)→Option (((Int)×B8×B8×(Int)×(List (El .str))×(List (El .str))×Unit)×(B8×(Int)×(Int)×(Int)×Unit))):o6 TT Tryz.prog (kF F R) ao (aw 44) F x=bU F R x:=by kernel_rfl
theorem cY (F:Nat) : ∀ d,Ctr TT Tryz.prog 44 (ak TT ao (az F d))
 | 0=>uc _ _ _ _ (fun _=>rfl)
 | d+1=>nh (code:=aw 44) Tryz.func44 (by kernel_rfl) (by kernel_rfl) (by kernel_rfl) (by kernel_rfl) (ag (ag (ag (ag (ag (ag (ag (ag (ag aq (bW F)) (bY F)) (j8 F (az F d) (cY F d))) (lz F (az F d) (cY F d))) (gA F)) (eG F)) (lh F)) (j9 F)) (cY F d)) hm (by kernel_rfl) (fun x r h=>⟨F,(kD x F (az F d)).trans h⟩)
theorem kQ (F:Nat):Ctr TT Tryz.prog 44 (ak TT ao (eF F)):=cY F F
noncomputable def pJ:Spec Kd:={ params := [(.a .str)],ret:=(.tup [(.agg [(.int .i64), .str, .str,(.int .i64),(.slc .str),(.slc .str)]),(.a (.int .i64))]),pins := [],pl:={ nt:=37,joins := [(800023,(.norm,⟨[.tmp 2 (.a (.ptr 128 0)), .tmp 4 (.a (.ptr 768 0)), .tmp 5 (.a (.ptr 320 0)), .box 128 (.cells 70 [(.int .i64), .str, .str,(.int .i64),(.slc .str),(.slc .str)]), .box 768 (.cells 89 [.str,(.int .i64),(.int .i64),(.int .i64)]), .box 320 (.cells 70 [(.int .i64), .str, .str,(.int .i64),(.slc .str),(.slc .str)])],[],[.cellSlc 128 4 .str, .cellSlc 128 5 .str, .cellSlc 320 4 .str, .cellSlc 320 5 .str]⟩),[])],frz := [(9,[768])] },rfrz := [],ts := [37,38],rc := [(2,some 70),(3,none)],rco := [.cellSlc 128 4 .str, .cellSlc 128 5 .str] }
noncomputable def fD (F:Nat) (x:B8):Option (((Int)×B8×B8×(Int)×(List (El .str))×(List (El .str))×Unit)×(Int)):=if decide (400<(↑x.length:Int))=true then some ((0,[],[],0,[],[],()),5) else (eF F (x,0,0,0,())).bind fun (v0:(Int×B8×B8×Int×List B8×List B8×Unit)×B8×Int×Int×Int×Unit)=>(au F (v0.2.1,v0.2.2.1,v0.2.2.2.1,v0.2.2.2.2.1,())).bind fun (v1:Unit×B8×Int×Int×Int×Unit)=>(if decide (v1.2.2.1<(↑x.length:Int))=true then (aj F ((v1.2.1,v1.2.2.1,v1.2.2.2.1,v1.2.2.2.2.1,()),3)).bind fun (v2:Unit×B8×Int×Int×Int×Unit)=>some ((),(),(),(0,[],[],0,[],[],()),(v2.2.1,v2.2.2.1,v2.2.2.2.1,v2.2.2.2.2.1,()),v0.1,()) else some ((),(),(),(0,[],[],0,[],[],()),(v1.2.1,v1.2.2.1,v1.2.2.2.1,v1.2.2.2.2.1,()),v0.1,())).bind fun (v3:Unit×Unit×Unit×(Int×B8×B8×Int×List B8×List B8×Unit)×(B8×Int×Int×Int×Unit)×(Int×B8×B8×Int×List B8×List B8×Unit)×Unit)=>if (!decide (v3.2.2.2.2.1.2.2.2.1=0))=true then some ((0,[],[],0,[],[],()),v3.2.2.2.2.1.2.2.2.1) else some (v3.2.2.2.2.2.1,0)
theorem pU (F:Nat):Ctr TT Tryz.prog 34 (ak TT pJ (fD F)) :=
 aW F (code:=aw 34) Tryz.func34 (ag (ag (ag aq (kQ F)) (bW F)) (bq F)) fun x=>by kernel_rfl
end Go.Vm
