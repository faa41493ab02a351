/- Models of functions of the program, and that each keeps its contract: for all arguments of its shape. No condition. -/
import Derived.Test.YtihpjgcbmipdbaaGreatDoorKt
import Derived.Test.YtihpjgcbmipdbaaGreatDoorFref14
namespace Go.Vm
open Go.Proofs
set_option linter.unusedVariables false
noncomputable def mG:Spec Kd:={ params := [(.a (.int .i64)),(.a .str),(.a (.int .i64)),(.a .str)],ret:=(.one (.a .bool)),pins := [],pl:={ nt:=22,cuts := [(1,[(13,⟨[.tmp 21 (.a .bool)],[],[]⟩)])] },rfrz := [],ts := [8] }
noncomputable def dJ (F:Nat) (x:(Int)×B8×(Int)×B8):Option (Bool):=(if decide (x.1<x.2.2.1)=false then if decide (x.1=x.2.2.1)=true then some (Op.bytesLess x.2.1 x.2.2.2,()) else some (false,()) else some (true,())).bind fun (v0:Bool×Unit)=>some v0.1
theorem nh (F:Nat):Ctr TT Tryz.prog 210 (aj TT mG (dJ F)) :=
 al F (code:=ak 210) Tryz.func210 ah fun x=>by kernel_rfl
noncomputable def mo:Spec Kd:={ params := [(.a (.slc .en)),(.a (.int .i64)),(.a .str)],ret:=(.tup [(.a (.int .i64)),(.a .bool)]),pins := [],pl:={ nt:=48,loops := [(0,⟨[.tmp 0 (.a (.slc .en)), .tmp 1 (.a (.int .i64)), .tmp 2 (.a .str), .tmp 8 (.a (.int .i64))],[],[]⟩,(.exit 0,⟨[.tmp 0 (.a (.slc .en))],[],[]⟩),[(.ret,⟨[.tmp 6 (.a (.int .i64)), .tmp 7 (.a .bool)],[],[]⟩)])],ends := [(5,⟨[.tmp 6 (.a (.int .i64)), .tmp 7 (.a .bool)],[],[]⟩),(4,⟨[.tmp 0 (.a (.slc .en)), .tmp 1 (.a (.int .i64)), .tmp 2 (.a .str), .tmp 8 (.a (.int .i64)), .tmp 28 (.a .bool)],[],[]⟩)] },rfrz := [],ts := [6,7] }
noncomputable def dW (F:Nat) (v0:(List (Int×B8×Int×Int×Int×Int×B8×Int×Int×Int×B8×B8×B8×B8×Unit) ×
    Int×B8×Int×Unit)):Option ((List (Int×B8×Int×Int×Int×Int×B8×Int×Int×Int×B8×B8×B8×B8×Unit) ×
    Int×B8×Int×Unit) ⊕ (List (Int×B8×Int×Int×Int×Int×B8×Int×Int×Int×B8×B8×B8×B8×Unit)×Unit ⊕
    Int×Bool×Unit)) :=
 if decide (v0.2.2.2.1<(↑v0.1.length:Int))=true then
     ((idx v0.1 v0.2.2.2.1).bind
        fun
         (v1:Int×B8×Int×Int×Int×Int×B8×Int×Int×Int×B8×B8×B8×B8×Unit) =>
        (idx v0.1 v0.2.2.2.1).bind
         fun
          (v2 :
           Int×B8×Int×Int×Int×Int×B8×Int×Int×Int×B8×B8×B8×B8×Unit) =>
         (dJ F (v1.1,v2.2.1,v0.2.1,v0.2.2.1)).bind fun (v3:Bool)=>some (v0.1,v0.2.1,v0.2.2.1,v0.2.2.2.1, !v3,())).bind
      fun
       (v4 :
        List (Int×B8×Int×Int×Int×Int×B8×Int×Int×Int×B8×B8×B8×B8×Unit) ×
         Int×B8×Int×Bool×Unit) =>
      if v4.2.2.2.2.1=true then
       ((idx v4.1 v4.2.2.2.1).bind
          fun
           (v5 :
            Int×B8×Int×Int×Int×Int×B8×Int×Int×Int×B8×B8×B8×B8×Unit) =>
          if decide (v5.1=v4.2.1)=true then
           (idx v4.1 v4.2.2.2.1).bind
            fun
             (v6 :
              Int ×
               B8×Int×Int×Int×Int×B8×Int×Int×Int×B8×B8×B8×B8×Unit) =>
            some (v4.2.2.2.1,decide (v6.2.1=v4.2.2.1),())
          else some (v4.2.2.2.1,false,())).bind
        fun (v7:Int×Bool×Unit)=>some (Sum.inr (Sum.inr (v7.1,v7.2.1,())))
      else some (Sum.inl (v4.1,v4.2.1,v4.2.2.1,IntKind.i64.wrap (v4.2.2.2.1+1),()))
    else some (Sum.inr (Sum.inl (v0.1,())))
noncomputable def dK (F:Nat) (x:(List (El .en))×(Int)×B8):Option ((Int)×(Bool)):=(bq (dW F) F (x.1,x.2.1,x.2.2,0,())).bind fun (v8:List (Int×B8×Int×Int×Int×Int×B8×Int×Int×Int×B8×B8×B8×B8×Unit)×Unit ⊕ Int×Bool×Unit)=>dh v8 (fun (v9:List (Int×B8×Int×Int×Int×Int×B8×Int×Int×Int×B8×B8×B8×B8×Unit)×Unit)=>some ((↑v9.1.length:Int),false)) fun (v10:Int×Bool×Unit)=>some (v10.1,v10.2.1)
theorem mr (F:Nat):Ctr TT Tryz.prog 154 (aj TT mo (dK F)) :=
 al F (code:=ak 154) Tryz.func154 (af ah (nh F)) fun x=>by kernel_rfl
noncomputable def oC:Spec Kd:={ params := [(.a (.slc .en)),(.a (.int .i64)),(.a .str)],ret:=(.tup [(.agg [(.int .i64), .str,(.int .i64),(.int .i64),(.int .i64),(.int .i64), .str,(.int .i64),(.int .i64),(.int .i64), .str, .str, .str, .str]),(.a .bool)]),pins := [],pl:={ nt:=24 },rfrz := [],ts := [24,25],rc := [(6,some 35),(7,none)] }
noncomputable def ed (F:Nat) (x:(List (El .en))×(Int)×B8):Option (((Int)×B8×(Int)×(Int)×(Int)×(Int)×B8×(Int)×(Int)×(Int)×B8×B8×B8×B8×Unit)×(Bool)):=(dK F x).bind fun (v0:Int×Bool)=>if (!v0.2)=true then some ((0,[],0,0,0,0,[],0,0,0,[],[],[],[],()),false) else (idx x.1 v0.1).bind fun (v1:Int×B8×Int×Int×Int×Int×B8×Int×Int×Int×B8×B8×B8×B8×Unit)=>some (v1,true)
theorem nR (F:Nat):Ctr TT Tryz.prog 96 (aj TT oC (ed F)) :=
 al F (code:=ak 96) Tryz.func96 (af ah (mr F)) fun x=>by kernel_rfl
noncomputable def o6:Spec Kd:={ params := [(.a (.slc .en)),(.a (.int .i64))],ret:=(.one (.a (.row 35 .en))),pins := [],pl:={ nt:=28,orc:={ rv := [4,5,20,26,27],gv := [] },bjoins := [(1,(.norm,⟨[.tmp 0 (.a (.slc .en)), .tmp 1 (.a (.int .i64)), .tmp 5 (.a (.rowp 320)), .tmp 6 (.a (.int .i64)), .box 320 (.row 35 .en)],[],[.tmpRow 5 320 35 .en]⟩),[])],loops := [(0,⟨[.tmp 0 (.a (.slc .en)), .tmp 1 (.a (.int .i64)), .tmp 5 (.a (.rowp 320)), .tmp 6 (.a (.int .i64)), .box 320 (.row 35 .en)],[],[.tmpRow 5 320 35 .en]⟩,(.exit 0,⟨[.tmp 5 (.a (.rowp 320)), .box 320 (.row 35 .en)],[],[.tmpRow 5 320 35 .en]⟩),[])] },rfrz := [],ts := [4] }
noncomputable def mc (F:Nat) (v0:(List (Int×B8×Int×Int×Int×Int×B8×Int×Int×Int×B8×B8×B8×B8×Unit) ×
    Int ×
     Unit ×
      Int ×
       List (Int×B8×Int×Int×Int×Int×B8×Int×Int×Int×B8×B8×B8×B8×Unit) ×
        Unit)):Option ((List (Int×B8×Int×Int×Int×Int×B8×Int×Int×Int×B8×B8×B8×B8×Unit) ×
    Int ×
     Unit ×
      Int ×
       List (Int×B8×Int×Int×Int×Int×B8×Int×Int×Int×B8×B8×B8×B8×Unit) ×
        Unit) ⊕ (Unit ×
    List (Int×B8×Int×Int×Int×Int×B8×Int×Int×Int×B8×B8×B8×B8×Unit)×Unit)) :=
 if decide (v0.2.2.2.1<(↑v0.1.length:Int))=true then
     ((idx v0.1 v0.2.2.2.1).bind
        fun
         (v1:Int×B8×Int×Int×Int×Int×B8×Int×Int×Int×B8×B8×B8×B8×Unit) =>
        if decide (v1.1=v0.2.1)=true then
         (idx v0.1 v0.2.2.2.1).bind
          fun
           (v2 :
            Int×B8×Int×Int×Int×Int×B8×Int×Int×Int×B8×B8×B8×B8×Unit) =>
          if decide ((v0.2.2.2.2.1.length + [v2].length) * 160≤140737488355328)=true then
           some (v0.1,v0.2.1,(),v0.2.2.2.1,v0.2.2.2.2.1 ++ [v2],())
          else none
        else some v0).bind
      fun
       (v3 :
        List (Int×B8×Int×Int×Int×Int×B8×Int×Int×Int×B8×B8×B8×B8×Unit) ×
         Int ×
          Unit ×
           Int ×
            List
              (Int ×
               B8×Int×Int×Int×Int×B8×Int×Int×Int×B8×B8×B8×B8×Unit) ×
             Unit) =>
      some (Sum.inl (v3.1,v3.2.1,(),IntKind.i64.wrap (v3.2.2.2.1+1),v3.2.2.2.2.1,()))
    else some (Sum.inr ((),v0.2.2.2.2.1,()))
noncomputable def jN (F:Nat) (x:(List (El .en))×(Int)):Option (List (El .en)):=(bq (mc F) F (x.1,x.2,(),0,[],())).bind fun (v4:Unit×List (Int×B8×Int×Int×Int×Int×B8×Int×Int×Int×B8×B8×B8×B8×Unit)×Unit)=>some v4.2.1
theorem o7 (F:Nat):Ctr TT Tryz.prog 155 (aj TT o6 (jN F)) :=
 al F (code:=ak 155) Tryz.func155 ah fun x=>by kernel_rfl
noncomputable def nw:Spec Kd:={ params := [(.a (.int .i64))],ret:=(.one (.a (.int .i64))),pins := [],pl:={ nt:=8 },rfrz := [],ts := [2] }
noncomputable def nB (F:Nat) (x:(Int)):Option (Int):=if decide (x<0)=true then some 0 else if decide (200<x)=true then some 200 else some x
theorem nr (F:Nat):Ctr TT Tryz.prog 98 (aj TT nw (nB F)) :=
 al F (code:=ak 98) Tryz.func98 ah fun x=>by kernel_rfl
noncomputable def j5:Spec Kd:={ params := [(.pin 91 [(.int .i64),(.slc .en),(.int .i64)]),(.a (.int .i64))],ret:=(.one (.a (.int .i64))),pins := [[(.int .i64),(.slc .en),(.int .i64)]],pl:={ nt:=12 },rfrz := [],ts := [4] }
noncomputable def fv (F:Nat) (x:((Int)×(List (El .en))×(Int)×Unit)×(Int)):Option ((Int)×((Int)×(List (El .en))×(Int)×Unit)):=(jN F (x.1.2.1,x.2)).bind fun (v0:List (Int×B8×Int×Int×Int×Int×B8×Int×Int×Int×B8×B8×B8×B8×Unit))=>some ((↑v0.length:Int),x.1.1,x.1.2.1,x.1.2.2.1,())
theorem jY (F:Nat):Ctr TT Tryz.prog 97 (aj TT j5 (fv F)) :=
 al F (code:=ak 97) Tryz.func97 (af ah (o7 F)) fun x=>by kernel_rfl
noncomputable def jJ:Spec Kd:={ params := [(.pin 91 [(.int .i64),(.slc .en),(.int .i64)]),(.agg [(.int .i64),(.int .i64), .str,(.int .i64),(.int .i64),(.int .i64),(.int .i64), .str,(.int .i64),(.int .i64),(.int .i64), .str, .str, .str, .str])],ret:=(.one (.a (.int .i64))),pins := [[(.int .i64),(.slc .en),(.int .i64)]],pl:={ nt:=83,orc:={ pr := [22] },cuts := [(10,[(10,⟨[.tmp 0 (.a (.ptr 1 0)), .tmp 5 (.a (.ptr 320 0)), .tmp 6 (.a (.ptr 384 0)), .tmp 46 (.a .bool), .box 1 (.cells 91 [(.int .i64),(.slc .en),(.int .i64)]), .box 320 (.cells 35 [(.int .i64), .str,(.int .i64),(.int .i64),(.int .i64),(.int .i64), .str,(.int .i64),(.int .i64),(.int .i64), .str, .str, .str, .str]), .box 384 (.cells 35 [(.int .i64), .str,(.int .i64),(.int .i64),(.int .i64),(.int .i64), .str,(.int .i64),(.int .i64),(.int .i64), .str, .str, .str, .str])],[],[.cellSlc 1 1 .en]⟩),(7,⟨[.tmp 0 (.a (.ptr 1 0)), .tmp 53 (.a .bool), .box 1 (.cells 91 [(.int .i64),(.slc .en),(.int .i64)])],[],[.cellSlc 1 1 .en]⟩)]),(9,[(8,⟨[.tmp 0 (.a (.ptr 1 0)), .tmp 5 (.a (.ptr 320 0)), .tmp 6 (.a (.ptr 384 0)), .tmp 7 (.a .bool), .tmp 36 (.a .bool), .box 1 (.cells 91 [(.int .i64),(.slc .en),(.int .i64)]), .box 320 (.cells 35 [(.int .i64), .str,(.int .i64),(.int .i64),(.int .i64),(.int .i64), .str,(.int .i64),(.int .i64),(.int .i64), .str, .str, .str, .str]), .box 384 (.cells 35 [(.int .i64), .str,(.int .i64),(.int .i64),(.int .i64),(.int .i64), .str,(.int .i64),(.int .i64),(.int .i64), .str, .str, .str, .str])],[],[.cellSlc 1 1 .en]⟩)])],ends := [(15,⟨[.tmp 0 (.a (.ptr 1 0)), .tmp 82 (.a .bool), .box 1 (.cells 91 [(.int .i64),(.slc .en),(.int .i64)])],[],[.cellSlc 1 1 .en]⟩),(4,⟨[.tmp 0 (.a (.ptr 1 0)), .tmp 3 (.a (.ptr 192 0)), .tmp 5 (.a (.ptr 320 0)), .tmp 6 (.a (.ptr 384 0)), .tmp 7 (.a .bool), .box 1 (.cells 91 [(.int .i64),(.slc .en),(.int .i64)]), .box 192 (.cells 39 [(.int .i64),(.int .i64), .str,(.int .i64),(.int .i64),(.int .i64),(.int .i64), .str,(.int .i64),(.int .i64),(.int .i64), .str, .str, .str, .str]), .box 320 (.cells 35 [(.int .i64), .str,(.int .i64),(.int .i64),(.int .i64),(.int .i64), .str,(.int .i64),(.int .i64),(.int .i64), .str, .str, .str, .str]), .box 384 (.cells 35 [(.int .i64), .str,(.int .i64),(.int .i64),(.int .i64),(.int .i64), .str,(.int .i64),(.int .i64),(.int .i64), .str, .str, .str, .str])],[],[.cellSlc 1 1 .en]⟩)] },rfrz := [],ts := [4] }
noncomputable def cf (F:Nat) (x:((Int)×(List (El .en))×(Int)×Unit)×((Int)×(Int)×B8×(Int)×(Int)×(Int)×(Int)×B8×(Int)×(Int)×(Int)×B8×B8×B8×B8×Unit)):Option ((Int)×((Int)×(List (El .en))×(Int)×Unit)):=(cF F x.2).bind fun (v0:Bool)=>if (!v0)=true then some (1,x.1.1,x.1.2.1,x.1.2.2.1,()) else ((ed F (x.1.2.1,x.2.2.1,x.2.2.2.1)).bind fun (v1:(Int×B8×Int×Int×Int×Int×B8×Int×Int×Int×B8×B8×B8×B8×Unit)×Bool)=>some ((),(),(),(),v1.2,(x.1.1,x.1.2.1,x.1.2.2.1,()),x.2,x.2.2,v1.1,())).bind fun (v2:Unit×Unit×Unit×Unit×Bool×(Int×List (Int×B8×Int×Int×Int×Int×B8×Int×Int×Int×B8×B8×B8×B8×Unit)×Int×Unit)×(Int×Int×B8×Int×Int×Int×Int×B8×Int×Int×Int×B8×B8×B8×B8×Unit)×(Int×B8×Int×Int×Int×Int×B8×Int×Int×Int×B8×B8×B8×B8×Unit)×(Int×B8×Int×Int×Int×Int×B8×Int×Int×Int×B8×B8×B8×B8×Unit)×Unit)=>if decide (v2.2.2.2.2.2.2.1.1=2)=true then if v2.2.2.2.2.1=true then some (0,v2.2.2.2.2.2.1.1,v2.2.2.2.2.2.1.2.1,v2.2.2.2.2.2.1.2.2.1,()) else some (6,v2.2.2.2.2.2.1.1,v2.2.2.2.2.2.1.2.1,v2.2.2.2.2.2.1.2.2.1,()) else (if v2.2.2.2.2.1=true then some ((),(),(),v2.2.2.2.2.1,decide (v2.2.2.2.2.2.2.2.2.1.2.2.2.1=v2.2.2.2.2.2.2.2.1.2.2.2.1),(v2.2.2.2.2.2.1.1,v2.2.2.2.2.2.1.2.1,v2.2.2.2.2.2.1.2.2.1,()),v2.2.2.2.2.2.2.2.1,v2.2.2.2.2.2.2.2.2.1,()) else some ((),(),(),v2.2.2.2.2.1,false,(v2.2.2.2.2.2.1.1,v2.2.2.2.2.2.1.2.1,v2.2.2.2.2.2.1.2.2.1,()),v2.2.2.2.2.2.2.2.1,v2.2.2.2.2.2.2.2.2.1,())).bind fun (v3:Unit×Unit×Unit×Bool×Bool×(Int×List (Int×B8×Int×Int×Int×Int×B8×Int×Int×Int×B8×B8×B8×B8×Unit)×Int×Unit)×(Int×B8×Int×Int×Int×Int×B8×Int×Int×Int×B8×B8×B8×B8×Unit)×(Int×B8×Int×Int×Int×Int×B8×Int×Int×Int×B8×B8×B8×B8×Unit)×Unit)=>if v3.2.2.2.2.1=true then (if (!decide (v3.2.2.2.2.2.2.2.1.2.2.1=1))=false then some ((),(),(),decide (v3.2.2.2.2.2.2.1.2.2.2.2.1<v3.2.2.2.2.2.2.2.1.2.2.2.2.1),(v3.2.2.2.2.2.1.1,v3.2.2.2.2.2.1.2.1,v3.2.2.2.2.2.1.2.2.1,()),v3.2.2.2.2.2.2.1,v3.2.2.2.2.2.2.2.1,()) else some ((),(),(),true,(v3.2.2.2.2.2.1.1,v3.2.2.2.2.2.1.2.1,v3.2.2.2.2.2.1.2.2.1,()),v3.2.2.2.2.2.2.1,v3.2.2.2.2.2.2.2.1,())).bind fun (v4:Unit×Unit×Unit×Bool×(Int×List (Int×B8×Int×Int×Int×Int×B8×Int×Int×Int×B8×B8×B8×B8×Unit)×Int×Unit)×(Int×B8×Int×Int×Int×Int×B8×Int×Int×Int×B8×B8×B8×B8×Unit)×(Int×B8×Int×Int×Int×Int×B8×Int×Int×Int×B8×B8×B8×B8×Unit)×Unit)=>(if v4.2.2.2.1=false then some ((),decide (v4.2.2.2.2.2.1.2.2.2.2.2.1<v4.2.2.2.2.2.2.1.2.2.2.2.2.1),(v4.2.2.2.2.1.1,v4.2.2.2.2.1.2.1,v4.2.2.2.2.1.2.2.1,()),()) else some ((),true,(v4.2.2.2.2.1.1,v4.2.2.2.2.1.2.1,v4.2.2.2.2.1.2.2.1,()),())).bind fun (v5:Unit×Bool×(Int×List (Int×B8×Int×Int×Int×Int×B8×Int×Int×Int×B8×B8×B8×B8×Unit)×Int×Unit)×Unit)=>if v5.2.1=true then some (9,v5.2.2.1.1,v5.2.2.1.2.1,v5.2.2.1.2.2.1,()) else some (0,v5.2.2.1.1,v5.2.2.1.2.1,v5.2.2.1.2.2.1,()) else if decide (v3.2.2.2.2.2.2.1.2.2.2.1≤v3.2.2.2.2.2.1.2.2.1)=true then some (9,v3.2.2.2.2.2.1.1,v3.2.2.2.2.2.1.2.1,v3.2.2.2.2.2.1.2.2.1,()) else (if (!v3.2.2.2.1)=true then if decide (200≤(↑v3.2.2.2.2.2.1.2.1.length:Int))=false then (fv F ((v3.2.2.2.2.2.1.1,v3.2.2.2.2.2.1.2.1,v3.2.2.2.2.2.1.2.2.1,()),v3.2.2.2.2.2.2.1.1)).bind fun (v6:Int×Int×List (Int×B8×Int×Int×Int×Int×B8×Int×Int×Int×B8×B8×B8×B8×Unit)×Int×Unit)=>none else some ((),true,(v3.2.2.2.2.2.1.1,v3.2.2.2.2.2.1.2.1,v3.2.2.2.2.2.1.2.2.1,()),()) else some ((),false,(v3.2.2.2.2.2.1.1,v3.2.2.2.2.2.1.2.1,v3.2.2.2.2.2.1.2.2.1,()),())).bind fun (v7:Unit×Bool×(Int×List (Int×B8×Int×Int×Int×Int×B8×Int×Int×Int×B8×B8×B8×B8×Unit)×Int×Unit)×Unit)=>if v7.2.1=true then some (2,v7.2.2.1.1,v7.2.2.1.2.1,v7.2.2.1.2.2.1,()) else some (0,v7.2.2.1.1,v7.2.2.1.2.1,v7.2.2.1.2.2.1,())
theorem jI (F:Nat):Ctr TT Tryz.prog 50 (aj TT jJ (cf F)) :=
 al F (code:=ak 50) Tryz.func50 (af (af (af (af ah (kL F)) (nR F)) (jY F)) (nr F)) fun x=>by kernel_rfl
end Go.Vm
