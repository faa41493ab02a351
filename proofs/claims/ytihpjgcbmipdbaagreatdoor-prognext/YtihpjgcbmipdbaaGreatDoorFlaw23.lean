import Derived.Test.YtihpjgcbmipdbaaGreatDoorKt
import Derived.Test.YtihpjgcbmipdbaaGreatDoorFphr
import Derived.Test.YtihpjgcbmipdbaaGreatDoorFref22
import Derived.Test.YtihpjgcbmipdbaaGreatDoorFprog2
import Derived.Test.YtihpjgcbmipdbaaGreatDoorFref23b
/- Models of functions of the program, and that each keeps its contract: for all arguments of its shape. No condition. -/
namespace Go.Vm
open Go.Proofs
set_option linter.unusedVariables false
noncomputable def mY:Spec Kd:={ params := [(.a (.slc .ph))],ret:=(.one (.a .bool)),pins := [],pl:={ nt:=25,loops := [(0,⟨[.tmp 8 (.a (.slc .ph)), .tmp 9 (.a (.int .i64)), .tmp 10 (.a (.int .i64))],[],[]⟩,(.exit 0,⟨[],[],[]⟩),[(.ret,⟨[.tmp 2 (.a .bool)],[],[]⟩)])],cuts := [(6,[(10,⟨[.tmp 8 (.a (.slc .ph)), .tmp 9 (.a (.int .i64)), .tmp 10 (.a (.int .i64)), .tmp 23 (.a .bool)],[],[]⟩)])] },rfrz := [],ts := [2] }
noncomputable def cF (F:Nat) (v0:(List (Int×B8×Int×B8×Unit)×Int×Int×Unit)):Option ((List (Int×B8×Int×B8×Unit)×Int×Int×Unit) ⊕ (Unit ⊕ Bool×Unit)):=if decide (v0.2.2.1<v0.2.1)=true then (idx v0.1 v0.2.2.1).bind fun (v1:Int×B8×Int×B8×Unit)=>(if decide (100<(↑v1.2.1.length:Int))=false then some (v0.1,v0.2.1,v0.2.2.1,decide (100<(↑v1.2.2.2.1.length:Int)),()) else some (v0.1,v0.2.1,v0.2.2.1,true,())).bind fun (v2:List (Int×B8×Int×B8×Unit)×Int×Int×Bool×Unit)=>if v2.2.2.2.1=true then some (Sum.inr (Sum.inr (false,()))) else some (Sum.inl (v2.1,v2.2.1,IntKind.i64.wrap (v2.2.2.1+1),())) else some (Sum.inr (Sum.inl ()))
noncomputable def eH (F:Nat) (x:(List (El .ph))):Option (Bool):=if decide (10<(↑x.length:Int))=true then some false else (bh (cF F) F (x,(↑x.length:Int),0,())).bind fun (v3:Unit ⊕ Bool×Unit)=>fc v3 (fun (v4:Unit)=>some true) fun (v5:Bool×Unit)=>some v5.1
theorem nL (F:Nat):Ctr TT Tryz.prog 29 (ai TT mY (eH F)) :=
 aC F (code:=aq 29) Tryz.func29 al fun x=>by kernel_rfl
end Go.Vm
/- Models of functions of the program, and that each keeps its contract: for all arguments of its shape. No condition. -/
namespace Go.Vm
open Go.Proofs
set_option linter.unusedVariables false
noncomputable def nD:Spec Kd:={ params := [(.a (.slc .rd)),(.a (.int .i64))],ret:=(.one (.a .bool)),pins := [],pl:={ nt:=55,loops := [(0,⟨[.tmp 12 (.a (.slc .rd)), .tmp 13 (.a (.int .i64)), .tmp 14 (.a (.int .i64))],[],[]⟩,(.exit 0,⟨[],[],[]⟩),[(.ret,⟨[.tmp 4 (.a .bool)],[],[]⟩)])],cuts := [(7,[(10,⟨[.tmp 7 (.a (.ptr 448 0)), .tmp 12 (.a (.slc .rd)), .tmp 13 (.a (.int .i64)), .tmp 14 (.a (.int .i64)), .tmp 29 (.a .bool), .box 448 (.cells 35 [(.int .i64), .str,(.int .i64),(.int .i64),(.int .i64),(.int .i64), .str,(.int .i64),(.int .i64),(.int .i64), .str, .str, .str, .str])],[],[]⟩),(6,⟨[.tmp 7 (.a (.ptr 448 0)), .tmp 12 (.a (.slc .rd)), .tmp 13 (.a (.int .i64)), .tmp 14 (.a (.int .i64)), .tmp 35 (.a .bool), .box 448 (.cells 35 [(.int .i64), .str,(.int .i64),(.int .i64),(.int .i64),(.int .i64), .str,(.int .i64),(.int .i64),(.int .i64), .str, .str, .str, .str])],[],[]⟩),(6,⟨[.tmp 7 (.a (.ptr 448 0)), .tmp 12 (.a (.slc .rd)), .tmp 13 (.a (.int .i64)), .tmp 14 (.a (.int .i64)), .tmp 41 (.a .bool), .box 448 (.cells 35 [(.int .i64), .str,(.int .i64),(.int .i64),(.int .i64),(.int .i64), .str,(.int .i64),(.int .i64),(.int .i64), .str, .str, .str, .str])],[],[]⟩),(6,⟨[.tmp 7 (.a (.ptr 448 0)), .tmp 12 (.a (.slc .rd)), .tmp 13 (.a (.int .i64)), .tmp 14 (.a (.int .i64)), .tmp 47 (.a .bool), .box 448 (.cells 35 [(.int .i64), .str,(.int .i64),(.int .i64),(.int .i64),(.int .i64), .str,(.int .i64),(.int .i64),(.int .i64), .str, .str, .str, .str])],[],[]⟩),(6,⟨[.tmp 12 (.a (.slc .rd)), .tmp 13 (.a (.int .i64)), .tmp 14 (.a (.int .i64)), .tmp 53 (.a .bool)],[],[]⟩)])] },rfrz := [],ts := [4] }
noncomputable def cK (F:Nat) (v0:(List (Int×Int×B8×Int×Int×Int×Int×B8×Int×Int×Int×B8×B8×B8×B8×Unit) ×
     Int×Int×Unit)):Option ((List (Int×Int×B8×Int×Int×Int×Int×B8×Int×Int×Int×B8×B8×B8×B8×Unit) ×
     Int×Int×Unit) ⊕ (Unit ⊕ Bool×Unit)) :=
 if decide (v0.2.2.1<v0.2.1)=true then
      (idx v0.1 v0.2.2.1).bind fun v1 =>
       (if decide (100<(↑v1.2.2.1.length:Int))=false then
          some ((),v0.1,v0.2.1,v0.2.2.1,decide (100<(↑v1.2.2.2.2.2.2.2.1.length:Int)),v1.2,())
         else some ((),v0.1,v0.2.1,v0.2.2.1,true,v1.2,())).bind
        fun v2 =>
        (if v2.2.2.2.2.1=false then
           some ((),v2.2.1,v2.2.2.1,v2.2.2.2.1,decide (100<(↑v2.2.2.2.2.2.1.2.2.2.2.2.2.2.2.2.2.1.length:Int)),v2.2.2.2.2.2.1,())
          else some ((),v2.2.1,v2.2.2.1,v2.2.2.2.1,true,v2.2.2.2.2.2.1,())).bind
         fun v3 =>
         (if v3.2.2.2.2.1=false then
            some ((),v3.2.1,v3.2.2.1,v3.2.2.2.1,decide (100<(↑v3.2.2.2.2.2.1.2.2.2.2.2.2.2.2.2.2.2.1.length:Int)),v3.2.2.2.2.2.1,())
           else some ((),v3.2.1,v3.2.2.1,v3.2.2.2.1,true,v3.2.2.2.2.2.1,())).bind
          fun v4 =>
          (if v4.2.2.2.2.1=false then
             some ((),v4.2.1,v4.2.2.1,v4.2.2.2.1,decide (100<(↑v4.2.2.2.2.2.1.2.2.2.2.2.2.2.2.2.2.2.2.1.length:Int)),v4.2.2.2.2.2.1,())
            else some ((),v4.2.1,v4.2.2.1,v4.2.2.2.1,true,v4.2.2.2.2.2.1,())).bind
           fun v5 =>
           (if v5.2.2.2.2.1=false then
              some (v5.2.1,v5.2.2.1,v5.2.2.2.1,decide (100<(↑v5.2.2.2.2.2.1.2.2.2.2.2.2.2.2.2.2.2.2.2.1.length:Int)),())
             else some (v5.2.1,v5.2.2.1,v5.2.2.2.1,true,())).bind
            fun v6 =>
            if v6.2.2.2.1=true then some (Sum.inr (Sum.inr (false,()))) else some (Sum.inl (v6.1,v6.2.1,IntKind.i64.wrap (v6.2.2.1+1),()))
     else some (Sum.inr (Sum.inl ()))
noncomputable def dF (F:Nat) (x:(List (El .rd))×(Int)):Option (Bool):=if decide (x.2<(↑x.1.length:Int))=true then some false else (bh (cK F) F (x.1,(↑x.1.length:Int),0,())).bind fun v7=>fc v7 (fun v8=>some true) fun v9=>some v9.1
theorem nh (F:Nat):Ctr TT Tryz.prog 21 (ai TT nD (dF F)) :=
 aC F (code:=aq 21) Tryz.func21 al fun x=>by kernel_rfl
end Go.Vm
/- Models of functions of the program, and that each keeps its contract: for all arguments of its shape. No condition. -/
namespace Go.Vm
open Go.Proofs
set_option linter.unusedVariables false
noncomputable def nT:Spec Kd:={ params := [],ret:=(.one (.a .bool)),pins := [],pl:={ nt:=37,cuts := [(3,[(6,⟨[.tmp 1 (.a (.slc .ph)), .tmp 3 (.a (.ptr 192 0)), .tmp 20 (.a .bool), .box 192 (.cells 54 [(.int .i64),(.int .i64), .str,(.int .i64), .str,(.int .i64),(.int .i64),(.int .i64), .str, .str])],[385],[]⟩),(5,⟨[.tmp 3 (.a (.ptr 192 0)), .tmp 25 (.a .bool), .box 192 (.cells 54 [(.int .i64),(.int .i64), .str,(.int .i64), .str,(.int .i64),(.int .i64),(.int .i64), .str, .str])],[385],[]⟩),(5,⟨[.tmp 3 (.a (.ptr 192 0)), .tmp 30 (.a .bool), .box 192 (.cells 54 [(.int .i64),(.int .i64), .str,(.int .i64), .str,(.int .i64),(.int .i64),(.int .i64), .str, .str])],[385],[]⟩),(6,⟨[.tmp 36 (.a .bool)],[385],[]⟩)])],frz := [(2,[385])] },rfrz := [],ts := [0] }
noncomputable def eG (F:Nat) (x:Unit):Option (Bool):=(kV F [110,101,101,100,32,115,117,109,32,49,48,48,59,32,99,97,108,108,32,100,101,98,105,116,32,37,123,115,117,109,125,59,32,101,110,100,32,50,48,49,32,112,97,105,100]).bind fun (v0:List (Int×B8×Int×B8×Unit)×Int)=>(j7 F (v0.1,0,[107],0,3,2,1,[],0,0,0,[],[],[],[123,34,115,117,109,34,58,53,125],())).bind fun (v1:(Int×Int×B8×Int×B8×Int×Int×Int×B8×B8×Unit)×Int)=>(if decide (v0.2=0)=true then some (v0.1,(),decide (v1.2=0),v1.1,()) else some (v0.1,(),false,v1.1,())).bind fun (v2:List (Int×B8×Int×B8×Unit)×Unit×Bool×(Int×Int×B8×Int×B8×Int×Int×Int×B8×B8×Unit)×Unit)=>(if v2.2.2.1=true then some ((),decide ((↑v2.1.length:Int)=3),v2.2.2.2.1,()) else some ((),false,v2.2.2.2.1,())).bind fun (v3:Unit×Bool×(Int×Int×B8×Int×B8×Int×Int×Int×B8×B8×Unit)×Unit)=>(if v3.2.1=true then some ((),decide (v3.2.2.1.1=3),v3.2.2.1,()) else some ((),false,v3.2.2.1,())).bind fun (v4:Unit×Bool×(Int×Int×B8×Int×B8×Int×Int×Int×B8×B8×Unit)×Unit)=>(if v4.2.1=true then some (decide (v4.2.2.1.2.2.2.1=0) && (decide (v4.2.2.1.2.2.2.2.1 = [107]) && (decide (v4.2.2.1.2.2.2.2.2.1=3) && (decide (v4.2.2.1.2.2.2.2.2.2.1=1) && (decide (v4.2.2.1.2.2.2.2.2.2.2.1=2) && (decide (v4.2.2.1.2.2.2.2.2.2.2.2.1 = [100,101,98,105,116]) && (decide (v4.2.2.1.2.2.2.2.2.2.2.2.2.1 = [53]) && true)))))),()) else some (false,())).bind fun (v5:Bool×Unit)=>some v5.1
theorem nM (F:Nat):Ctr TT Tryz.prog 26 (ai TT nT (eG F)) :=
 aC F (code:=aq 26) Tryz.func26 (ag (ag al (zS F)) (tF F)) fun x=>by kernel_rfl
noncomputable def l6:Spec Kd:={ params := [(.a (.slc .ph)),(.agg [(.int .i64), .str,(.int .i64),(.int .i64),(.int .i64),(.int .i64), .str,(.int .i64),(.int .i64),(.int .i64), .str, .str, .str, .str]),(.a (.int .i64))],ret:=(.one (.a .bool)),pins := [],pl:={ nt:=52,cuts := [(7,[(8,⟨[.tmp 0 (.a (.slc .ph)), .tmp 2 (.a (.int .i64)), .tmp 42 (.a .bool)],[],[]⟩),(9,⟨[.tmp 51 (.a .bool)],[],[]⟩)]),(3,[(10,⟨[.tmp 0 (.a (.slc .ph)), .tmp 2 (.a (.int .i64)), .tmp 4 (.a (.ptr 256 0)), .tmp 22 (.a .bool), .box 256 (.cells 35 [(.int .i64), .str,(.int .i64),(.int .i64),(.int .i64),(.int .i64), .str,(.int .i64),(.int .i64),(.int .i64), .str, .str, .str, .str])],[],[]⟩)])] },rfrz := [],ts := [6] }
noncomputable def dL (F:Nat) (x:(List (El .ph))×((Int)×B8×(Int)×(Int)×(Int)×(Int)×B8×(Int)×(Int)×(Int)×B8×B8×B8×B8×Unit)×(Int)):Option (Bool):=(eG F ()).bind fun (v0:Bool)=>if (!v0)=true then some false else ((eH F x.1).bind fun (v1:Bool)=>if (!v1)=false then (dF F ([(0,x.2.1)],1)).bind fun (v2:Bool)=>some (x.1,x.2.2,(), !v2,x.2.1,()) else some (x.1,x.2.2,(),true,x.2.1,())).bind fun (v3:List (Int×B8×Int×B8×Unit)×Int×Unit×Bool×(Int×B8×Int×Int×Int×Int×B8×Int×Int×Int×B8×B8×B8×B8×Unit)×Unit)=>if v3.2.2.2.1=true then some true else (j7 F (v3.1,v3.2.2.2.2.1)).bind fun (v4:(Int×Int×B8×Int×B8×Int×Int×Int×B8×B8×Unit)×Int)=>(eZ F (v3.1,v3.2.2.2.2.1)).bind fun (v5:(Int×Int×B8×Int×B8×Int×Int×Int×B8×B8×Unit)×Int)=>(if (decide (v4.1.1=v5.1.1) && (decide (v4.1.2.1=v5.1.2.1) && (decide (v4.1.2.2.1=v5.1.2.2.1) && (decide (v4.1.2.2.2.1=v5.1.2.2.2.1) && (decide (v4.1.2.2.2.2.1=v5.1.2.2.2.2.1) && (decide (v4.1.2.2.2.2.2.1=v5.1.2.2.2.2.2.1) && (decide (v4.1.2.2.2.2.2.2.1=v5.1.2.2.2.2.2.2.1) && (decide (v4.1.2.2.2.2.2.2.2.1=v5.1.2.2.2.2.2.2.2.1) && (decide (v4.1.2.2.2.2.2.2.2.2.1=v5.1.2.2.2.2.2.2.2.2.1) && (decide (v4.1.2.2.2.2.2.2.2.2.2.1=v5.1.2.2.2.2.2.2.2.2.2.1) && true)))))) && true))))=true then some (v3.1,v3.2.1,decide (v4.2=v5.2),()) else some (v3.1,v3.2.1,false,())).bind fun (v6:List (Int×B8×Int×B8×Unit)×Int×Bool×Unit)=>(if v6.2.2.1=true then (kW F (v6.1,v6.2.1)).bind fun (v7:Int)=>(eK F (v6.1,v6.2.1)).bind fun (v8:Int)=>some (decide (v7=v8),()) else some (false,())).bind fun (v9:Bool×Unit)=>some v9.1
theorem lT (F:Nat):Ctr TT Tryz.prog 7 (ai TT l6 (dL F)) :=
 aC F (code:=aq 7) Tryz.func7 (ag (ag (ag (ag (ag (ag (ag al (nM F)) (nL F)) (nh F)) (tF F)) (oB F)) (zx F)) (nf F)) fun x=>by kernel_rfl
end Go.Vm
