import Derived.Test.YtihpjgcbmipdbaaGreatDoorKt
import Derived.Test.YtihpjgcbmipdbaaGreatDoorFref14
import Derived.Test.YtihpjgcbmipdbaaGreatDoorFnums
import Derived.Test.YtihpjgcbmipdbaaGreatDoorFref4
import Derived.Test.YtihpjgcbmipdbaaGreatDoorFphr
import Derived.Test.YtihpjgcbmipdbaaGreatDoorFjob
/- Models of functions of the program, and that each keeps its contract: for all arguments of its shape. No condition. -/
namespace Go.Vm
open Go.Proofs
set_option linter.unusedVariables false
end Go.Vm
/- Models of functions of the program, and that each keeps its contract: for all arguments of its shape. No condition. -/
namespace Go.Vm
open Go.Proofs
set_option linter.unusedVariables false
end Go.Vm
/- Models of functions of the program, and that each keeps its contract: for all arguments of its shape. No condition. -/
namespace Go.Vm
open Go.Proofs
set_option linter.unusedVariables false
end Go.Vm
/- Models of functions of the program, and that each keeps its contract: for all arguments of its shape. No condition. -/
namespace Go.Vm
open Go.Proofs
set_option linter.unusedVariables false
end Go.Vm
/- Models of functions of the program, and that each keeps its contract: for all arguments of its shape. No condition. -/
namespace Go.Vm
open Go.Proofs
set_option linter.unusedVariables false
end Go.Vm
/- Models of functions of the program, and that each keeps its contract: for all arguments of its shape. No condition. -/
namespace Go.Vm
open Go.Proofs
set_option linter.unusedVariables false
end Go.Vm
/- Models of functions of the program, and that each keeps its contract: for all arguments of its shape. No condition. -/
namespace Go.Vm
open Go.Proofs
set_option linter.unusedVariables false
end Go.Vm
/- Models of functions of the program, and that each keeps its contract: for all arguments of its shape. No condition. -/
namespace Go.Vm
open Go.Proofs
set_option linter.unusedVariables false
noncomputable def mO:Spec Kd:={ params := [(.a (.slc .ph))],ret:=(.one (.a .bool)),pins := [],pl:={ nt:=25,loops := [(0,⟨[.tmp 8 (.a (.slc .ph)), .tmp 9 (.a (.int .i64)), .tmp 10 (.a (.int .i64))],[],[]⟩,(.exit 0,⟨[],[],[]⟩),[(.ret,⟨[.tmp 2 (.a .bool)],[],[]⟩)])],cuts := [(6,[(10,⟨[.tmp 8 (.a (.slc .ph)), .tmp 9 (.a (.int .i64)), .tmp 10 (.a (.int .i64)), .tmp 23 (.a .bool)],[],[]⟩)])] },rfrz := [],ts := [2] }
noncomputable def bQ (F:Nat) (v0:(List (Int×B8×Int×B8×Unit)×Int×Int×Unit)):Option ((List (Int×B8×Int×B8×Unit)×Int×Int×Unit) ⊕ (Unit ⊕ Bool×Unit)):=if decide (v0.2.2.1<v0.2.1)=true then (idx v0.1 v0.2.2.1).bind fun (v1:Int×B8×Int×B8×Unit)=>(if decide (100<(↑v1.2.1.length:Int))=false then some (v0.1,v0.2.1,v0.2.2.1,decide (100<(↑v1.2.2.2.1.length:Int)),()) else some (v0.1,v0.2.1,v0.2.2.1,true,())).bind fun (v2:List (Int×B8×Int×B8×Unit)×Int×Int×Bool×Unit)=>if v2.2.2.2.1=true then some (Sum.inr (Sum.inr (false,()))) else some (Sum.inl (v2.1,v2.2.1,IntKind.i64.wrap (v2.2.2.1+1),())) else some (Sum.inr (Sum.inl ()))
noncomputable def dG (F:Nat) (x:(List (El .ph))):Option (Bool):=if decide (10<(↑x.length:Int))=true then some false else (bq (bQ F) F (x,(↑x.length:Int),0,())).bind fun (v3:Unit ⊕ Bool×Unit)=>dh v3 (fun (v4:Unit)=>some true) fun (v5:Bool×Unit)=>some v5.1
theorem mR (F:Nat):Ctr TT Tryz.prog 29 (aj TT mO (dG F)) :=
 al F (code:=ak 29) Tryz.func29 ah fun x=>by kernel_rfl
end Go.Vm
/- Models of functions of the program, and that each keeps its contract: for all arguments of its shape. No condition. -/
namespace Go.Vm
open Go.Proofs
set_option linter.unusedVariables false
noncomputable def l6:Spec Kd:={ params := [(.a (.slc .rd)),(.a (.int .i64))],ret:=(.one (.a .bool)),pins := [],pl:={ nt:=55,loops := [(0,⟨[.tmp 12 (.a (.slc .rd)), .tmp 13 (.a (.int .i64)), .tmp 14 (.a (.int .i64))],[],[]⟩,(.exit 0,⟨[],[],[]⟩),[(.ret,⟨[.tmp 4 (.a .bool)],[],[]⟩)])],cuts := [(7,[(10,⟨[.tmp 7 (.a (.ptr 448 0)), .tmp 12 (.a (.slc .rd)), .tmp 13 (.a (.int .i64)), .tmp 14 (.a (.int .i64)), .tmp 29 (.a .bool), .box 448 (.cells 35 [(.int .i64), .str,(.int .i64),(.int .i64),(.int .i64),(.int .i64), .str,(.int .i64),(.int .i64),(.int .i64), .str, .str, .str, .str])],[],[]⟩),(6,⟨[.tmp 7 (.a (.ptr 448 0)), .tmp 12 (.a (.slc .rd)), .tmp 13 (.a (.int .i64)), .tmp 14 (.a (.int .i64)), .tmp 35 (.a .bool), .box 448 (.cells 35 [(.int .i64), .str,(.int .i64),(.int .i64),(.int .i64),(.int .i64), .str,(.int .i64),(.int .i64),(.int .i64), .str, .str, .str, .str])],[],[]⟩),(6,⟨[.tmp 7 (.a (.ptr 448 0)), .tmp 12 (.a (.slc .rd)), .tmp 13 (.a (.int .i64)), .tmp 14 (.a (.int .i64)), .tmp 41 (.a .bool), .box 448 (.cells 35 [(.int .i64), .str,(.int .i64),(.int .i64),(.int .i64),(.int .i64), .str,(.int .i64),(.int .i64),(.int .i64), .str, .str, .str, .str])],[],[]⟩),(6,⟨[.tmp 7 (.a (.ptr 448 0)), .tmp 12 (.a (.slc .rd)), .tmp 13 (.a (.int .i64)), .tmp 14 (.a (.int .i64)), .tmp 47 (.a .bool), .box 448 (.cells 35 [(.int .i64), .str,(.int .i64),(.int .i64),(.int .i64),(.int .i64), .str,(.int .i64),(.int .i64),(.int .i64), .str, .str, .str, .str])],[],[]⟩),(6,⟨[.tmp 12 (.a (.slc .rd)), .tmp 13 (.a (.int .i64)), .tmp 14 (.a (.int .i64)), .tmp 53 (.a .bool)],[],[]⟩)])] },rfrz := [],ts := [4] }
noncomputable def bP (F:Nat) (v0:(List (Int×Int×B8×Int×Int×Int×Int×B8×Int×Int×Int×B8×B8×B8×B8×Unit) ×
     Int×Int×Unit)):Option ((List (Int×Int×B8×Int×Int×Int×Int×B8×Int×Int×Int×B8×B8×B8×B8×Unit) ×
     Int×Int×Unit) ⊕ (Unit ⊕ Bool×Unit)) :=
 if decide (v0.2.2.1<v0.2.1)=true then
      (idx v0.1 v0.2.2.1).bind fun v1 =>
       (if decide (100<(↑v1.2.2.1.length:Int))=false then
          some ((),v0.1,v0.2.1,v0.2.2.1,decide (100<(↑v1.2.2.2.2.2.2.2.1.length:Int)),v1.2,())
         else some ((),v0.1,v0.2.1,v0.2.2.1,true,v1.2,())).bind
        fun v2 =>
        (if v2.2.2.2.2.1=false then
           some ((),v2.2.1,v2.2.2.1,v2.2.2.2.1,decide (100<(↑v2.2.2.2.2.2.1.2.2.2.2.2.2.2.2.2.2.1.length:Int)),v2.2.2.2.2.2.1,())
          else some ((),v2.2.1,v2.2.2.1,v2.2.2.2.1,true,v2.2.2.2.2.2.1,())).bind
         fun v3 =>
         (if v3.2.2.2.2.1=false then
            some ((),v3.2.1,v3.2.2.1,v3.2.2.2.1,decide (100<(↑v3.2.2.2.2.2.1.2.2.2.2.2.2.2.2.2.2.2.1.length:Int)),v3.2.2.2.2.2.1,())
           else some ((),v3.2.1,v3.2.2.1,v3.2.2.2.1,true,v3.2.2.2.2.2.1,())).bind
          fun v4 =>
          (if v4.2.2.2.2.1=false then
             some ((),v4.2.1,v4.2.2.1,v4.2.2.2.1,decide (100<(↑v4.2.2.2.2.2.1.2.2.2.2.2.2.2.2.2.2.2.2.1.length:Int)),v4.2.2.2.2.2.1,())
            else some ((),v4.2.1,v4.2.2.1,v4.2.2.2.1,true,v4.2.2.2.2.2.1,())).bind
           fun v5 =>
           (if v5.2.2.2.2.1=false then
              some (v5.2.1,v5.2.2.1,v5.2.2.2.1,decide (100<(↑v5.2.2.2.2.2.1.2.2.2.2.2.2.2.2.2.2.2.2.2.1.length:Int)),())
             else some (v5.2.1,v5.2.2.1,v5.2.2.2.1,true,())).bind
            fun v6 =>
            if v6.2.2.2.1=true then some (Sum.inr (Sum.inr (false,()))) else some (Sum.inl (v6.1,v6.2.1,IntKind.i64.wrap (v6.2.2.1+1),()))
     else some (Sum.inr (Sum.inl ()))
noncomputable def cD (F:Nat) (x:(List (El .rd))×(Int)):Option (Bool):=if decide (x.2<(↑x.1.length:Int))=true then some false else (bq (bP F) F (x.1,(↑x.1.length:Int),0,())).bind fun v7=>dh v7 (fun v8=>some true) fun v9=>some v9.1
theorem mK (F:Nat):Ctr TT Tryz.prog 21 (aj TT l6 (cD F)) :=
 al F (code:=ak 21) Tryz.func21 ah fun x=>by kernel_rfl
end Go.Vm
/- Models of functions of the program, and that each keeps its contract: for all arguments of its shape. No condition. -/
namespace Go.Vm
open Go.Proofs
set_option linter.unusedVariables false
noncomputable def mQ:Spec Kd:={ params := [],ret:=(.one (.a .bool)),pins := [],pl:={ nt:=48,cuts := [(6,[(9,⟨[.tmp 4 (.a (.ptr 256 0)), .tmp 5 (.a (.ptr 320 0)), .tmp 30 (.a .bool), .box 256 (.cells 82 [(.int .i64),(.int .i64), .str,(.int .i64),(.int .i64),(.int .i64),(.int .i64), .str,(.int .i64),(.int .i64),(.int .i64), .str, .str, .str, .str,(.int .i64), .str,(.int .i64),(.int .i64),(.int .i64), .str, .str,(.int .i64),(.int .i64),(.int .i64), .str,(.int .i64),(.int .i64)]), .box 320 (.cells 82 [(.int .i64),(.int .i64), .str,(.int .i64),(.int .i64),(.int .i64),(.int .i64), .str,(.int .i64),(.int .i64),(.int .i64), .str, .str, .str, .str,(.int .i64), .str,(.int .i64),(.int .i64),(.int .i64), .str, .str,(.int .i64),(.int .i64),(.int .i64), .str,(.int .i64),(.int .i64)])],[],[]⟩),(6,⟨[.tmp 5 (.a (.ptr 320 0)), .tmp 36 (.a .bool), .box 320 (.cells 82 [(.int .i64),(.int .i64), .str,(.int .i64),(.int .i64),(.int .i64),(.int .i64), .str,(.int .i64),(.int .i64),(.int .i64), .str, .str, .str, .str,(.int .i64), .str,(.int .i64),(.int .i64),(.int .i64), .str, .str,(.int .i64),(.int .i64),(.int .i64), .str,(.int .i64),(.int .i64)])],[],[]⟩),(5,⟨[.tmp 5 (.a (.ptr 320 0)), .tmp 41 (.a .bool), .box 320 (.cells 82 [(.int .i64),(.int .i64), .str,(.int .i64),(.int .i64),(.int .i64),(.int .i64), .str,(.int .i64),(.int .i64),(.int .i64), .str, .str, .str, .str,(.int .i64), .str,(.int .i64),(.int .i64),(.int .i64), .str, .str,(.int .i64),(.int .i64),(.int .i64), .str,(.int .i64),(.int .i64)])],[],[]⟩),(6,⟨[.tmp 47 (.a .bool)],[],[]⟩)])] },rfrz := [],ts := [0] }
noncomputable def dE (F:Nat) (x:Unit):Option (Bool):=(Ab F ((3,4,0,[],[],[],[],()),0,[107],1,1,2,0,[48,49,50,51,52,53,54,55,56,57,97,98,99,100,101,102,48,49,50,51,52,53,54,55,56,57,97,98,99,100,101,102],9,20,0,[],[71,69,84],[47],[],())).bind fun (v0:Int×Int×Int×B8×Int×Int×Bool×Int×Unit)=>(iS F (v0,(0,[107],1,1,2,0,[48,49,50,51,52,53,54,55,56,57,97,98,99,100,101,102,48,49,50,51,52,53,54,55,56,57,97,98,99,100,101,102],9,20,0,[],[71,69,84],[47],[],()),[(4,[],200,[111,107],Unit.unit)],5,0,0,0,0,0,0,())).bind fun (v1:Int×Int×B8×Int×Int×Int×Int×B8×Int×Int×Int×B8×B8×B8×B8×Int×B8×Int×Int×Int×B8×B8×Int×Int×Int×B8×Int×Int×Unit)=>(iS F (v0,(0,[107],1,1,2,0,[48,49,50,51,52,53,54,55,56,57,97,98,99,100,101,102,48,49,50,51,52,53,54,55,56,57,97,98,99,100,101,102],9,20,0,[],[71,69,84],[47],[],()),[(4,[],200,[111,107],Unit.unit)],9,0,0,0,0,0,0,())).bind fun (v2:Int×Int×B8×Int×Int×Int×Int×B8×Int×Int×Int×B8×B8×B8×B8×Int×B8×Int×Int×Int×B8×B8×Int×Int×Int×B8×Int×Int×Unit)=>(if decide (v1.1=4)=true then some ((),(),decide (v1.2.2.2.1=2),v1,v2,()) else some ((),(),false,v1,v2,())).bind fun (v3:Unit×Unit×Bool×(Int×Int×B8×Int×Int×Int×Int×B8×Int×Int×Int×B8×B8×B8×B8×Int×B8×Int×Int×Int×B8×B8×Int×Int×Int×B8×Int×Int×Unit)×(Int×Int×B8×Int×Int×Int×Int×B8×Int×Int×Int×B8×B8×B8×B8×Int×B8×Int×Int×Int×B8×B8×Int×Int×Int×B8×Int×Int×Unit)×Unit)=>(if v3.2.2.1=true then some ((),decide (v3.2.2.2.1.2.2.2.2.2.2.2.2.2.2.2.2.2.2.2.2.2.2.2.2.2.2.1=3) && (decide (v3.2.2.2.1.2.2.2.2.2.2.2.2.2.2.2.2.2.2.2.2.2.2.2.2.2.2.2.1=4) && (decide (v3.2.2.2.1.2.2.2.2.2.2.2.2.2.2.2.2.2.2.2.2.2.2.2.2.2.2.2.2.1=200) && (decide (v3.2.2.2.1.2.2.2.2.2.2.2.2.2.2.2.2.2.2.2.2.2.2.2.2.2.2.2.2.2.1 = [111,107]) && (decide (v3.2.2.2.1.2.2.2.2.2.2.2.2.2.2.2.2.2.2.2.2.2.2.2.2.2.2.2.2.2.2.1=0) && (decide (v3.2.2.2.1.2.2.2.2.2.2.2.2.2.2.2.2.2.2.2.2.2.2.2.2.2.2.2.2.2.2.2.1=1) && true))))),v3.2.2.2.2.1,()) else some ((),false,v3.2.2.2.2.1,())).bind fun (v4:Unit×Bool×(Int×Int×B8×Int×Int×Int×Int×B8×Int×Int×Int×B8×B8×B8×B8×Int×B8×Int×Int×Int×B8×B8×Int×Int×Int×B8×Int×Int×Unit)×Unit)=>(if v4.2.1=true then some ((),decide (v4.2.2.1.1=1),v4.2.2.1,()) else some ((),false,v4.2.2.1,())).bind fun (v5:Unit×Bool×(Int×Int×B8×Int×Int×Int×Int×B8×Int×Int×Int×B8×B8×B8×B8×Int×B8×Int×Int×Int×B8×B8×Int×Int×Int×B8×Int×Int×Unit)×Unit)=>(if v5.2.1=true then some (decide (v5.2.2.1.2.2.2.2.2.2.2.2.2.2.2.2.2.2.2.2.2.2.2.2.2.2.2.2.1=503),()) else some (false,())).bind fun (v6:Bool×Unit)=>some v6.1
theorem l9 (F:Nat):Ctr TT Tryz.prog 38 (aj TT mQ (dE F)) :=
 al F (code:=ak 38) Tryz.func38 (af (af ah (Io F)) (vC F)) fun x=>by kernel_rfl
noncomputable def mS:Spec Kd:={ params := [(.agg [(.int .i64),(.int .i64),(.int .i64), .str,(.int .i64),(.int .i64), .bool,(.int .i64),(.int .i64), .str,(.int .i64),(.int .i64),(.int .i64),(.int .i64), .str,(.int .i64),(.int .i64),(.int .i64), .str, .str, .str, .str,(.slc .ph),(.int .i64), .str,(.int .i64),(.int .i64),(.int .i64),(.int .i64),(.int .i64),(.int .i64),(.int .i64),(.int .i64),(.int .i64),(.int .i64),(.int .i64)])],ret:=(.one (.a .bool)),pins := [],pl:={ nt:=27,cuts := [(1,[(10,⟨[.tmp 1 (.a (.ptr 64 0)), .tmp 12 (.a .bool), .box 64 (.cells 77 [(.int .i64),(.int .i64),(.int .i64), .str,(.int .i64),(.int .i64), .bool,(.int .i64),(.int .i64), .str,(.int .i64),(.int .i64),(.int .i64),(.int .i64), .str,(.int .i64),(.int .i64),(.int .i64), .str, .str, .str, .str,(.slc .ph),(.int .i64), .str,(.int .i64),(.int .i64),(.int .i64),(.int .i64),(.int .i64),(.int .i64),(.int .i64),(.int .i64),(.int .i64),(.int .i64),(.int .i64)])],[],[.cellSlc 64 22 .ph]⟩),(7,⟨[.tmp 1 (.a (.ptr 64 0)), .tmp 19 (.a .bool), .box 64 (.cells 77 [(.int .i64),(.int .i64),(.int .i64), .str,(.int .i64),(.int .i64), .bool,(.int .i64),(.int .i64), .str,(.int .i64),(.int .i64),(.int .i64),(.int .i64), .str,(.int .i64),(.int .i64),(.int .i64), .str, .str, .str, .str,(.slc .ph),(.int .i64), .str,(.int .i64),(.int .i64),(.int .i64),(.int .i64),(.int .i64),(.int .i64),(.int .i64),(.int .i64),(.int .i64),(.int .i64),(.int .i64)])],[],[.cellSlc 64 22 .ph]⟩),(7,⟨[.tmp 26 (.a .bool)],[],[]⟩)])] },rfrz := [],ts := [2] }
noncomputable def dF (F:Nat) (x:((Int)×(Int)×(Int)×B8×(Int)×(Int)×(Bool)×(Int)×(Int)×B8×(Int)×(Int)×(Int)×(Int)×B8×(Int)×(Int)×(Int)×B8×B8×B8×B8×(List (El .ph))×(Int)×B8×(Int)×(Int)×(Int)×(Int)×(Int)×(Int)×(Int)×(Int)×(Int)×(Int)×(Int)×Unit)):Option (Bool):=((cD F ([(0,x.2.2.2.2.2.2.2.2.1,x.2.2.2.2.2.2.2.2.2.1,x.2.2.2.2.2.2.2.2.2.2.1,x.2.2.2.2.2.2.2.2.2.2.2.1,x.2.2.2.2.2.2.2.2.2.2.2.2.1,x.2.2.2.2.2.2.2.2.2.2.2.2.2.1,x.2.2.2.2.2.2.2.2.2.2.2.2.2.2.1,x.2.2.2.2.2.2.2.2.2.2.2.2.2.2.2.1,x.2.2.2.2.2.2.2.2.2.2.2.2.2.2.2.2.1,x.2.2.2.2.2.2.2.2.2.2.2.2.2.2.2.2.2.1,x.2.2.2.2.2.2.2.2.2.2.2.2.2.2.2.2.2.2.1,x.2.2.2.2.2.2.2.2.2.2.2.2.2.2.2.2.2.2.2.1,x.2.2.2.2.2.2.2.2.2.2.2.2.2.2.2.2.2.2.2.2.1,x.2.2.2.2.2.2.2.2.2.2.2.2.2.2.2.2.2.2.2.2.2.1,Unit.unit)],1)).bind fun (v0:Bool)=>if v0=true then (dG F x.2.2.2.2.2.2.2.2.2.2.2.2.2.2.2.2.2.2.2.2.2.2.1).bind fun (v1:Bool)=>some ((),v1,x,()) else some ((),false,x,())).bind fun (v2:Unit×Bool×(Int×Int×Int×B8×Int×Int×Bool×Int×Int×B8×Int×Int×Int×Int×B8×Int×Int×Int×B8×B8×B8×B8×List (Int×B8×Int×B8×Unit)×Int×B8×Int×Int×Int×Int×Int×Int×Int×Int×Int×Int×Int×Unit)×Unit)=>(if v2.2.1=true then some ((),decide ((↑v2.2.2.1.2.2.2.1.length:Int)≤100),v2.2.2.1,()) else some ((),false,v2.2.2.1,())).bind fun (v3:Unit×Bool×(Int×Int×Int×B8×Int×Int×Bool×Int×Int×B8×Int×Int×Int×Int×B8×Int×Int×Int×B8×B8×B8×B8×List (Int×B8×Int×B8×Unit)×Int×B8×Int×Int×Int×Int×Int×Int×Int×Int×Int×Int×Int×Unit)×Unit)=>(if v3.2.1=true then some (decide ((↑v3.2.2.1.2.2.2.2.2.2.2.2.2.2.2.2.2.2.2.2.2.2.2.2.2.2.2.2.1.length:Int)≤100),()) else some (false,())).bind fun (v4:Bool×Unit)=>some v4.1
theorem my (F:Nat):Ctr TT Tryz.prog 41 (aj TT mS (dF F)) :=
 al F (code:=ak 41) Tryz.func41 (af (af ah (mK F)) (mR F)) fun x=>by kernel_rfl
end Go.Vm
