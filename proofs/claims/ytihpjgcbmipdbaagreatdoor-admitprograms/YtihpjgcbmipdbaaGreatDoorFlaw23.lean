import Derived.Test.YtihpjgcbmipdbaaGreatDoorKt
import Derived.Test.YtihpjgcbmipdbaaGreatDoorFref5
import Derived.Test.YtihpjgcbmipdbaaGreatDoorFref24
import Derived.Test.YtihpjgcbmipdbaaGreatDoorFref22
import Derived.Test.YtihpjgcbmipdbaaGreatDoorFadmit
import Derived.Test.YtihpjgcbmipdbaaGreatDoorFcanonr
import Derived.Test.YtihpjgcbmipdbaaGreatDoorFphr
import Derived.Test.YtihpjgcbmipdbaaGreatDoorFprog
import Derived.Test.YtihpjgcbmipdbaaGreatDoorFjson
import Derived.Test.YtihpjgcbmipdbaaGreatDoorFref23
/- Models of functions of the program, and that each keeps its contract: for all arguments of its shape. No condition. -/
namespace Go.Vm
open Go.Proofs
set_option linter.unusedVariables false
end Go.Vm
/- Models of functions of the program, and that each keeps its contract: for all arguments of its shape. No condition. -/
namespace Go.Vm
open Go.Proofs
set_option linter.unusedVariables false
noncomputable def mo:Spec Kd:={ params := [(.a (.slc .rl)),(.agg [(.int .i64), .str,(.int .i64),(.int .i64),(.int .i64),(.int .i64), .str,(.int .i64),(.int .i64),(.int .i64), .str, .str, .str, .str])],ret:=(.one (.a (.slc .ph))),pins := [],pl:={ nt:=19 },rfrz := [],ts := [4] }
noncomputable def dO (F:Nat) (x:(List (El .rl))×((Int)×B8×(Int)×(Int)×(Int)×(Int)×B8×(Int)×(Int)×(Int)×B8×B8×B8×B8×Unit)):Option (List (El .ph)):=(eT F (x.1,x.2.2.2.2.2.2.2.2.2.2.2.2.1,x.2.2.2.2.2.2.2.2.2.2.2.2.2.1)).bind fun (v0:Int)=>if decide (v0<0)=true then some [] else (idx x.1 v0).bind fun (v1:B8×B8×List (Int×B8×Int×B8×Unit)×Unit)=>some v1.2.2.1
theorem mq (F:Nat):Ctr TT Tryz.prog 24 (aj TT mo (dO F)) :=
 ao F (code:=ak 24) Tryz.func24 (ag ai (oY F)) fun x=>by kernel_rfl
noncomputable def ni:Spec Kd:={ params := [(.a (.int .i64)),(.a (.int .i64))],ret:=(.one (.a (.int .i64))),pins := [],pl:={ nt:=14 },rfrz := [],ts := [4] }
noncomputable def eJ (F:Nat) (x:(Int)×(Int)):Option (Int):=(dF F x.2).bind fun (v0:Int)=>(dF F x.1).bind fun (v1:Int)=>if decide (IntKind.i64.wrap (v0 - v1)<1)=true then some 1 else some (IntKind.i64.wrap (v0 - v1))
theorem oj (F:Nat):Ctr TT Tryz.prog 25 (aj TT ni (eJ F)) :=
 ao F (code:=ak 25) Tryz.func25 (ag ai (o8 F)) fun x=>by kernel_rfl
end Go.Vm
/- Models of functions of the program, and that each keeps its contract: for all arguments of its shape. No condition. -/
namespace Go.Vm
open Go.Proofs
set_option linter.unusedVariables false
noncomputable def nH:Spec Kd:={ params := [(.a (.slc .ph))],ret:=(.one (.a .bool)),pins := [],pl:={ nt:=25,loops := [(0,⟨[.tmp 8 (.a (.slc .ph)), .tmp 9 (.a (.int .i64)), .tmp 10 (.a (.int .i64))],[],[]⟩,(.exit 0,⟨[],[],[]⟩),[(.ret,⟨[.tmp 2 (.a .bool)],[],[]⟩)])],cuts := [(6,[(10,⟨[.tmp 8 (.a (.slc .ph)), .tmp 9 (.a (.int .i64)), .tmp 10 (.a (.int .i64)), .tmp 23 (.a .bool)],[],[]⟩)])] },rfrz := [],ts := [2] }
noncomputable def cg (F:Nat) (v0:(List (Int×B8×Int×B8×Unit)×Int×Int×Unit)):Option ((List (Int×B8×Int×B8×Unit)×Int×Int×Unit) ⊕ (Unit ⊕ Bool×Unit)):=if decide (v0.2.2.1<v0.2.1)=true then (idx v0.1 v0.2.2.1).bind fun (v1:Int×B8×Int×B8×Unit)=>(if decide (100<(↑v1.2.1.length:Int))=false then some (v0.1,v0.2.1,v0.2.2.1,decide (100<(↑v1.2.2.2.1.length:Int)),()) else some (v0.1,v0.2.1,v0.2.2.1,true,())).bind fun (v2:List (Int×B8×Int×B8×Unit)×Int×Int×Bool×Unit)=>if v2.2.2.2.1=true then some (Sum.inr (Sum.inr (false,()))) else some (Sum.inl (v2.1,v2.2.1,IntKind.i64.wrap (v2.2.2.1+1),())) else some (Sum.inr (Sum.inl ()))
noncomputable def eL (F:Nat) (x:(List (El .ph))):Option (Bool):=if decide (10<(↑x.length:Int))=true then some false else (aO (cg F) F (x,(↑x.length:Int),0,())).bind fun (v3:Unit ⊕ Bool×Unit)=>cm v3 (fun (v4:Unit)=>some true) fun (v5:Bool×Unit)=>some v5.1
theorem nY (F:Nat):Ctr TT Tryz.prog 29 (aj TT nH (eL F)) :=
 ao F (code:=ak 29) Tryz.func29 ai fun x=>by kernel_rfl
end Go.Vm
/- Models of functions of the program, and that each keeps its contract: for all arguments of its shape. No condition. -/
namespace Go.Vm
open Go.Proofs
set_option linter.unusedVariables false
noncomputable def oq:Spec Kd:={ params := [(.a (.slc .rl))],ret:=(.one (.a .bool)),pins := [],pl:={ nt:=31,loops := [(0,⟨[.tmp 8 (.a (.slc .rl)), .tmp 9 (.a (.int .i64)), .tmp 10 (.a (.int .i64))],[],[]⟩,(.exit 0,⟨[],[],[]⟩),[(.ret,⟨[.tmp 2 (.a .bool)],[],[]⟩)])],cuts := [(6,[(10,⟨[.tmp 4 (.a (.ptr 256 0)), .tmp 8 (.a (.slc .rl)), .tmp 9 (.a (.int .i64)), .tmp 10 (.a (.int .i64)), .tmp 23 (.a .bool), .box 256 (.cells 95 [.str, .str,(.slc .ph)])],[],[.cellSlc 256 2 .ph]⟩),(6,⟨[.tmp 8 (.a (.slc .rl)), .tmp 9 (.a (.int .i64)), .tmp 10 (.a (.int .i64)), .tmp 29 (.a .bool)],[],[]⟩)])] },rfrz := [],ts := [2] }
noncomputable def cd (F:Nat) (v0:(List (B8×B8×List (Int×B8×Int×B8×Unit)×Unit)×Int×Int×Unit)):Option ((List (B8×B8×List (Int×B8×Int×B8×Unit)×Unit)×Int×Int×Unit) ⊕ (Unit ⊕ Bool×Unit)):=if decide (v0.2.2.1<v0.2.1)=true then (idx v0.1 v0.2.2.1).bind fun (v1:B8×B8×List (Int×B8×Int×B8×Unit)×Unit)=>(if decide (100<(↑v1.1.length:Int))=false then some ((),v0.1,v0.2.1,v0.2.2.1,decide (100<(↑v1.2.1.length:Int)),(v1.1,v1.2.1,v1.2.2.1,()),()) else some ((),v0.1,v0.2.1,v0.2.2.1,true,(v1.1,v1.2.1,v1.2.2.1,()),())).bind fun (v2:Unit×List (B8×B8×List (Int×B8×Int×B8×Unit)×Unit)×Int×Int×Bool×(B8×B8×List (Int×B8×Int×B8×Unit)×Unit)×Unit)=>(if v2.2.2.2.2.1=false then (eL F v2.2.2.2.2.2.1.2.2.1).bind fun (v3:Bool)=>some (v2.2.1,v2.2.2.1,v2.2.2.2.1, !v3,()) else some (v2.2.1,v2.2.2.1,v2.2.2.2.1,true,())).bind fun (v4:List (B8×B8×List (Int×B8×Int×B8×Unit)×Unit)×Int×Int×Bool×Unit)=>if v4.2.2.2.1=true then some (Sum.inr (Sum.inr (false,()))) else some (Sum.inl (v4.1,v4.2.1,IntKind.i64.wrap (v4.2.2.1+1),())) else some (Sum.inr (Sum.inl ()))
noncomputable def cY (F:Nat) (x:(List (El .rl))):Option (Bool):=if decide (10<(↑x.length:Int))=true then some false else (aO (cd F) F (x,(↑x.length:Int),0,())).bind fun (v5:Unit ⊕ Bool×Unit)=>cm v5 (fun (v6:Unit)=>some true) fun (v7:Bool×Unit)=>some v7.1
theorem jc (F:Nat):Ctr TT Tryz.prog 15 (aj TT oq (cY F)) :=
 ao F (code:=ak 15) Tryz.func15 (ag ai (nY F)) fun x=>by kernel_rfl
end Go.Vm
/- Models of functions of the program, and that each keeps its contract: for all arguments of its shape. No condition. -/
namespace Go.Vm
open Go.Proofs
set_option linter.unusedVariables false
end Go.Vm
/- Models of functions of the program, and that each keeps its contract: for all arguments of its shape. No condition. -/
namespace Go.Vm
open Go.Proofs
set_option linter.unusedVariables false
end Go.Vm
/- Models of functions of the program, and that each keeps its contract: for all arguments of its shape. No condition. -/
namespace Go.Vm
open Go.Proofs
set_option linter.unusedVariables false
end Go.Vm
/- Models of functions of the program, and that each keeps its contract: for all arguments of its shape. No condition. -/
namespace Go.Vm
open Go.Proofs
set_option linter.unusedVariables false
noncomputable def oi:Spec Kd:={ params := [(.a (.slc .rd)),(.a (.int .i64))],ret:=(.one (.a .bool)),pins := [],pl:={ nt:=55,loops := [(0,⟨[.tmp 12 (.a (.slc .rd)), .tmp 13 (.a (.int .i64)), .tmp 14 (.a (.int .i64))],[],[]⟩,(.exit 0,⟨[],[],[]⟩),[(.ret,⟨[.tmp 4 (.a .bool)],[],[]⟩)])],cuts := [(7,[(10,⟨[.tmp 7 (.a (.ptr 448 0)), .tmp 12 (.a (.slc .rd)), .tmp 13 (.a (.int .i64)), .tmp 14 (.a (.int .i64)), .tmp 29 (.a .bool), .box 448 (.cells 35 [(.int .i64), .str,(.int .i64),(.int .i64),(.int .i64),(.int .i64), .str,(.int .i64),(.int .i64),(.int .i64), .str, .str, .str, .str])],[],[]⟩),(6,⟨[.tmp 7 (.a (.ptr 448 0)), .tmp 12 (.a (.slc .rd)), .tmp 13 (.a (.int .i64)), .tmp 14 (.a (.int .i64)), .tmp 35 (.a .bool), .box 448 (.cells 35 [(.int .i64), .str,(.int .i64),(.int .i64),(.int .i64),(.int .i64), .str,(.int .i64),(.int .i64),(.int .i64), .str, .str, .str, .str])],[],[]⟩),(6,⟨[.tmp 7 (.a (.ptr 448 0)), .tmp 12 (.a (.slc .rd)), .tmp 13 (.a (.int .i64)), .tmp 14 (.a (.int .i64)), .tmp 41 (.a .bool), .box 448 (.cells 35 [(.int .i64), .str,(.int .i64),(.int .i64),(.int .i64),(.int .i64), .str,(.int .i64),(.int .i64),(.int .i64), .str, .str, .str, .str])],[],[]⟩),(6,⟨[.tmp 7 (.a (.ptr 448 0)), .tmp 12 (.a (.slc .rd)), .tmp 13 (.a (.int .i64)), .tmp 14 (.a (.int .i64)), .tmp 47 (.a .bool), .box 448 (.cells 35 [(.int .i64), .str,(.int .i64),(.int .i64),(.int .i64),(.int .i64), .str,(.int .i64),(.int .i64),(.int .i64), .str, .str, .str, .str])],[],[]⟩),(6,⟨[.tmp 12 (.a (.slc .rd)), .tmp 13 (.a (.int .i64)), .tmp 14 (.a (.int .i64)), .tmp 53 (.a .bool)],[],[]⟩)])] },rfrz := [],ts := [4] }
noncomputable def b8 (F:Nat) (v0:(List (Int×Int×B8×Int×Int×Int×Int×B8×Int×Int×Int×B8×B8×B8×B8×Unit) ×
     Int×Int×Unit)):Option ((List (Int×Int×B8×Int×Int×Int×Int×B8×Int×Int×Int×B8×B8×B8×B8×Unit) ×
     Int×Int×Unit) ⊕ (Unit ⊕ Bool×Unit)) :=
 if decide (v0.2.2.1<v0.2.1)=true then
      (idx v0.1 v0.2.2.1).bind fun v1 =>
       (if decide (100<(↑v1.2.2.1.length:Int))=false then
          some ((),v0.1,v0.2.1,v0.2.2.1,decide (100<(↑v1.2.2.2.2.2.2.2.1.length:Int)),v1.2,())
         else some ((),v0.1,v0.2.1,v0.2.2.1,true,v1.2,())).bind
        fun v2 =>
        (if v2.2.2.2.2.1=false then
           some ((),v2.2.1,v2.2.2.1,v2.2.2.2.1,decide (100<(↑v2.2.2.2.2.2.1.2.2.2.2.2.2.2.2.2.2.1.length:Int)),v2.2.2.2.2.2.1,())
          else some ((),v2.2.1,v2.2.2.1,v2.2.2.2.1,true,v2.2.2.2.2.2.1,())).bind
         fun v3 =>
         (if v3.2.2.2.2.1=false then
            some ((),v3.2.1,v3.2.2.1,v3.2.2.2.1,decide (100<(↑v3.2.2.2.2.2.1.2.2.2.2.2.2.2.2.2.2.2.1.length:Int)),v3.2.2.2.2.2.1,())
           else some ((),v3.2.1,v3.2.2.1,v3.2.2.2.1,true,v3.2.2.2.2.2.1,())).bind
          fun v4 =>
          (if v4.2.2.2.2.1=false then
             some ((),v4.2.1,v4.2.2.1,v4.2.2.2.1,decide (100<(↑v4.2.2.2.2.2.1.2.2.2.2.2.2.2.2.2.2.2.2.1.length:Int)),v4.2.2.2.2.2.1,())
            else some ((),v4.2.1,v4.2.2.1,v4.2.2.2.1,true,v4.2.2.2.2.2.1,())).bind
           fun v5 =>
           (if v5.2.2.2.2.1=false then
              some (v5.2.1,v5.2.2.1,v5.2.2.2.1,decide (100<(↑v5.2.2.2.2.2.1.2.2.2.2.2.2.2.2.2.2.2.2.2.1.length:Int)),())
             else some (v5.2.1,v5.2.2.1,v5.2.2.2.1,true,())).bind
            fun v6 =>
            if v6.2.2.2.1=true then some (Sum.inr (Sum.inr (false,()))) else some (Sum.inl (v6.1,v6.2.1,IntKind.i64.wrap (v6.2.2.1+1),()))
     else some (Sum.inr (Sum.inl ()))
noncomputable def cZ (F:Nat) (x:(List (El .rd))×(Int)):Option (Bool):=if decide (x.2<(↑x.1.length:Int))=true then some false else (aO (b8 F) F (x.1,(↑x.1.length:Int),0,())).bind fun v7=>cm v7 (fun v8=>some true) fun v9=>some v9.1
theorem nT (F:Nat):Ctr TT Tryz.prog 21 (aj TT oi (cZ F)) :=
 ao F (code:=ak 21) Tryz.func21 ai fun x=>by kernel_rfl
end Go.Vm
/- Models of functions of the program, and that each keeps its contract: for all arguments of its shape. No condition. -/
namespace Go.Vm
open Go.Proofs
set_option linter.unusedVariables false
noncomputable def oU:Spec Kd:={ params := [(.a (.slc .ph)),(.a (.slc .ph))],ret:=(.one (.a .bool)),pins := [],pl:={ nt:=26,loops := [(0,⟨[.tmp 0 (.a (.slc .ph)), .tmp 1 (.a (.slc .ph)), .tmp 12 (.a (.int .i64)), .tmp 13 (.a (.int .i64))],[],[]⟩,(.exit 0,⟨[],[],[]⟩),[(.ret,⟨[.tmp 4 (.a .bool)],[],[]⟩)])],ends := [(6,⟨[.tmp 0 (.a (.slc .ph)), .tmp 1 (.a (.slc .ph)), .tmp 12 (.a (.int .i64)), .tmp 13 (.a (.int .i64)), .tmp 24 (.a .bool)],[],[]⟩)] },rfrz := [],ts := [4] }
noncomputable def dP (F:Nat) (v0:(List (Int×B8×Int×B8×Unit)×List (Int×B8×Int×B8×Unit)×Int×Int×Unit)):Option ((List (Int×B8×Int×B8×Unit)×List (Int×B8×Int×B8×Unit)×Int×Int×Unit) ⊕ (Unit ⊕ Bool×Unit)):=if decide (v0.2.2.2.1<v0.2.2.1)=true then ((idx v0.1 v0.2.2.2.1).bind fun (v1:Int×B8×Int×B8×Unit)=>(idx v0.2.1 v0.2.2.2.1).bind fun (v2:Int×B8×Int×B8×Unit)=>some (v0.1,v0.2.1,v0.2.2.1,v0.2.2.2.1, !(decide (v1.1=v2.1) && (decide (v1.2.1=v2.2.1) && (decide (v1.2.2.1=v2.2.2.1) && (decide (v1.2.2.2.1=v2.2.2.2.1) && true)))),())).bind fun (v3:List (Int×B8×Int×B8×Unit)×List (Int×B8×Int×B8×Unit)×Int×Int×Bool×Unit)=>if v3.2.2.2.2.1=true then some (Sum.inr (Sum.inr (false,()))) else some (Sum.inl (v3.1,v3.2.1,v3.2.2.1,IntKind.i64.wrap (v3.2.2.2.1+1),())) else some (Sum.inr (Sum.inl ()))
noncomputable def eV (F:Nat) (x:(List (El .ph))×(List (El .ph))):Option (Bool):=if (!decide ((↑x.1.length:Int)=(↑x.2.length:Int)))=true then some false else (aO (dP F) F (x.1,x.2,(↑x.1.length:Int),0,())).bind fun (v4:Unit ⊕ Bool×Unit)=>cm v4 (fun (v5:Unit)=>some true) fun (v6:Bool×Unit)=>some v6.1
theorem pd (F:Nat):Ctr TT Tryz.prog 18 (aj TT oU (eV F)) :=
 ao F (code:=ak 18) Tryz.func18 ai fun x=>by kernel_rfl
end Go.Vm
