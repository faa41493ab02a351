import Derived.Test.YtihpjgcbmipdbaaGreatDoorFphr
import Derived.Test.YtihpjgcbmipdbaaGreatDoorFref22
set_option linter.unusedVariables false
noncomputable section
namespace Go.Vm
open Go.Proofs
def rL:Spec Kd:={ params:=[(.a (.slc .ph))],ret:=(.one ac7),pins:=[],pl:={ nt:=25,loops:=[(0,⟨[.tmp 8 (.a (.slc .ph)),.tmp 9 ac6,.tmp 10 ac6],[],[]⟩,(.exit 0,⟨[],[],[]⟩),[(.ret,⟨[.tmp 2 ac7],[],[]⟩)])],cuts:=[(6,[(10,⟨[.tmp 8 (.a (.slc .ph)),.tmp 9 ac6,.tmp 10 ac6,.tmp 23 ac7],[],[]⟩)])] },rfrz:=[],ts:=[2] }
def du (F:Nat) (v0:(List acQ×Int×Int×Unit)):Option ((List acQ×Int×Int×Unit) ⊕ ac0):=if decide (v0.2.2.1<v0.2.1)=true then (idx v0.1 v0.2.2.1).bind fun (v1:Int×B8×Int×B8×Unit)=>(if decide (100<(↑v1.2.1.length:Int))=false then some (v0.1,v0.2.1,v0.2.2.1,decide (100<(↑v1.2.2.2.1.length:Int)),()) else some (v0.1,v0.2.1,v0.2.2.1,true,())).bind fun (v2:List acQ×Int×Int×Bool×Unit)=>if v2.2.2.2.1=true then some (Sum.inr (Sum.inr (false,()))) else some (Sum.inl (v2.1,v2.2.1,IntKind.i64.wrap (v2.2.2.1+1),())) else some (Sum.inr (Sum.inl ()))
def fV (F:Nat) (x:(List (El .ph))):Option (Bool):=if decide (10<(↑x.length:Int))=true then some false else (bf (du F) F (x,(↑x.length:Int),0,())).bind fun (v3:Unit ⊕ Bool×Unit)=>dq v3 (fun (v4:Unit)=>some true) fun (v5:Bool×Unit)=>some v5.1
theorem rz (F:Nat):Ctr TT Tryz.prog 29 (ai TT rL (fV F)) :=
 ar F (code:=aj 29) Tryz.func29 ah fun x=>by kernel_rfl
end Go.Vm
namespace Go.Vm
open Go.Proofs
def rE:Spec Kd:={ params:=[(.a (.slc .rd)),ac6],ret:=(.one ac7),pins:=[],pl:={ nt:=55,loops:=[(0,⟨[.tmp 12 (.a (.slc .rd)),.tmp 13 ac6,.tmp 14 ac6],[],[]⟩,(.exit 0,⟨[],[],[]⟩),[(.ret,⟨[.tmp 4 ac7],[],[]⟩)])],cuts:=[(7,[(10,⟨[.tmp 7 (.a (.ptr 448 0)),.tmp 12 (.a (.slc .rd)),.tmp 13 ac6,.tmp 14 ac6,.tmp 29 ac7,.box 448 (.cells 35 acC)],[],[]⟩),(6,⟨[.tmp 7 (.a (.ptr 448 0)),.tmp 12 (.a (.slc .rd)),.tmp 13 ac6,.tmp 14 ac6,.tmp 35 ac7,.box 448 (.cells 35 acC)],[],[]⟩),(6,⟨[.tmp 7 (.a (.ptr 448 0)),.tmp 12 (.a (.slc .rd)),.tmp 13 ac6,.tmp 14 ac6,.tmp 41 ac7,.box 448 (.cells 35 acC)],[],[]⟩),(6,⟨[.tmp 7 (.a (.ptr 448 0)),.tmp 12 (.a (.slc .rd)),.tmp 13 ac6,.tmp 14 ac6,.tmp 47 ac7,.box 448 (.cells 35 acC)],[],[]⟩),(6,⟨[.tmp 12 (.a (.slc .rd)),.tmp 13 ac6,.tmp 14 ac6,.tmp 53 ac7],[],[]⟩)])] },rfrz:=[],ts:=[4] }
def dw (F:Nat) (v0:(List (Int×Int×B8×Int×Int×Int×Int×B8×Int×Int×Int×B8×B8×B8×B8×Unit) ×
     Int×Int×Unit)):Option ((List (Int×Int×B8×Int×Int×Int×Int×B8×Int×Int×Int×B8×B8×B8×B8×Unit) ×
     Int×Int×Unit) ⊕ ac0) :=
 if decide (v0.2.2.1<v0.2.1)=true then
      (idx v0.1 v0.2.2.1).bind fun v1 =>
       (if decide (100<(↑v1.2.2.1.length:Int))=false then
          some ((),v0.1,v0.2.1,v0.2.2.1,decide (100<(↑v1.2.2.2.2.2.2.2.1.length:Int)),v1.2,())
         else some ((),v0.1,v0.2.1,v0.2.2.1,true,v1.2,())).bind
        fun v2 =>
        (if v2.2.2.2.2.1=false then
           some ((),v2.2.1,v2.2.2.1,v2.2.2.2.1,decide (100<(↑v2.2.2.2.2.2.1.2.2.2.2.2.2.2.2.2.2.1.length:Int)),v2.2.2.2.2.2.1,())
          else some ((),v2.2.1,v2.2.2.1,v2.2.2.2.1,true,v2.2.2.2.2.2.1,())).bind
         fun v3 =>
         (if v3.2.2.2.2.1=false then
            some ((),v3.2.1,v3.2.2.1,v3.2.2.2.1,decide (100<(↑v3.2.2.2.2.2.1.2.2.2.2.2.2.2.2.2.2.2.1.length:Int)),v3.2.2.2.2.2.1,())
           else some ((),v3.2.1,v3.2.2.1,v3.2.2.2.1,true,v3.2.2.2.2.2.1,())).bind
          fun v4 =>
          (if v4.2.2.2.2.1=false then
             some ((),v4.2.1,v4.2.2.1,v4.2.2.2.1,decide (100<(↑v4.2.2.2.2.2.1.2.2.2.2.2.2.2.2.2.2.2.2.1.length:Int)),v4.2.2.2.2.2.1,())
            else some ((),v4.2.1,v4.2.2.1,v4.2.2.2.1,true,v4.2.2.2.2.2.1,())).bind
           fun v5 =>
           (if v5.2.2.2.2.1=false then
              some (v5.2.1,v5.2.2.1,v5.2.2.2.1,decide (100<(↑v5.2.2.2.2.2.1.2.2.2.2.2.2.2.2.2.2.2.2.2.1.length:Int)),())
             else some (v5.2.1,v5.2.2.1,v5.2.2.2.1,true,())).bind
            fun v6 =>
            if v6.2.2.2.1=true then some (Sum.inr (Sum.inr (false,()))) else some (Sum.inl (v6.1,v6.2.1,IntKind.i64.wrap (v6.2.2.1+1),()))
     else some (Sum.inr (Sum.inl ()))
def eK (F:Nat) (x:(List (El .rd))×Int):Option (Bool):=if decide (x.2<(↑x.1.length:Int))=true then some false else (bf (dw F) F (x.1,(↑x.1.length:Int),0,())).bind fun v7=>dq v7 (fun v8=>some true) fun v9=>some v9.1
theorem rX (F:Nat):Ctr TT Tryz.prog 21 (ai TT rE (eK F)) :=
 ar F (code:=aj 21) Tryz.func21 ah fun x=>by kernel_rfl
end Go.Vm
