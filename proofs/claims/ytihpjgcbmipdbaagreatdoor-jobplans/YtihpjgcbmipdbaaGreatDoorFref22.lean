import Derived.Test.YtihpjgcbmipdbaaGreatDoorFr9v
set_option linter.unusedVariables false
noncomputable section
namespace Go.Vm
open Go.Proofs
def s4:Spec Kd:={ params:=[ac8],ret:=(.one ac7),pins:=[],pl:={ nt:=41,loops:=[(0,⟨[.tmp 0 ac8,.tmp 3 ac6],[],[]⟩,(.exit 0,⟨[.tmp 0 ac8],[],[]⟩),[(.ret,⟨[.tmp 2 ac7],[],[]⟩)])],cuts:=[(6,[(8,⟨[.tmp 40 ac7],[],[]⟩)]),(4,[(10,⟨[.tmp 0 ac8,.tmp 3 ac6,.tmp 19 ac7],[],[]⟩),(12,⟨[.tmp 0 ac8,.tmp 3 ac6,.tmp 31 ac7],[],[]⟩)])] },rfrz:=[],ts:=[2] }
def dZ (F:Nat) (v0: ac3):Option (ac3 ⊕ (B8×Unit ⊕ Bool×Unit)):=if decide (v0.2.1<(↑v0.1.length:Int))=true then ((idx v0.1 v0.2.1).bind fun v1=>if decide (97<=(↑v1.toNat:Int))=true then (idx v0.1 v0.2.1).bind fun v2=>some (v0.1,v0.2.1,decide ((↑v2.toNat:Int)<=122),()) else some (v0.1,v0.2.1,false,())).bind fun v3=>(if v3.2.2.1=false then (idx v3.1 v3.2.1).bind fun v4=>if decide (48<=(↑v4.toNat:Int))=true then (idx v3.1 v3.2.1).bind fun v5=>some (v3.1,v3.2.1,decide ((↑v5.toNat:Int)<=57),()) else some (v3.1,v3.2.1,false,()) else some (v3.1,v3.2.1,true,())).bind fun v6=>if (!v6.2.2.1)=true then some (Sum.inr (Sum.inr (false,()))) else some (Sum.inl (v6.1,IntKind.i64.wrap (v6.2.1+1),())) else some (Sum.inr (Sum.inl (v0.1,())))
def dO (F:Nat) (x:B8):Option (Bool):=(bf (dZ F) F (x,0,())).bind fun v7=>dq v7 (fun v8=>(if decide (1<=(↑v8.1.length:Int))=true then some (decide ((↑v8.1.length:Int)<=12),()) else some (false,())).bind fun v9=>some v9.1) fun v10=>some v10.1
theorem lQ (F:Nat):Ctr TT Tryz.prog 138 (ai TT s4 (dO F)) :=
 ar F (code:=aj 138) Tryz.func138 ah fun x=>by kernel_rfl
def ue:Spec Kd:={ params:=[ac8],ret:=(.one ac6),pins:=[],pl:={ nt:=58,loops:=[(0,⟨[.tmp 0 ac8,.tmp 3 ac6],[],[]⟩,(.exit 0,⟨[.tmp 0 ac8,.tmp 3 ac6],[],[]⟩),[])],cuts:=[(10,[(11,⟨[.tmp 3 ac6,.tmp 55 ac7],[],[]⟩)]),(8,[(10,⟨[.tmp 0 ac8,.tmp 3 ac6,.tmp 42 ac7],[],[]⟩)]),(3,[(8,⟨[.tmp 0 ac8,.tmp 14 ac7],[],[]⟩),(5,⟨[.tmp 0 ac8,.tmp 19 ac7],[],[]⟩),(5,⟨[.tmp 0 ac8,.tmp 24 ac7],[],[]⟩),(5,⟨[.tmp 0 ac8,.tmp 29 ac7],[],[]⟩)])] },rfrz:=[],ts:=[2] }
def eA (F:Nat) (v10: ac3):Option (ac3 ⊕ ac3):=(if decide (v10.2.1<(↑v10.1.length:Int))=true then (idx v10.1 v10.2.1).bind fun v11=>some (v10.1,v10.2.1,!decide ((↑v11.toNat:Int)=125),()) else some (v10.1,v10.2.1,false,())).bind fun v12=>if v12.2.2.1=true then some (Sum.inl (v12.1,IntKind.i64.wrap (v12.2.1+1),())) else some (Sum.inr (v12.1,v12.2.1,()))
def fH (F:Nat) (x:B8):Option (Int):=if decide ((↑x.length:Int)<2)=true then some 0 else ((idx x 1).bind fun v0=>if decide ((↑v0.toNat:Int)=37)=false then (idx x 1).bind fun v1=>some (x,decide ((↑v1.toNat:Int)=98),()) else some (x,true,())).bind fun v2=>(if v2.2.1=false then (idx v2.1 1).bind fun v3=>some (v2.1,decide ((↑v3.toNat:Int)=107),()) else some (v2.1,true,())).bind fun v4=>(if v4.2.1=false then (idx v4.1 1).bind fun v5=>some (v4.1,decide ((↑v5.toNat:Int)=109),()) else some (v4.1,true,())).bind fun v6=>(if v6.2.1=false then (idx v6.1 1).bind fun v7=>some (v6.1,decide ((↑v7.toNat:Int)=112),()) else some (v6.1,true,())).bind fun v8=>if v8.2.1=true then some 2 else (idx v8.1 1).bind fun v9=>if (!decide ((↑v9.toNat:Int)=123))=true then some 0 else (bf (eA F) F (v8.1,2,())).bind fun v13=>(if decide (v13.2.1=(↑v13.1.length:Int))=false then (sub v13.1 2 v13.2.1).bind fun v14=>(dO F v14).bind fun v15=>some (v13.2.1,!v15,()) else some (v13.2.1,true,())).bind fun v16=>if v16.2.1=true then some 0 else some (IntKind.i64.wrap (v16.1+1))
theorem mE (F:Nat):Ctr TT Tryz.prog 135 (ai TT ue (fH F)) :=
 ar F (code:=aj 135) Tryz.func135 (af ah (lQ F)) fun x=>by kernel_rfl
def rH:Spec Kd:={ params:=[ac8],ret:=(.one ac7),pins:=[],pl:={ nt:=47,loops:=[(2,⟨[.tmp 0 ac8,.tmp 6 ac6],[641,642],[]⟩,(.exit 2,⟨[.tmp 0 ac8],[641,642],[]⟩),[(.ret,⟨[.tmp 2 ac7],[641,642],[]⟩)]),(0,⟨[.tmp 0 ac8,.tmp 3 (.a (.slc .i64)),.tmp 5 ac6],[641,642],[]⟩,(.exit 0,⟨[.tmp 0 ac8],[641,642],[]⟩),[(.ret,⟨[.tmp 2 ac7],[641,642],[]⟩)])] },rfrz:=[],ts:=[2] }
def dv (F:Nat) (v1:(B8×List Int×Int×Unit)):Option ((B8×List Int×Int×Unit) ⊕ (B8×Unit ⊕ Bool×Unit)):=if decide (v1.2.2.1<(↑v1.2.1.length:Int))=true then (idx v1.2.1 v1.2.2.1).bind fun v2=>(bX F v2).bind fun v3=>if decide (v3=0)=true then some (Sum.inr (Sum.inr (false,()))) else some (Sum.inl (v1.1,v1.2.1,IntKind.i64.wrap (v1.2.2.1+1),())) else some (Sum.inr (Sum.inl (v1.1,())))
def bI (F:Nat) (v6: ac3):Option (ac3 ⊕ (B8×Unit ⊕ Bool×Unit)):=if decide (v6.2.1<(↑v6.1.length:Int))=true then (idx v6.1 v6.2.1).bind fun v7=>if (!decide ((↑v7.toNat:Int)=37))=true then some (Sum.inl (v6.1,IntKind.i64.wrap (v6.2.1+1),())) else (sub v6.1 v6.2.1 (↑v6.1.length:Int)).bind fun v8=>(fH F v8).bind fun v9=>if decide (v9=0)=true then some (Sum.inr (Sum.inr (false,()))) else some (Sum.inl (v6.1,IntKind.i64.wrap (v6.2.1+v9),())) else some (Sum.inr (Sum.inl (v6.1,())))
def eN (F:Nat) (x:B8):Option (Bool):=(bM F x).bind fun v0=>(bf (dv F) F (x,v0.1,0,())).bind fun v4=>dq v4 (fun v5=>(bf (bI F) F (v5.1,0,())).bind fun v10=>dq v10 (fun v11=>some (decide ((↑v11.1.length:Int)<=60))) fun v12=>some v12.1) fun v13=>some v13.1
theorem kX (F:Nat):Ctr TT Tryz.prog 134 (ai TT rH (eN F)) :=
 ar F (code:=aj 134) Tryz.func134 (af (af (af ah (eJ F)) (fm F)) (mE F)) fun x=>by kernel_rfl
def rG:Spec Kd:={ params:=[ac8,(.agg acC)],ret:=(.one ac8),pins:=[],pl:={ nt:=71,loops:=[(0,⟨[.tmp 0 ac8,.tmp 5 (.a (.ptr 320 0)),.tmp 7 ac6,.box 320 (.cells 102 acK)],[],[.cellSlc 320 4 .str,.cellSlc 320 5 .str]⟩,(.exit 0,⟨[],[],[]⟩),[(.ret,⟨[.tmp 4 ac8],[],[]⟩)])],cuts:=[(16,[(12,⟨[.tmp 5 (.a (.ptr 320 0)),.tmp 7 ac6,.tmp 8 (.a (.ptr 512 0)),.box 320 (.cells 102 acK),.box 512 (.cells 102 acK)],[],[.cellSlc 320 4 .str,.cellSlc 320 5 .str,.cellSlc 512 4 .str,.cellSlc 512 5 .str]⟩)])],ends:=[(15,⟨[.tmp 0 ac8,.tmp 5 (.a (.ptr 320 0)),.tmp 7 ac6,.tmp 51 ac7,.box 320 (.cells 102 acK)],[],[.cellSlc 320 4 .str,.cellSlc 320 5 .str]⟩)] },rfrz:=[],ts:=[4] }
def dA (F:Nat) (v1:(B8×Unit×Int×acJ×Unit)):Option ((B8×Unit×Int×acJ×Unit) ⊕ (Unit ⊕ B8×Unit)):=if decide (v1.2.2.1<(↑v1.2.2.2.1.2.2.2.2.1.length:Int))=true then ((idx v1.2.2.2.1.2.2.2.2.1 v1.2.2.1).bind fun (v2:B8)=>(sub v1.1 2 (IntKind.i64.wrap ((↑v1.1.length:Int)-1))).bind fun (v3:B8)=>some (v1.1,(),v1.2.2.1,decide (v2=v3),v1.2.2.2.1,())).bind fun (v4:B8×Unit×Int×Bool×acJ×Unit)=>if v4.2.2.2.1=true then ((idx v4.2.2.2.2.1.2.2.2.2.2.1 v4.2.2.1).bind fun (v5:B8)=>(dG F v5).bind fun (v6: acJ×Int)=>some ((),v4.2.2.1,(),v4.2.2.2.2.1,v6.1,())).bind fun (v7:Unit×Int×Unit×acJ×acJ×Unit)=>if decide (v7.2.2.2.2.1.1=4)=true then some (Sum.inr (Sum.inr (v7.2.2.2.2.1.2.2.1,()))) else (idx v7.2.2.2.1.2.2.2.2.2.1 v7.2.1).bind fun (v8:B8)=>some (Sum.inr (Sum.inr (v8,()))) else some (Sum.inl (v4.1,(),IntKind.i64.wrap (v4.2.2.1+1),v4.2.2.2.2.1,())) else some (Sum.inr (Sum.inl ()))
def gj (F:Nat) (x:B8×acE):Option B8:=if decide (x.1=[37,98])=true then some x.2.2.2.2.2.2.2.2.2.2.2.2.2.2.1 else if decide (x.1=[37,107])=true then some x.2.2.1 else if decide (x.1=[37,109])=true then some x.2.2.2.2.2.2.2.2.2.2.2.2.1 else if decide (x.1=[37,112])=true then some x.2.2.2.2.2.2.2.2.2.2.2.2.2.1 else if decide (x.1=[37,37])=true then some [37] else (dG F x.2.2.2.2.2.2.2.2.2.2.2.2.2.2.1).bind fun (v0: acJ×Int)=>(bf (dA F) F (x.1,(),0,v0.1,())).bind fun (v9:Unit ⊕ B8×Unit)=>dq v9 (fun (v10:Unit)=>some []) fun (v11:B8×Unit)=>some v11.1
theorem rY (F:Nat):Ctr TT Tryz.prog 136 (ai TT rG (gj F)) :=
 ar F (code:=aj 136) Tryz.func136 (af ah (nE F)) fun x=>by kernel_rfl
def sC:Spec Kd:={ params:=[ac8,(.agg acC)],ret:=(.one ac8),pins:=[],pl:={ nt:=80,joins:=[(2000064,(.norm,⟨[.tmp 8 ac8,.tmp 9 (.a (.slc .i64)),.tmp 11 ac6,.tmp 12 ac8],[3201,3202],[]⟩),[]),(900023,(.norm,⟨[.tmp 0 ac8,.tmp 3 (.a (.ptr 192 0)),.tmp 5 ac8,.tmp 6 ac6,.tmp 7 ac6,.box 192 (.cells 35 acC)],[3201,3202],[]⟩),[])],loops:=[(2,⟨[.tmp 8 ac8,.tmp 9 (.a (.slc .i64)),.tmp 11 ac6],[3201,3202],[]⟩,(.exit 2,⟨[.tmp 8 ac8],[3201,3202],[]⟩),[]),(0,⟨[.tmp 0 ac8,.tmp 3 (.a (.ptr 192 0)),.tmp 5 ac8,.tmp 6 ac6,.box 192 (.cells 35 acC)],[3201,3202],[]⟩,(.exit 0,⟨[.tmp 5 ac8],[3201,3202],[]⟩),[])],ends:=[(9,⟨[.tmp 0 ac8,.tmp 3 (.a (.ptr 192 0)),.tmp 5 ac8,.tmp 6 ac6,.tmp 7 ac6,.box 192 (.cells 35 acC)],[3201,3202],[]⟩)] },rfrz:=[],ts:=[4] }
def cG (F:Nat) (v1:(B8×
      Unit×
       B8×
        Int×
          acE×Unit)):Option ((B8×
      Unit×
       B8×
        Int×
          acE×Unit) ⊕ (B8×Unit)) :=
 if decide (v1.2.2.2.1<(↑v1.1.length:Int))=true then
       (idx v1.1 v1.2.2.2.1).bind fun (v2:UInt8) =>
        (if decide ((↑v2.toNat:Int)=37)=true then
           (sub v1.1 v1.2.2.2.1 (↑v1.1.length:Int)).bind fun (v3:B8) =>
            (fH F v3).bind fun (v4:Int) =>
             ((sub v1.1 v1.2.2.2.1 (IntKind.i64.wrap (v1.2.2.2.1+v4))).bind fun (v5:B8) =>
                (gj F (v5,v1.2.2.2.2.1)).bind fun (v6:B8) =>
                 if decide (v1.2.2.1.length+v6.length<=9223372036854775807)=true then
                  some (v1.1,(),v1.2.2.1++v6,v1.2.2.2.1,v4,v1.2.2.2.2.1,())
                 else none).bind
              fun
               (v7 :
                B8×
                 Unit×
                  B8×
                   Int×
                    Int×
                     (Int×
                       B8×
                        Int×
                         Int×Int×Int×B8×Int×Int×Int×B8×B8×B8×B8×Unit) ×
                      Unit) =>
              some v7
          else
           (sub v1.1 v1.2.2.2.1 (IntKind.i64.wrap (v1.2.2.2.1+1))).bind fun (v8:B8) =>
            if decide (v1.2.2.1.length+v8.length<=9223372036854775807)=true then
             some (v1.1,(),v1.2.2.1++v8,v1.2.2.2.1,1,v1.2.2.2.2.1,())
            else none).bind
         fun
          (v9 :
           B8×
            Unit×
             B8×
              Int×
               Int×
                (Int×
                  B8×
                   Int×Int×Int×Int×B8×Int×Int×Int×B8×B8×B8×B8×Unit) ×
                 Unit) =>
         some (Sum.inl (v9.1,(),v9.2.2.1,IntKind.i64.wrap (v9.2.2.2.1+v9.2.2.2.2.1),v9.2.2.2.2.2.1,()))
      else some (Sum.inr (v1.2.2.1,()))
def dQ (F:Nat) (v12:(B8×List Int×Int×Unit)):Option ((B8×List Int×Int×Unit) ⊕ (B8×Unit)):=if decide (v12.2.2.1<(↑v12.2.1.length:Int))=true then (idx v12.2.1 v12.2.2.1).bind fun (v13:Int)=>(bX F v13).bind fun (v14:Int)=>(if (!decide (v14=0))=true then (idx v12.2.1 v12.2.2.1).bind fun (v15:Int)=>(aQ F v15).bind fun (v16:B8)=>some (v12.1,v12.2.1,v12.2.2.1,v16,()) else some (v12.1,v12.2.1,v12.2.2.1,[63],())).bind fun (v17:B8×List Int×Int×B8×Unit)=>if decide (40<IntKind.i64.wrap ((↑v17.1.length:Int)+(↑v17.2.2.2.1.length:Int)))=true then some (Sum.inr (v17.1,())) else if decide (v17.1.length+v17.2.2.2.1.length<=9223372036854775807)=true then some (Sum.inl (v17.1++v17.2.2.2.1,v17.2.1,IntKind.i64.wrap (v17.2.2.1+1),())) else none else some (Sum.inr (v12.1,()))
def gF (F:Nat) (x:B8×acE):Option B8:=(eN F x.1).bind fun (v0:Bool)=>if (!v0)=true then some [] else (bf (cG F) F (x.1,(),[],0,x.2,())).bind fun (v10:B8×Unit)=>(bM F v10.1).bind fun (v11:List Int×List Int)=>(bf (dQ F) F ([],v11.1,0,())).bind fun (v18:B8×Unit)=>some v18.1
theorem sx (F:Nat):Ctr TT Tryz.prog 73 (ai TT sC (gF F)) :=
 ar F (code:=aj 73) Tryz.func73 (af (af (af (af (af (af ah (kX F)) (mE F)) (rY F)) (eJ F)) (fm F)) (kW F)) fun x=>by kernel_rfl
end Go.Vm
