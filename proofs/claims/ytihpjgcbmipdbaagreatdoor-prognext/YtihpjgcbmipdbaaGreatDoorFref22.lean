/- Models of functions of the program, and that each keeps its contract: for all arguments of its shape. No condition. -/
import Derived.Test.YtihpjgcbmipdbaaGreatDoorKt
import Derived.Test.YtihpjgcbmipdbaaGreatDoorFr9v
import Derived.Test.YtihpjgcbmipdbaaGreatDoorFref4
namespace Go.Vm
open Go.Proofs
set_option linter.unusedVariables false
noncomputable def oi:Spec Kd:={ params := [(.a .str)],ret:=(.one (.a .bool)),pins := [],pl:={ nt:=41,loops := [(0,⟨[.tmp 0 (.a .str), .tmp 3 (.a (.int .i64))],[],[]⟩,(.exit 0,⟨[.tmp 0 (.a .str)],[],[]⟩),[(.ret,⟨[.tmp 2 (.a .bool)],[],[]⟩)])],cuts := [(6,[(8,⟨[.tmp 40 (.a .bool)],[],[]⟩)]),(4,[(10,⟨[.tmp 0 (.a .str), .tmp 3 (.a (.int .i64)), .tmp 19 (.a .bool)],[],[]⟩),(12,⟨[.tmp 0 (.a .str), .tmp 3 (.a (.int .i64)), .tmp 31 (.a .bool)],[],[]⟩)])] },rfrz := [],ts := [2] }
noncomputable def cR (F:Nat) (v0:(B8×Int×Unit)):Option ((B8×Int×Unit) ⊕ (B8×Unit ⊕ Bool×Unit)):=if decide (v0.2.1<(↑v0.1.length:Int))=true then ((idx v0.1 v0.2.1).bind fun v1=>if decide (97≤(↑v1.toNat:Int))=true then (idx v0.1 v0.2.1).bind fun v2=>some (v0.1,v0.2.1,decide ((↑v2.toNat:Int)≤122),()) else some (v0.1,v0.2.1,false,())).bind fun v3=>(if v3.2.2.1=false then (idx v3.1 v3.2.1).bind fun v4=>if decide (48≤(↑v4.toNat:Int))=true then (idx v3.1 v3.2.1).bind fun v5=>some (v3.1,v3.2.1,decide ((↑v5.toNat:Int)≤57),()) else some (v3.1,v3.2.1,false,()) else some (v3.1,v3.2.1,true,())).bind fun v6=>if (!v6.2.2.1)=true then some (Sum.inr (Sum.inr (false,()))) else some (Sum.inl (v6.1,IntKind.i64.wrap (v6.2.1+1),())) else some (Sum.inr (Sum.inl (v0.1,())))
noncomputable def cQ (F:Nat) (x:B8):Option (Bool):=(bh (cR F) F (x,0,())).bind fun v7=>fc v7 (fun v8=>(if decide (1≤(↑v8.1.length:Int))=true then some (decide ((↑v8.1.length:Int)≤12),()) else some (false,())).bind fun v9=>some v9.1) fun v10=>some v10.1
theorem jF (F:Nat):Ctr TT Tryz.prog 138 (ai TT oi (cQ F)) :=
 aC F (code:=aq 138) Tryz.func138 al fun x=>by kernel_rfl
noncomputable def pw:Spec Kd:={ params := [(.a .str)],ret:=(.one (.a (.int .i64))),pins := [],pl:={ nt:=58,loops := [(0,⟨[.tmp 0 (.a .str), .tmp 3 (.a (.int .i64))],[],[]⟩,(.exit 0,⟨[.tmp 0 (.a .str), .tmp 3 (.a (.int .i64))],[],[]⟩),[])],cuts := [(10,[(11,⟨[.tmp 3 (.a (.int .i64)), .tmp 55 (.a .bool)],[],[]⟩)]),(8,[(10,⟨[.tmp 0 (.a .str), .tmp 3 (.a (.int .i64)), .tmp 42 (.a .bool)],[],[]⟩)]),(3,[(8,⟨[.tmp 0 (.a .str), .tmp 14 (.a .bool)],[],[]⟩),(5,⟨[.tmp 0 (.a .str), .tmp 19 (.a .bool)],[],[]⟩),(5,⟨[.tmp 0 (.a .str), .tmp 24 (.a .bool)],[],[]⟩),(5,⟨[.tmp 0 (.a .str), .tmp 29 (.a .bool)],[],[]⟩)])] },rfrz := [],ts := [2] }
noncomputable def dr (F:Nat) (v10:(B8×Int×Unit)):Option ((B8×Int×Unit) ⊕ (B8×Int×Unit)):=(if decide (v10.2.1<(↑v10.1.length:Int))=true then (idx v10.1 v10.2.1).bind fun v11=>some (v10.1,v10.2.1, !decide ((↑v11.toNat:Int)=125),()) else some (v10.1,v10.2.1,false,())).bind fun v12=>if v12.2.2.1=true then some (Sum.inl (v12.1,IntKind.i64.wrap (v12.2.1+1),())) else some (Sum.inr (v12.1,v12.2.1,()))
noncomputable def dZ (F:Nat) (x:B8):Option (Int):=if decide ((↑x.length:Int)<2)=true then some 0 else ((idx x 1).bind fun v0=>if decide ((↑v0.toNat:Int)=37)=false then (idx x 1).bind fun v1=>some (x,decide ((↑v1.toNat:Int)=98),()) else some (x,true,())).bind fun v2=>(if v2.2.1=false then (idx v2.1 1).bind fun v3=>some (v2.1,decide ((↑v3.toNat:Int)=107),()) else some (v2.1,true,())).bind fun v4=>(if v4.2.1=false then (idx v4.1 1).bind fun v5=>some (v4.1,decide ((↑v5.toNat:Int)=109),()) else some (v4.1,true,())).bind fun v6=>(if v6.2.1=false then (idx v6.1 1).bind fun v7=>some (v6.1,decide ((↑v7.toNat:Int)=112),()) else some (v6.1,true,())).bind fun v8=>if v8.2.1=true then some 2 else (idx v8.1 1).bind fun v9=>if (!decide ((↑v9.toNat:Int)=123))=true then some 0 else (bh (dr F) F (v8.1,2,())).bind fun v13=>(if decide (v13.2.1=(↑v13.1.length:Int))=false then (sub v13.1 2 v13.2.1).bind fun v14=>(cQ F v14).bind fun v15=>some (v13.2.1, !v15,()) else some (v13.2.1,true,())).bind fun v16=>if v16.2.1=true then some 0 else some (IntKind.i64.wrap (v16.1+1))
theorem ko (F:Nat):Ctr TT Tryz.prog 135 (ai TT pw (dZ F)) :=
 aC F (code:=aq 135) Tryz.func135 (ag al (jF F)) fun x=>by kernel_rfl
noncomputable def nP:Spec Kd:={ params := [(.a .str)],ret:=(.one (.a .bool)),pins := [],pl:={ nt:=47,loops := [(2,⟨[.tmp 0 (.a .str), .tmp 6 (.a (.int .i64))],[641,642],[]⟩,(.exit 2,⟨[.tmp 0 (.a .str)],[641,642],[]⟩),[(.ret,⟨[.tmp 2 (.a .bool)],[641,642],[]⟩)]),(0,⟨[.tmp 0 (.a .str), .tmp 3 (.a (.slc .i64)), .tmp 5 (.a (.int .i64))],[641,642],[]⟩,(.exit 0,⟨[.tmp 0 (.a .str)],[641,642],[]⟩),[(.ret,⟨[.tmp 2 (.a .bool)],[641,642],[]⟩)])] },rfrz := [],ts := [2] }
noncomputable def cE (F:Nat) (v1:(B8×List Int×Int×Unit)):Option ((B8×List Int×Int×Unit) ⊕ (B8×Unit ⊕ Bool×Unit)):=if decide (v1.2.2.1<(↑v1.2.1.length:Int))=true then (idx v1.2.1 v1.2.2.1).bind fun v2=>(cP F v2).bind fun v3=>if decide (v3=0)=true then some (Sum.inr (Sum.inr (false,()))) else some (Sum.inl (v1.1,v1.2.1,IntKind.i64.wrap (v1.2.2.1+1),())) else some (Sum.inr (Sum.inl (v1.1,())))
noncomputable def bm (F:Nat) (v6:(B8×Int×Unit)):Option ((B8×Int×Unit) ⊕ (B8×Unit ⊕ Bool×Unit)):=if decide (v6.2.1<(↑v6.1.length:Int))=true then (idx v6.1 v6.2.1).bind fun v7=>if (!decide ((↑v7.toNat:Int)=37))=true then some (Sum.inl (v6.1,IntKind.i64.wrap (v6.2.1+1),())) else (sub v6.1 v6.2.1 (↑v6.1.length:Int)).bind fun v8=>(dZ F v8).bind fun v9=>if decide (v9=0)=true then some (Sum.inr (Sum.inr (false,()))) else some (Sum.inl (v6.1,IntKind.i64.wrap (v6.2.1+v9),())) else some (Sum.inr (Sum.inl (v6.1,())))
noncomputable def dD (F:Nat) (x:B8):Option (Bool):=(cB F x).bind fun v0=>(bh (cE F) F (x,v0.1,0,())).bind fun v4=>fc v4 (fun v5=>(bh (bm F) F (v5.1,0,())).bind fun v10=>fc v10 (fun v11=>some (decide ((↑v11.1.length:Int)≤60))) fun v12=>some v12.1) fun v13=>some v13.1
theorem jA (F:Nat):Ctr TT Tryz.prog 134 (ai TT nP (dD F)) :=
 aC F (code:=aq 134) Tryz.func134 (ag (ag (ag al (fM F)) (gn F)) (ko F)) fun x=>by kernel_rfl
noncomputable def nW:Spec Kd:={ params := [(.a .str),(.agg [(.int .i64), .str,(.int .i64),(.int .i64),(.int .i64),(.int .i64), .str,(.int .i64),(.int .i64),(.int .i64), .str, .str, .str, .str])],ret:=(.one (.a .str)),pins := [],pl:={ nt:=71,loops := [(0,⟨[.tmp 0 (.a .str), .tmp 5 (.a (.ptr 320 0)), .tmp 7 (.a (.int .i64)), .box 320 (.cells 102 [(.int .i64), .str, .str,(.int .i64),(.slc .str),(.slc .str)])],[],[.cellSlc 320 4 .str, .cellSlc 320 5 .str]⟩,(.exit 0,⟨[],[],[]⟩),[(.ret,⟨[.tmp 4 (.a .str)],[],[]⟩)])],cuts := [(16,[(12,⟨[.tmp 5 (.a (.ptr 320 0)), .tmp 7 (.a (.int .i64)), .tmp 8 (.a (.ptr 512 0)), .box 320 (.cells 102 [(.int .i64), .str, .str,(.int .i64),(.slc .str),(.slc .str)]), .box 512 (.cells 102 [(.int .i64), .str, .str,(.int .i64),(.slc .str),(.slc .str)])],[],[.cellSlc 320 4 .str, .cellSlc 320 5 .str, .cellSlc 512 4 .str, .cellSlc 512 5 .str]⟩)])],ends := [(15,⟨[.tmp 0 (.a .str), .tmp 5 (.a (.ptr 320 0)), .tmp 7 (.a (.int .i64)), .tmp 51 (.a .bool), .box 320 (.cells 102 [(.int .i64), .str, .str,(.int .i64),(.slc .str),(.slc .str)])],[],[.cellSlc 320 4 .str, .cellSlc 320 5 .str]⟩)] },rfrz := [],ts := [4] }
noncomputable def cD (F:Nat) (v1:(B8×Unit×Int×(Int×B8×B8×Int×List B8×List B8×Unit)×Unit)):Option ((B8×Unit×Int×(Int×B8×B8×Int×List B8×List B8×Unit)×Unit) ⊕ (Unit ⊕ B8×Unit)):=if decide (v1.2.2.1<(↑v1.2.2.2.1.2.2.2.2.1.length:Int))=true then ((idx v1.2.2.2.1.2.2.2.2.1 v1.2.2.1).bind fun (v2:B8)=>(sub v1.1 2 (IntKind.i64.wrap ((↑v1.1.length:Int) - 1))).bind fun (v3:B8)=>some (v1.1,(),v1.2.2.1,decide (v2=v3),v1.2.2.2.1,())).bind fun (v4:B8×Unit×Int×Bool×(Int×B8×B8×Int×List B8×List B8×Unit)×Unit)=>if v4.2.2.2.1=true then ((idx v4.2.2.2.2.1.2.2.2.2.2.1 v4.2.2.1).bind fun (v5:B8)=>(cM F v5).bind fun (v6:(Int×B8×B8×Int×List B8×List B8×Unit)×Int)=>some ((),v4.2.2.1,(),v4.2.2.2.2.1,v6.1,())).bind fun (v7:Unit×Int×Unit×(Int×B8×B8×Int×List B8×List B8×Unit)×(Int×B8×B8×Int×List B8×List B8×Unit)×Unit)=>if decide (v7.2.2.2.2.1.1=4)=true then some (Sum.inr (Sum.inr (v7.2.2.2.2.1.2.2.1,()))) else (idx v7.2.2.2.1.2.2.2.2.2.1 v7.2.1).bind fun (v8:B8)=>some (Sum.inr (Sum.inr (v8,()))) else some (Sum.inl (v4.1,(),IntKind.i64.wrap (v4.2.2.1+1),v4.2.2.2.2.1,())) else some (Sum.inr (Sum.inl ()))
noncomputable def eE (F:Nat) (x:B8×((Int)×B8×(Int)×(Int)×(Int)×(Int)×B8×(Int)×(Int)×(Int)×B8×B8×B8×B8×Unit)):Option B8:=if decide (x.1 = [37,98])=true then some x.2.2.2.2.2.2.2.2.2.2.2.2.2.2.1 else if decide (x.1 = [37,107])=true then some x.2.2.1 else if decide (x.1 = [37,109])=true then some x.2.2.2.2.2.2.2.2.2.2.2.2.1 else if decide (x.1 = [37,112])=true then some x.2.2.2.2.2.2.2.2.2.2.2.2.2.1 else if decide (x.1 = [37,37])=true then some [37] else (cM F x.2.2.2.2.2.2.2.2.2.2.2.2.2.2.1).bind fun (v0:(Int×B8×B8×Int×List B8×List B8×Unit)×Int)=>(bh (cD F) F (x.1,(),0,v0.1,())).bind fun (v9:Unit ⊕ B8×Unit)=>fc v9 (fun (v10:Unit)=>some []) fun (v11:B8×Unit)=>some v11.1
theorem mV (F:Nat):Ctr TT Tryz.prog 136 (ai TT nW (eE F)) :=
 aC F (code:=aq 136) Tryz.func136 (ag al (kJ F)) fun x=>by kernel_rfl
noncomputable def om:Spec Kd:={ params := [(.a .str),(.agg [(.int .i64), .str,(.int .i64),(.int .i64),(.int .i64),(.int .i64), .str,(.int .i64),(.int .i64),(.int .i64), .str, .str, .str, .str])],ret:=(.one (.a .str)),pins := [],pl:={ nt:=80,joins := [(2000064,(.norm,⟨[.tmp 8 (.a .str), .tmp 9 (.a (.slc .i64)), .tmp 11 (.a (.int .i64)), .tmp 12 (.a .str)],[3201,3202],[]⟩),[]),(900023,(.norm,⟨[.tmp 0 (.a .str), .tmp 3 (.a (.ptr 192 0)), .tmp 5 (.a .str), .tmp 6 (.a (.int .i64)), .tmp 7 (.a (.int .i64)), .box 192 (.cells 35 [(.int .i64), .str,(.int .i64),(.int .i64),(.int .i64),(.int .i64), .str,(.int .i64),(.int .i64),(.int .i64), .str, .str, .str, .str])],[3201,3202],[]⟩),[])],loops := [(2,⟨[.tmp 8 (.a .str), .tmp 9 (.a (.slc .i64)), .tmp 11 (.a (.int .i64))],[3201,3202],[]⟩,(.exit 2,⟨[.tmp 8 (.a .str)],[3201,3202],[]⟩),[]),(0,⟨[.tmp 0 (.a .str), .tmp 3 (.a (.ptr 192 0)), .tmp 5 (.a .str), .tmp 6 (.a (.int .i64)), .box 192 (.cells 35 [(.int .i64), .str,(.int .i64),(.int .i64),(.int .i64),(.int .i64), .str,(.int .i64),(.int .i64),(.int .i64), .str, .str, .str, .str])],[3201,3202],[]⟩,(.exit 0,⟨[.tmp 5 (.a .str)],[3201,3202],[]⟩),[])],ends := [(9,⟨[.tmp 0 (.a .str), .tmp 3 (.a (.ptr 192 0)), .tmp 5 (.a .str), .tmp 6 (.a (.int .i64)), .tmp 7 (.a (.int .i64)), .box 192 (.cells 35 [(.int .i64), .str,(.int .i64),(.int .i64),(.int .i64),(.int .i64), .str,(.int .i64),(.int .i64),(.int .i64), .str, .str, .str, .str])],[3201,3202],[]⟩)] },rfrz := [],ts := [4] }
noncomputable def bV (F:Nat) (v1:(B8 ×
      Unit ×
       B8 ×
        Int ×
         (Int×B8×Int×Int×Int×Int×B8×Int×Int×Int×B8×B8×B8×B8×Unit)×Unit)):Option ((B8 ×
      Unit ×
       B8 ×
        Int ×
         (Int×B8×Int×Int×Int×Int×B8×Int×Int×Int×B8×B8×B8×B8×Unit)×Unit) ⊕ (B8×Unit)) :=
 if decide (v1.2.2.2.1<(↑v1.1.length:Int))=true then
       (idx v1.1 v1.2.2.2.1).bind fun (v2:UInt8) =>
        (if decide ((↑v2.toNat:Int)=37)=true then
           (sub v1.1 v1.2.2.2.1 (↑v1.1.length:Int)).bind fun (v3:B8) =>
            (dZ F v3).bind fun (v4:Int) =>
             ((sub v1.1 v1.2.2.2.1 (IntKind.i64.wrap (v1.2.2.2.1+v4))).bind fun (v5:B8) =>
                (eE F (v5,v1.2.2.2.2.1)).bind fun (v6:B8) =>
                 if decide (v1.2.2.1.length+v6.length≤9223372036854775807)=true then
                  some (v1.1,(),v1.2.2.1 ++ v6,v1.2.2.2.1,v4,v1.2.2.2.2.1,())
                 else none).bind
              fun
               (v7 :
                B8 ×
                 Unit ×
                  B8 ×
                   Int ×
                    Int ×
                     (Int ×
                       B8 ×
                        Int ×
                         Int×Int×Int×B8×Int×Int×Int×B8×B8×B8×B8×Unit) ×
                      Unit) =>
              some v7
          else
           (sub v1.1 v1.2.2.2.1 (IntKind.i64.wrap (v1.2.2.2.1+1))).bind fun (v8:B8) =>
            if decide (v1.2.2.1.length+v8.length≤9223372036854775807)=true then
             some (v1.1,(),v1.2.2.1 ++ v8,v1.2.2.2.1,1,v1.2.2.2.2.1,())
            else none).bind
         fun
          (v9 :
           B8 ×
            Unit ×
             B8 ×
              Int ×
               Int ×
                (Int ×
                  B8 ×
                   Int×Int×Int×Int×B8×Int×Int×Int×B8×B8×B8×B8×Unit) ×
                 Unit) =>
         some (Sum.inl (v9.1,(),v9.2.2.1,IntKind.i64.wrap (v9.2.2.2.1+v9.2.2.2.2.1),v9.2.2.2.2.2.1,()))
      else some (Sum.inr (v1.2.2.1,()))
noncomputable def cV (F:Nat) (v12:(B8×List Int×Int×Unit)):Option ((B8×List Int×Int×Unit) ⊕ (B8×Unit)):=if decide (v12.2.2.1<(↑v12.2.1.length:Int))=true then (idx v12.2.1 v12.2.2.1).bind fun (v13:Int)=>(cP F v13).bind fun (v14:Int)=>(if (!decide (v14=0))=true then (idx v12.2.1 v12.2.2.1).bind fun (v15:Int)=>(aJ F v15).bind fun (v16:B8)=>some (v12.1,v12.2.1,v12.2.2.1,v16,()) else some (v12.1,v12.2.1,v12.2.2.1,[63],())).bind fun (v17:B8×List Int×Int×B8×Unit)=>if decide (40<IntKind.i64.wrap ((↑v17.1.length:Int)+(↑v17.2.2.2.1.length:Int)))=true then some (Sum.inr (v17.1,())) else if decide (v17.1.length+v17.2.2.2.1.length≤9223372036854775807)=true then some (Sum.inl (v17.1 ++ v17.2.2.2.1,v17.2.1,IntKind.i64.wrap (v17.2.2.1+1),())) else none else some (Sum.inr (v12.1,()))
noncomputable def eY (F:Nat) (x:B8×((Int)×B8×(Int)×(Int)×(Int)×(Int)×B8×(Int)×(Int)×(Int)×B8×B8×B8×B8×Unit)):Option B8:=(dD F x.1).bind fun (v0:Bool)=>if (!v0)=true then some [] else (bh (bV F) F (x.1,(),[],0,x.2,())).bind fun (v10:B8×Unit)=>(cB F v10.1).bind fun (v11:List Int×List Int)=>(bh (cV F) F ([],v11.1,0,())).bind fun (v18:B8×Unit)=>some v18.1
theorem ox (F:Nat):Ctr TT Tryz.prog 73 (ai TT om (eY F)) :=
 aC F (code:=aq 73) Tryz.func73 (ag (ag (ag (ag (ag (ag al (jA F)) (ko F)) (mV F)) (fM F)) (gn F)) (jc F)) fun x=>by kernel_rfl
end Go.Vm
