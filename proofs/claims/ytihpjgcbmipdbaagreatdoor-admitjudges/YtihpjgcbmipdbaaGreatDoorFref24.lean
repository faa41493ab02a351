import Derived.Test.YtihpjgcbmipdbaaGreatDoorFref23
import Derived.Test.YtihpjgcbmipdbaaGreatDoorFref5
set_option linter.unusedVariables false
namespace Go.Vm
open Go.Proofs
noncomputable def qw:Spec Kd:={ params := [(.a .str)],ret:=(.one (.a (.row 9 .str))),pins := [],pl:={ nt:=35,orc:={ rv := [2,3,8,25,31,34],gv := [] },bjoins := [(1,(.norm,⟨[.tmp 0 (.a .str), .tmp 3 (.a (.rowp 192)), .tmp 4 (.a abm), .tmp 5 (.a abm), .box 192 (.row 9 .str)],[],[.tmpRow 3 192 9 .str]⟩),[])],loops := [(0,⟨[.tmp 0 (.a .str), .tmp 3 (.a (.rowp 192)), .tmp 4 (.a abm), .tmp 5 (.a abm), .box 192 (.row 9 .str)],[],[.tmpRow 3 192 9 .str]⟩,(.exit 0,⟨[.tmp 3 (.a (.rowp 192)), .box 192 (.row 9 .str)],[],[.tmpRow 3 192 9 .str]⟩),[])],cuts := [(8,[(10,⟨[.tmp 0 (.a .str), .tmp 3 (.a (.rowp 192)), .tmp 4 (.a abm), .tmp 5 (.a abm), .tmp 24 (.a .bool), .box 192 (.row 9 .str)],[],[.tmpRow 3 192 9 .str]⟩)])] },rfrz := [],ts := [2] }
noncomputable def b8 (F:Nat) (v0: abh):Option (abh ⊕ (Unit×List B8×Unit)):=if decide (v0.2.2.2.1≤(↑v0.1.length:Int))=true then ((if decide (v0.2.2.2.1=(↑v0.1.length:Int))=false then (idx v0.1 v0.2.2.2.1).bind fun v1=>some (v0.1,(),v0.2.2.1,v0.2.2.2.1,decide ((↑v1.toNat:Int)=47),v0.2.2.2.2.1,()) else some (v0.1,(),v0.2.2.1,v0.2.2.2.1,true,v0.2.2.2.2.1,())).bind fun v2=>if v2.2.2.2.2.1=true then (sub v2.1 v2.2.2.1 v2.2.2.2.1).bind fun v3=>if decide ((v2.2.2.2.2.2.1.length + [v3].length) * 16≤140737488355328)=true then some (v2.1,(),IntKind.i64.wrap (v2.2.2.2.1+1),v2.2.2.2.1,v2.2.2.2.2.2.1 ++ [v3],()) else none else some (v2.1,(),v2.2.2.1,v2.2.2.2.1,v2.2.2.2.2.2.1,())).bind fun v4=>some (Sum.inl (v4.1,(),v4.2.2.1,IntKind.i64.wrap (v4.2.2.2.1+1),v4.2.2.2.2.1,())) else some (Sum.inr ((),v0.2.2.2.2.1,()))
noncomputable def cW (F:Nat) (x:B8):Option (List (El .str)):=if decide (x = [47])=true then some [] else (aV (b8 F) F (x,(),1,1,[],())).bind fun v5=>some v5.2.1
theorem kU (F:Nat):Ctr TT Tryz.prog 179 (ah TT qw (cW F)) :=
 ay F (code:=ao 179) Tryz.func179 ai fun x=>by kernel_rfl
noncomputable def rA:Spec Kd:={ params := [(.a .str)],ret:=(.one (.a .bool)),pins := [],pl:={ nt:=16,cuts := [(2,[(6,⟨[.tmp 15 (.a .bool)],[],[]⟩)])] },rfrz := [],ts := [2] }
noncomputable def eQ (F:Nat) (x:B8):Option (Bool):=(eN F x).bind fun v0=>(if v0.2=true then some (decide (v0.1=x),()) else some (false,())).bind fun v1=>some v1.1
theorem lh (F:Nat):Ctr TT Tryz.prog 178 (ah TT rA (eQ F)) :=
 ay F (code:=ao 178) Tryz.func178 (ag ai (lf F)) fun x=>by kernel_rfl
noncomputable def oO:Spec Kd:={ params := [(.a .str)],ret:=(.one (.a .bool)),pins := [],pl:={ nt:=59,bjoins := [(1,(.norm,⟨[.tmp 3 (.a (.slc .str)), .tmp 4 (.a abm)],[1216],[]⟩),[(.ret,⟨[.tmp 2 (.a .bool)],[1216],[]⟩)])],loops := [(0,⟨[.tmp 3 (.a (.slc .str)), .tmp 4 (.a abm)],[1216],[]⟩,(.exit 0,⟨[],[1216],[]⟩),[(.ret,⟨[.tmp 2 (.a .bool)],[1216],[]⟩)])],cuts := [(8,[(14,⟨[.tmp 3 (.a (.slc .str)), .tmp 4 (.a abm), .tmp 58 (.a .bool)],[1216],[]⟩)]),(7,[(19,⟨[.tmp 3 (.a (.slc .str)), .tmp 4 (.a abm), .tmp 44 (.a .bool)],[1216],[]⟩)]),(1,[(8,⟨[.tmp 0 (.a .str), .tmp 12 (.a .bool)],[1216],[]⟩),(5,⟨[.tmp 0 (.a .str), .tmp 17 (.a .bool)],[1216],[]⟩)])] },rfrz := [],ts := [2] }
noncomputable def cD (F:Nat) (v4:(List B8×Int×Unit)):Option ((List B8×Int×Unit) ⊕ abg):=if decide (v4.2.1<(↑v4.1.length:Int))=true then (((idx v4.1 v4.2.1).bind fun v5=>if decide (v5 = [42])=false then (idx v4.1 v4.2.1).bind fun v6=>if decide (v6 = [42,42])=true then some (v4.1,v4.2.1,decide (v4.2.1=IntKind.i64.wrap ((↑v4.1.length:Int) - 1)),()) else some (v4.1,v4.2.1,false,()) else some (v4.1,v4.2.1,true,())).bind fun v7=>if v7.2.2.1=true then some (Sum.inl (v7.1,v7.2.1,())) else ((idx v7.1 v7.2.1).bind fun v8=>if decide (v8 = [])=false then (idx v7.1 v7.2.1).bind fun v9=>if decide ([47].length+v9.length≤9223372036854775807)=true then (eQ F ([47] ++ v9)).bind fun v10=>some (v7.1,v7.2.1, !v10,()) else none else some (v7.1,v7.2.1,true,())).bind fun v11=>if v11.2.2.1=true then some (Sum.inr (false,())) else some (Sum.inl (v11.1,v11.2.1,()))).bind fun v12=>cg v12 (fun v13=>some (Sum.inl (v13.1,IntKind.i64.wrap (v13.2.1+1),()))) fun v14=>some (Sum.inr (Sum.inr (v14.1,()))) else some (Sum.inr (Sum.inl ()))
noncomputable def dM (F:Nat) (x:B8):Option (Bool):=(if decide ((↑x.length:Int)<1)=false then some (x,decide (60<(↑x.length:Int)),()) else some (x,true,())).bind fun v0=>(if v0.2.1=false then (idx v0.1 0).bind fun v1=>some (v0.1, !decide ((↑v1.toNat:Int)=47),()) else some (v0.1,true,())).bind fun v2=>if v2.2.1=true then some false else (cW F v2.1).bind fun v3=>(aV (cD F) F (v3,0,())).bind fun v15=>cg v15 (fun v16=>some true) fun v17=>some v17.1
theorem jT (F:Nat):Ctr TT Tryz.prog 177 (ah TT oO (dM F)) :=
 ay F (code:=ao 177) Tryz.func177 (ag (ag ai (kU F)) (lh F)) fun x=>by kernel_rfl
noncomputable def rB:Spec Kd:={ params := [(.a .str),(.a .str)],ret:=(.one (.a .bool)),pins := [],pl:={ nt:=62,loops := [(0,⟨[.tmp 5 (.a (.slc .str)), .tmp 6 (.a (.slc .str)), .tmp 7 (.a abm)],[1088,1216],[]⟩,(.exit 0,⟨[.tmp 5 (.a (.slc .str)), .tmp 6 (.a (.slc .str))],[1088,1216],[]⟩),[(.ret,⟨[.tmp 4 (.a .bool)],[1088,1216],[]⟩)])],cuts := [(1,[(8,⟨[.tmp 0 (.a .str), .tmp 1 (.a .str), .tmp 15 (.a .bool)],[1088,1216],[]⟩)])],ends := [(10,⟨[.tmp 5 (.a (.slc .str)), .tmp 6 (.a (.slc .str)), .tmp 7 (.a abm), .tmp 56 (.a .bool)],[1088,1216],[]⟩)] },rfrz := [],ts := [4] }
noncomputable def bH (F:Nat) (v5:(List B8×List B8×Int×Unit)):Option ((List B8×List B8×Int×Unit) ⊕ (List B8×List B8×Unit ⊕ Bool×Unit)):=if decide (v5.2.2.1<(↑v5.1.length:Int))=true then (idx v5.1 v5.2.2.1).bind fun v6=>if decide (v6 = [42,42])=true then some (Sum.inr (Sum.inr (decide (v5.2.2.1<(↑v5.2.1.length:Int)),()))) else (if decide ((↑v5.2.1.length:Int)≤v5.2.2.1)=false then (idx v5.1 v5.2.2.1).bind fun v7=>if (!decide (v7 = [42]))=true then (idx v5.1 v5.2.2.1).bind fun v8=>(idx v5.2.1 v5.2.2.1).bind fun v9=>some (v5.1,v5.2.1,v5.2.2.1, !decide (v8=v9),()) else some (v5.1,v5.2.1,v5.2.2.1,false,()) else some (v5.1,v5.2.1,v5.2.2.1,true,())).bind fun v10=>if v10.2.2.2.1=true then some (Sum.inr (Sum.inr (false,()))) else some (Sum.inl (v10.1,v10.2.1,IntKind.i64.wrap (v10.2.2.1+1),())) else some (Sum.inr (Sum.inl (v5.1,v5.2.1,())))
noncomputable def gq (F:Nat) (x:B8×B8):Option (Bool):=((dM F x.1).bind fun v0=>if (!v0)=false then (eQ F x.2).bind fun v1=>some (x.1,x.2, !v1,()) else some (x.1,x.2,true,())).bind fun v2=>if v2.2.2.1=true then some false else (cW F v2.1).bind fun v3=>(cW F v2.2.1).bind fun v4=>(aV (bH F) F (v3,v4,0,())).bind fun v11=>cg v11 (fun v12=>some (decide ((↑v12.1.length:Int)=(↑v12.2.1.length:Int)))) fun v13=>some v13.1
theorem rV (F:Nat):Ctr TT Tryz.prog 111 (ah TT rB (gq F)) :=
 ay F (code:=ao 111) Tryz.func111 (ag (ag (ag ai (jT F)) (lh F)) (kU F)) fun x=>by kernel_rfl
noncomputable def pF:Spec Kd:={ params := [(.a .str)],ret:=(.one (.a .bool)),pins := [],pl:={ nt:=20,cuts := [(2,[(10,⟨[.tmp 19 (.a .bool)],[],[]⟩)])] },rfrz := [],ts := [2] }
noncomputable def fv (F:Nat) (x:B8):Option (Bool):=(dY F x).bind fun v0=>(if decide (x = [42])=false then if v0.2=true then some (decide (v0.1=x),()) else some (false,()) else some (true,())).bind fun v1=>some v1.1
theorem pD (F:Nat):Ctr TT Tryz.prog 211 (ah TT pF (fv F)) :=
 ay F (code:=ao 211) Tryz.func211 (ag ai (kn F)) fun x=>by kernel_rfl
noncomputable def si:Spec Kd:={ params := [(.a (.slc .rl))],ret:=(.one (.a .bool)),pins := [],pl:={ nt:=43,loops := [(0,⟨[.tmp 0 (.a (.slc .rl)), .tmp 3 (.a abm)],[],[]⟩,(.exit 0,⟨[.tmp 0 (.a (.slc .rl))],[],[]⟩),[(.ret,⟨[.tmp 2 (.a .bool)],[],[]⟩)])],cuts := [(6,[(8,⟨[.tmp 42 (.a .bool)],[],[]⟩)]),(4,[(16,⟨[.tmp 0 (.a (.slc .rl)), .tmp 3 (.a abm), .tmp 25 (.a .bool)],[],[]⟩),(9,⟨[.tmp 0 (.a (.slc .rl)), .tmp 3 (.a abm), .tmp 34 (.a .bool)],[],[]⟩)])] },rfrz := [],ts := [2] }
noncomputable def ed (F:Nat) (v0:(List (B8×B8×List aa8×Unit)×Int×Unit)):Option ((List (B8×B8×List aa8×Unit)×Int×Unit) ⊕ (List (B8×B8×List aa8×Unit)×Unit ⊕ Bool×Unit)):=if decide (v0.2.1<(↑v0.1.length:Int))=true then ((idx v0.1 v0.2.1).bind fun (v1:B8×B8×List aa8×Unit)=>(fv F v1.1).bind fun (v2:Bool)=>if (!v2)=false then (idx v0.1 v0.2.1).bind fun (v3:B8×B8×List aa8×Unit)=>(dM F v3.2.1).bind fun (v4:Bool)=>some (v0.1,v0.2.1, !v4,()) else some (v0.1,v0.2.1,true,())).bind fun (v5:List (B8×B8×List aa8×Unit)×Int×Bool×Unit)=>(if v5.2.2.1=false then (idx v5.1 v5.2.1).bind fun (v6:B8×B8×List aa8×Unit)=>(fq F v6.2.2.1).bind fun (v7:Bool)=>some (v5.1,v5.2.1, !v7,()) else some (v5.1,v5.2.1,true,())).bind fun (v8:List (B8×B8×List aa8×Unit)×Int×Bool×Unit)=>if v8.2.2.1=true then some (Sum.inr (Sum.inr (false,()))) else some (Sum.inl (v8.1,IntKind.i64.wrap (v8.2.1+1),())) else some (Sum.inr (Sum.inl (v0.1,())))
noncomputable def gN (F:Nat) (x:(List (El .rl))):Option (Bool):=(aV (ed F) F (x,0,())).bind fun (v9:List (B8×B8×List aa8×Unit)×Unit ⊕ Bool×Unit)=>cg v9 (fun (v10:List (B8×B8×List aa8×Unit)×Unit)=>(if decide (1≤(↑v10.1.length:Int))=true then some (decide ((↑v10.1.length:Int)≤8),()) else some (false,())).bind fun (v11:Bool×Unit)=>some v11.1) fun (v12:Bool×Unit)=>some v12.1
theorem s4 (F:Nat):Ctr TT Tryz.prog 157 (ah TT si (gN F)) :=
 ay F (code:=ao 157) Tryz.func157 (ag (ag (ag ai (pD F)) (jT F)) (lQ F)) fun x=>by kernel_rfl
noncomputable def pW:Spec Kd:={ params := [(.a (.slc .rl))],ret:=(.one (.a .str)),pins := [],pl:={ nt:=38,joins := [(700012,(.norm,⟨[.tmp 0 (.a (.slc .rl)), .tmp 3 (.a .str), .tmp 4 (.a abm)],[],[]⟩),[])],loops := [(0,⟨[.tmp 0 (.a (.slc .rl)), .tmp 3 (.a .str), .tmp 4 (.a abm)],[],[]⟩,(.exit 0,⟨[.tmp 3 (.a .str)],[],[]⟩),[])] },rfrz := [],ts := [2] }
noncomputable def bZ (F:Nat) (v0:(List (B8×B8×List aa8×Unit)×B8×Int×Unit)):Option ((List (B8×B8×List aa8×Unit)×B8×Int×Unit) ⊕ (B8×Unit)):=if decide (v0.2.2.1<(↑v0.1.length:Int))=true then (if decide (0<v0.2.2.1)=true then if decide (v0.2.1.length + [10].length≤9223372036854775807)=true then some (v0.1,v0.2.1 ++ [10],v0.2.2.1,()) else none else some (v0.1,v0.2.1,v0.2.2.1,())).bind fun (v1:List (B8×B8×List aa8×Unit)×B8×Int×Unit)=>(idx v1.1 v1.2.2.1).bind fun (v2:B8×B8×List aa8×Unit)=>if decide (v1.2.1.length+v2.1.length≤9223372036854775807)=true then if decide ((v1.2.1 ++ v2.1).length + [32].length≤9223372036854775807)=true then (idx v1.1 v1.2.2.1).bind fun (v3:B8×B8×List aa8×Unit)=>if decide ((v1.2.1 ++ v2.1 ++ [32]).length+v3.2.1.length≤9223372036854775807)=true then if decide ((v1.2.1 ++ v2.1 ++ [32] ++ v3.2.1).length + [58,32].length≤9223372036854775807)=true then (idx v1.1 v1.2.2.1).bind fun (v4:B8×B8×List aa8×Unit)=>(cV F v4.2.2.1).bind fun (v5:B8)=>if decide ((v1.2.1 ++ v2.1 ++ [32] ++ v3.2.1 ++ [58,32]).length+v5.length≤9223372036854775807)=true then some (Sum.inl (v1.1,v1.2.1 ++ v2.1 ++ [32] ++ v3.2.1 ++ [58,32] ++ v5,IntKind.i64.wrap (v1.2.2.1+1),())) else none else none else none else none else none else some (Sum.inr (v0.2.1,()))
noncomputable def fQ (F:Nat) (x:(List (El .rl))):Option B8:=(aV (bZ F) F (x,[],0,())).bind fun (v6:B8×Unit)=>some v6.1
theorem qB (F:Nat):Ctr TT Tryz.prog 158 (ah TT pW (fQ F)) :=
 ay F (code:=ao 158) Tryz.func158 (ag ai (k7 F)) fun x=>by kernel_rfl
noncomputable def rI:Spec Kd:={ params := [(.a .str),(.a (.int .u8))],ret:=(.tup [(.a .str),(.a .str),(.a .bool)]),pins := [],pl:={ nt:=27,loops := [(0,⟨[.tmp 0 (.a .str), .tmp 1 (.a (.int .u8)), .tmp 7 (.a abm)],[],[]⟩,(.exit 0,⟨[.tmp 0 (.a .str)],[],[]⟩),[(.ret,⟨[.tmp 4 (.a .str), .tmp 5 (.a .str), .tmp 6 (.a .bool)],[],[]⟩)])],ends := [(5,⟨[.tmp 4 (.a .str), .tmp 5 (.a .str), .tmp 6 (.a .bool)],[],[]⟩)] },rfrz := [],ts := [4,5,6] }
noncomputable def bF (F:Nat) (v0: abk):Option (abk ⊕ (B8×Unit ⊕ B8×B8×Bool×Unit)):=if decide (v0.2.2.1<(↑v0.1.length:Int))=true then (idx v0.1 v0.2.2.1).bind fun v1=>if decide ((↑v1.toNat:Int)=v0.2.1)=true then ((sub v0.1 0 v0.2.2.1).bind fun v2=>(sub v0.1 (IntKind.i64.wrap (v0.2.2.1+1)) (↑v0.1.length:Int)).bind fun v3=>some (v2,v3,true,())).bind fun v4=>some (Sum.inr (Sum.inr (v4.1,v4.2.1,v4.2.2.1,()))) else some (Sum.inl (v0.1,v0.2.1,IntKind.i64.wrap (v0.2.2.1+1),())) else some (Sum.inr (Sum.inl (v0.1,())))
noncomputable def dE (F:Nat) (x:B8×Int):Option (B8×B8×Bool):=(aV (bF F) F (x.1,x.2,0,())).bind fun v5=>cg v5 (fun v6=>some (v6.1,[],false)) fun v7=>some (v7.1,v7.2.1,v7.2.2.1)
theorem rQ (F:Nat):Ctr TT Tryz.prog 156 (ah TT rI (dE F)) :=
 ay F (code:=ao 156) Tryz.func156 ai fun x=>by kernel_rfl
noncomputable def qt:Spec Kd:={ params := [(.a .str)],ret:=(.tup [(.a (.row 95 .rl)),(.a .bool)]),pins := [],pl:={ nt:=74,orc:={ rv := [2,4,57,63,73],gv := [] },loops := [(0,⟨[.tmp 0 (.a .str), .tmp 4 (.a (.rowp 256)), .tmp 5 (.a .str), .tmp 6 (.a .bool), .box 256 (.row 95 .rl)],[3329],[.tmpRow 4 256 95 .rl]⟩,(.exit 0,⟨[.tmp 0 (.a .str), .tmp 4 (.a (.rowp 256)), .box 256 (.row 95 .rl)],[3329],[.tmpRow 4 256 95 .rl]⟩),[(.ret,⟨[.tmp 2 (.a (.rowp 128)), .tmp 3 (.a .bool), .box 128 (.row 95 .rl)],[3329],[.tmpRow 2 128 95 .rl]⟩)])],cuts := [(15,[(9,⟨[.tmp 4 (.a (.rowp 256)), .tmp 72 (.a .bool), .box 256 (.row 95 .rl)],[3329],[.tmpRow 4 256 95 .rl]⟩)]),(9,[(6,⟨[.tmp 0 (.a .str), .tmp 4 (.a (.rowp 256)), .tmp 5 (.a .str), .tmp 6 (.a .bool), .tmp 7 (.a .str), .tmp 8 (.a .str), .tmp 10 (.a .str), .tmp 44 (.a .bool), .box 256 (.row 95 .rl)],[3329],[.tmpRow 4 256 95 .rl]⟩),(4,⟨[.tmp 0 (.a .str), .tmp 4 (.a (.rowp 256)), .tmp 5 (.a .str), .tmp 6 (.a .bool), .tmp 7 (.a .str), .tmp 8 (.a .str), .tmp 10 (.a .str), .tmp 48 (.a .bool), .box 256 (.row 95 .rl)],[3329],[.tmpRow 4 256 95 .rl]⟩)]),(4,[(6,⟨[.tmp 0 (.a .str), .tmp 4 (.a (.rowp 256)), .tmp 5 (.a .str), .tmp 20 (.a .bool), .box 256 (.row 95 .rl)],[3329],[.tmpRow 4 256 95 .rl]⟩)])],frz := [(14,[3329])] },rfrz := [],ts := [2,3] }
noncomputable def di (F:Nat) (v0:(B8×Unit×B8×Bool×List (B8×B8×List aa8×Unit)×Unit)):Option ((B8×Unit×B8×Bool×List (B8×B8×List aa8×Unit)×Unit) ⊕ (B8×Unit×List (B8×B8×List aa8×Unit)×Unit ⊕
    Unit×Bool×List (B8×B8×List aa8×Unit)×Unit)) :=
 (if v0.2.2.2.1=true then some (v0.1,(),v0.2.2.1,decide ((↑v0.2.2.2.2.1.length:Int)<9),v0.2.2.2.2.1,())
      else some (v0.1,(),v0.2.2.1,false,v0.2.2.2.2.1,())).bind
     fun
      (v1 :
       B8×Unit×B8×Bool×List (B8×B8×List aa8×Unit)×Unit) =>
     if v1.2.2.2.1=true then
      (dE F (v1.2.2.1,10)).bind fun (v2:B8×B8×Bool) =>
       (dE F (v2.1,32)).bind fun (v3:B8×B8×Bool) =>
        (dE F (v3.2.1,58)).bind fun (v4:B8×B8×Bool) =>
         (if (!v3.2.2)=false then some (v1.1,(),v2.2.1,v2.2.2,v4.2.1,v3.1,v4.1, !v4.2.2,v1.2.2.2.2.1,())
           else some (v1.1,(),v2.2.1,v2.2.2,v4.2.1,v3.1,v4.1,true,v1.2.2.2.2.1,())).bind
          fun
           (v5 :
            B8×
             Unit×
              B8×
               Bool×
                B8×
                 B8×
                  B8×Bool×List (B8×B8×List aa8×Unit)×Unit) =>
          (if v5.2.2.2.2.2.2.2.1=false then
             some
              (v5.1,(),v5.2.2.1,v5.2.2.2.1,v5.2.2.2.2.1,v5.2.2.2.2.2.1,v5.2.2.2.2.2.2.1,decide (v5.2.2.2.2.1 = []),v5.2.2.2.2.2.2.2.2.1,
               ())
            else some (v5.1,(),v5.2.2.1,v5.2.2.2.1,v5.2.2.2.2.1,v5.2.2.2.2.2.1,v5.2.2.2.2.2.2.1,true,v5.2.2.2.2.2.2.2.2.1,())).bind
           fun
            (v6 :
             B8×
              Unit×
               B8×
                Bool×
                 B8×
                  B8×
                   B8×
                    Bool×List (B8×B8×List aa8×Unit)×Unit) =>
           if v6.2.2.2.2.2.2.2.1=true then some (Sum.inr (Sum.inr ((),false,[],())))
           else
            (sub v6.2.2.2.2.1 1 (↑v6.2.2.2.2.1.length:Int)).bind fun (v7:B8) =>
             (eD F v7).bind fun (v8:List aa8×Bool) =>
              if (!v8.2)=true then some (Sum.inr (Sum.inr ((),false,[],())))
              else
               if
                 decide
                   ((v6.2.2.2.2.2.2.2.2.1.length + [(v6.2.2.2.2.2.1,v6.2.2.2.2.2.2.1,v8.1,Unit.unit)].length) * 56≤140737488355328) =
                  true then
                some
                 (Sum.inl (v6.1,(),v6.2.2.1,v6.2.2.2.1,v6.2.2.2.2.2.2.2.2.1 ++ [(v6.2.2.2.2.2.1,v6.2.2.2.2.2.2.1,v8.1,Unit.unit)],()))
               else none
     else some (Sum.inr (Sum.inl (v1.1,(),v1.2.2.2.2.1,())))
noncomputable def ew (F:Nat) (x:B8):Option ((List (El .rl))×Bool):=(aV (di F) F (x,(),x,true,[],())).bind fun (v9:B8×Unit×List (B8×B8×List aa8×Unit)×Unit ⊕ Unit×Bool×List (B8×B8×List aa8×Unit)×Unit)=>cg v9 (fun (v10:B8×Unit×List (B8×B8×List aa8×Unit)×Unit)=>((gN F v10.2.2.1).bind fun (v11:Bool)=>if (!v11)=false then (fQ F v10.2.2.1).bind fun (v12:B8)=>some ((), !decide (v12=v10.1),v10.2.2.1,()) else some ((),true,v10.2.2.1,())).bind fun (v13:Unit×Bool×List (B8×B8×List aa8×Unit)×Unit)=>if v13.2.1=true then some ([],false) else some (v13.2.2.1,true)) fun (v14:Unit×Bool×List (B8×B8×List aa8×Unit)×Unit)=>some (v14.2.2.1,v14.2.1)
theorem pO (F:Nat):Ctr TT Tryz.prog 99 (ah TT qt (ew F)) :=
 ay F (code:=ao 99) Tryz.func99 (ag (ag (ag (ag ai (rQ F)) (pP F)) (s4 F)) (qB F)) fun x=>by kernel_rfl
noncomputable def rM:Spec Kd:={ params := [(.a (.slc .rl)),(.a .str),(.a .str)],ret:=(.one (.a abm)),pins := [],pl:={ nt:=39,loops := [(0,⟨[.tmp 0 (.a (.slc .rl)), .tmp 1 (.a .str), .tmp 2 (.a .str), .tmp 7 (.a abm)],[],[]⟩,(.exit 0,⟨[],[],[]⟩),[(.ret,⟨[.tmp 6 (.a abm)],[],[]⟩)])],cuts := [(4,[(15,⟨[.tmp 0 (.a (.slc .rl)), .tmp 1 (.a .str), .tmp 2 (.a .str), .tmp 7 (.a abm), .tmp 28 (.a .bool)],[],[]⟩),(9,⟨[.tmp 0 (.a (.slc .rl)), .tmp 1 (.a .str), .tmp 2 (.a .str), .tmp 7 (.a abm), .tmp 37 (.a .bool)],[],[]⟩)])] },rfrz := [],ts := [6] }
noncomputable def dK (F:Nat) (v0:(List (B8×B8×List aa8×Unit)×B8×B8×Int×Unit)):Option ((List (B8×B8×List aa8×Unit)×B8×B8×Int×Unit) ⊕ (Unit ⊕ Int×Unit)):=if decide (v0.2.2.2.1<(↑v0.1.length:Int))=true then ((idx v0.1 v0.2.2.2.1).bind fun (v1:B8×B8×List aa8×Unit)=>if decide (v1.1=v0.2.1)=false then (idx v0.1 v0.2.2.2.1).bind fun (v2:B8×B8×List aa8×Unit)=>some (v0.1,v0.2.1,v0.2.2.1,v0.2.2.2.1,decide (v2.1 = [42]),()) else some (v0.1,v0.2.1,v0.2.2.1,v0.2.2.2.1,true,())).bind fun (v3:List (B8×B8×List aa8×Unit)×B8×B8×Int×Bool×Unit)=>(if v3.2.2.2.2.1=true then (idx v3.1 v3.2.2.2.1).bind fun (v4:B8×B8×List aa8×Unit)=>(gq F (v4.2.1,v3.2.2.1)).bind fun (v5:Bool)=>some (v3.1,v3.2.1,v3.2.2.1,v3.2.2.2.1,v5,()) else some (v3.1,v3.2.1,v3.2.2.1,v3.2.2.2.1,false,())).bind fun (v6:List (B8×B8×List aa8×Unit)×B8×B8×Int×Bool×Unit)=>if v6.2.2.2.2.1=true then some (Sum.inr (Sum.inr (v6.2.2.2.1,()))) else some (Sum.inl (v6.1,v6.2.1,v6.2.2.1,IntKind.i64.wrap (v6.2.2.2.1+1),())) else some (Sum.inr (Sum.inl ()))
noncomputable def gw (F:Nat) (x:(List (El .rl))×B8×B8):Option (Int):=(aV (dK F) F (x.1,x.2.1,x.2.2,0,())).bind fun (v7:Unit ⊕ Int×Unit)=>cg v7 (fun (v8:Unit)=>some (-1)) fun (v9:Int×Unit)=>some v9.1
theorem rG (F:Nat):Ctr TT Tryz.prog 57 (ah TT rM (gw F)) :=
 ay F (code:=ao 57) Tryz.func57 (ag ai (rV F)) fun x=>by kernel_rfl
noncomputable def og:Spec Kd:={ params := [],ret:=(.one (.a .str)),pins := [],pl:={ nt:=1 },rfrz := [],ts := [0] }
noncomputable def gy (F:Nat) (x:Unit):Option B8:=some [80,79,83,84,32,47,112,97,121,58,32,110,101,101,100,32,115,117,109,32,49,48,48,48,59,32,99,97,108,108,32,100,101,98,105,116,32,37,123,115,117,109,125,59,32,99,97,108,108,32,99,114,101,100,105,116,32,37,123,115,117,109,125,59,32,101,110,100,32,50,48,49,32,112,97,105,100,32,37,123,115,117,109,125,10,80,79,83,84,32,47,110,111,116,101,47,42,58,32,111,110,108,121,32,52,48,59,32,99,97,108,108,32,119,114,105,116,101,32,37,98,59,32,101,110,100,32,50,48,48,32,110,111,116,101,100,32,37,112,10,71,69,84,32,47,42,42,58,32,101,110,100,32,50,48,48,32,37,109,32,37,112]
theorem om (F:Nat):Ctr TT Tryz.prog 100 (ah TT og (gy F)) :=
 ay F (code:=ao 100) Tryz.func100 ai fun x=>by kernel_rfl
end Go.Vm
