/- Models of functions of the program, and that each keeps its contract: for all arguments of its shape. No condition. -/
import Derived.Test.YtcnigpigmhpakaaGreatDoorKt
import Derived.Test.YtcnigpigmhpakaaGreatDoorFr9v
import Derived.Test.YtcnigpigmhpakaaGreatDoorFref4
namespace Go.Vm
open Go.Proofs
set_option linter.unusedVariables false
noncomputable def oi:Spec Kd:={ params := [(.a (.int .i64))],ret:=(.one (.a .str)),pins := [],pl:={ nt:=17,cuts := [(2,[(8,⟨[.tmp 0 (.a (.int .i64)), .tmp 3 (.a (.slc .str)), .tmp 12 (.a .bool)],[],[]⟩)])] },rfrz := [],ts := [2] }
noncomputable def cO (F:Nat) (x:(Int)):Option B8:=(if decide (x<0)=false then some (x,[[115,101,110,100],[100,101,108,105,118,101,114],[108,111,115,101],[116,119,105,99,101],[116,105,99,107],[119,111,114,107],[99,114,97,115,104],[115,116,97,114,116],[100,105,115,107],[114,111,116],[98,97,99,107,101,110,100],[115,119,101,101,112],[115,121,110,99],[102,117,115,101]],decide (14≤x),()) else some (x,[[115,101,110,100],[100,101,108,105,118,101,114],[108,111,115,101],[116,119,105,99,101],[116,105,99,107],[119,111,114,107],[99,114,97,115,104],[115,116,97,114,116],[100,105,115,107],[114,111,116],[98,97,99,107,101,110,100],[115,119,101,101,112],[115,121,110,99],[102,117,115,101]],true,())).bind fun (v0:Int×List B8×Bool×Unit)=>if v0.2.2.1=true then some [] else (idx v0.2.1 v0.1).bind fun (v1:B8)=>some v1
theorem gh (F:Nat):Ctr TT Tryz.prog 24 (ak TT oi (cO F)) :=
 aW F (code:=aw 24) Tryz.func24 aq fun x=>by kernel_rfl
noncomputable def nY:Spec Kd:={ params := [(.a (.int .i64))],ret:=(.one (.a (.int .i64))),pins := [],pl:={ nt:=17,cuts := [(5,[(6,⟨[.tmp 0 (.a (.int .i64)), .tmp 12 (.a .bool)],[],[]⟩),(4,⟨[.tmp 16 (.a .bool)],[],[]⟩)])] },rfrz := [],ts := [2] }
noncomputable def cN (F:Nat) (x:(Int)):Option (Int):=if decide (x=9)=true then some 3 else if decide (x=13)=true then some 2 else (if decide (x=7)=false then some (x,decide (x=11),()) else some (x,true,())).bind fun (v0:Int×Bool×Unit)=>(if v0.2.1=false then some (decide (v0.1=12),()) else some (true,())).bind fun (v1:Bool×Unit)=>if v1.1=true then some 0 else some 1
theorem gj (F:Nat):Ctr TT Tryz.prog 23 (ak TT nY (cN F)) :=
 aW F (code:=aw 23) Tryz.func23 aq fun x=>by kernel_rfl
noncomputable def mE:Spec Kd:={ params := [(.a (.int .i64))],ret:=(.one (.a .bool)),pins := [],pl:={ nt:=9,cuts := [(1,[(6,⟨[.tmp 8 (.a .bool)],[],[]⟩)])] },rfrz := [],ts := [2] }
noncomputable def bH (F:Nat) (x:(Int)):Option (Bool):=(if decide (-1000000000000000<x)=true then some (decide (x<1000000000000000),()) else some (false,())).bind fun (v0:Bool×Unit)=>some v0.1
theorem mK (F:Nat):Ctr TT Tryz.prog 25 (ak TT mE (bH F)) :=
 aW F (code:=aw 25) Tryz.func25 aq fun x=>by kernel_rfl
noncomputable def nP:Spec Kd:={ params := [(.a .str)],ret:=(.one (.a .bool)),pins := [],pl:={ nt:=47,joins := [(800024,(.norm,⟨[.tmp 0 (.a .str), .tmp 3 (.a (.slc .i64)), .tmp 4 (.a (.slc .i64)), .tmp 5 (.a (.int .i64)), .tmp 6 (.a (.int .i64))],[577,578],[]⟩),[])],loops := [(0,⟨[.tmp 0 (.a .str), .tmp 3 (.a (.slc .i64)), .tmp 4 (.a (.slc .i64)), .tmp 5 (.a (.int .i64))],[577,578],[]⟩,(.exit 0,⟨[.tmp 0 (.a .str)],[577,578],[]⟩),[(.ret,⟨[.tmp 2 (.a .bool)],[577,578],[]⟩)])],cuts := [(8,[(14,⟨[.tmp 0 (.a .str), .tmp 3 (.a (.slc .i64)), .tmp 4 (.a (.slc .i64)), .tmp 5 (.a (.int .i64)), .tmp 43 (.a .bool)],[577,578],[]⟩)])] },rfrz := [],ts := [2] }
noncomputable def cF (F:Nat) (v1:(B8×List Int×List Int×Int×Unit)):Option ((B8×List Int×List Int×Int×Unit) ⊕ (B8×Unit ⊕ Bool×Unit)):=if decide (v1.2.2.2.1<(↑v1.2.1.length:Int))=true then (if decide (IntKind.i64.wrap (v1.2.2.2.1+1)<(↑v1.2.2.1.length:Int))=true then (idx v1.2.2.1 (IntKind.i64.wrap (v1.2.2.2.1+1))).bind fun (v2:Int)=>some (v1.1,v1.2.1,v1.2.2.1,v1.2.2.2.1,v2,()) else some (v1.1,v1.2.1,v1.2.2.1,v1.2.2.2.1,(↑v1.1.length:Int),())).bind fun (v3:B8×List Int×List Int×Int×Int×Unit)=>((idx v3.2.1 v3.2.2.2.1).bind fun (v4:Int)=>if decide (v4=65533)=true then (idx v3.2.2.1 v3.2.2.2.1).bind fun (v5:Int)=>some (v3.1,v3.2.1,v3.2.2.1,v3.2.2.2.1, !decide (IntKind.i64.wrap (v3.2.2.2.2.1 - v5)=3),()) else some (v3.1,v3.2.1,v3.2.2.1,v3.2.2.2.1,false,())).bind fun (v6:B8×List Int×List Int×Int×Bool×Unit)=>if v6.2.2.2.2.1=true then some (Sum.inr (Sum.inr (false,()))) else some (Sum.inl (v6.1,v6.2.1,v6.2.2.1,IntKind.i64.wrap (v6.2.2.2.1+1),())) else some (Sum.inr (Sum.inl (v1.1,())))
noncomputable def eC (F:Nat) (x:B8):Option (Bool):=(eD F x).bind fun (v0:List Int×List Int)=>(bS (cF F) F (x,v0.1,v0.2,0,())).bind fun (v7:B8×Unit ⊕ Bool×Unit)=>eW v7 (fun (v8:B8×Unit)=>some (decide ((↑v8.1.length:Int)≤400))) fun (v9:Bool×Unit)=>some v9.1
theorem nH (F:Nat):Ctr TT Tryz.prog 41 (ak TT nP (eC F)) :=
 aW F (code:=aw 41) Tryz.func41 (ag aq (nI F)) fun x=>by kernel_rfl
noncomputable def nZ:Spec Kd:={ params := [(.a .str)],ret:=(.one (.a .bool)),pins := [],pl:={ nt:=11,cuts := [(1,[(8,⟨[.tmp 10 (.a .bool)],[],[]⟩)])] },rfrz := [],ts := [2] }
noncomputable def cc (F:Nat) (x:B8):Option (Bool):=((eC F x).bind fun (v0:Bool)=>if v0=true then (aC F x).bind fun (v1:B8)=>some (decide ((↑v1.length:Int)≤400),()) else some (false,())).bind fun (v2:Bool×Unit)=>some v2.1
theorem og (F:Nat):Ctr TT Tryz.prog 26 (ak TT nZ (cc F)) :=
 aW F (code:=aw 26) Tryz.func26 (ag (ag aq (nH F)) (eG F)) fun x=>by kernel_rfl
noncomputable def ou:Spec Kd:={ params := [(.agg [(.int .i64),(.int .i64),(.int .i64),(.int .i64),(.int .i64),(.int .i64),(.int .i64), .str, .str, .str, .str])],ret:=(.one (.a .bool)),pins := [],pl:={ nt:=98,cuts := [(7,[(8,⟨[.tmp 4 (.a (.ptr 256 0)), .tmp 72 (.a .bool), .box 256 (.cells 23 [(.int .i64),(.int .i64),(.int .i64), .str, .str, .str, .str])],[],[]⟩),(5,⟨[.tmp 4 (.a (.ptr 256 0)), .tmp 77 (.a .bool), .box 256 (.cells 23 [(.int .i64),(.int .i64),(.int .i64), .str, .str, .str, .str])],[],[]⟩),(5,⟨[.tmp 4 (.a (.ptr 256 0)), .tmp 82 (.a .bool), .box 256 (.cells 23 [(.int .i64),(.int .i64),(.int .i64), .str, .str, .str, .str])],[],[]⟩),(5,⟨[.tmp 4 (.a (.ptr 256 0)), .tmp 87 (.a .bool), .box 256 (.cells 23 [(.int .i64),(.int .i64),(.int .i64), .str, .str, .str, .str])],[],[]⟩),(5,⟨[.tmp 4 (.a (.ptr 256 0)), .tmp 92 (.a .bool), .box 256 (.cells 23 [(.int .i64),(.int .i64),(.int .i64), .str, .str, .str, .str])],[],[]⟩),(5,⟨[.tmp 97 (.a .bool)],[],[]⟩)]),(2,[(10,⟨[.tmp 1 (.a (.ptr 64 0)), .tmp 3 (.a (.int .i64)), .tmp 17 (.a .bool), .box 64 (.cells 25 [(.int .i64),(.int .i64),(.int .i64),(.int .i64),(.int .i64),(.int .i64),(.int .i64), .str, .str, .str, .str])],[],[]⟩),(6,⟨[.tmp 1 (.a (.ptr 64 0)), .tmp 3 (.a (.int .i64)), .tmp 23 (.a .bool), .box 64 (.cells 25 [(.int .i64),(.int .i64),(.int .i64),(.int .i64),(.int .i64),(.int .i64),(.int .i64), .str, .str, .str, .str])],[],[]⟩),(6,⟨[.tmp 1 (.a (.ptr 64 0)), .tmp 3 (.a (.int .i64)), .tmp 29 (.a .bool), .box 64 (.cells 25 [(.int .i64),(.int .i64),(.int .i64),(.int .i64),(.int .i64),(.int .i64),(.int .i64), .str, .str, .str, .str])],[],[]⟩),(9,⟨[.tmp 1 (.a (.ptr 64 0)), .tmp 3 (.a (.int .i64)), .tmp 38 (.a .bool), .box 64 (.cells 25 [(.int .i64),(.int .i64),(.int .i64),(.int .i64),(.int .i64),(.int .i64),(.int .i64), .str, .str, .str, .str])],[],[]⟩),(9,⟨[.tmp 1 (.a (.ptr 64 0)), .tmp 3 (.a (.int .i64)), .tmp 47 (.a .bool), .box 64 (.cells 25 [(.int .i64),(.int .i64),(.int .i64),(.int .i64),(.int .i64),(.int .i64),(.int .i64), .str, .str, .str, .str])],[],[]⟩),(9,⟨[.tmp 1 (.a (.ptr 64 0)), .tmp 56 (.a .bool), .box 64 (.cells 25 [(.int .i64),(.int .i64),(.int .i64),(.int .i64),(.int .i64),(.int .i64),(.int .i64), .str, .str, .str, .str])],[],[]⟩)])] },rfrz := [],ts := [2] }
noncomputable def dp (F:Nat) (x:((Int)×(Int)×(Int)×(Int)×(Int)×(Int)×(Int)×B8×B8×B8×B8×Unit)):Option (Bool):=(cN F x.1).bind fun (v0:Int)=>((cO F x.1).bind fun (v1:B8)=>if decide (v1 = [])=false then (bH F x.2.1).bind fun (v2:Bool)=>some ((),v0, !v2,x,()) else some ((),v0,true,x,())).bind fun (v3:Unit×Int×Bool×(Int×Int×Int×Int×Int×Int×Int×B8×B8×B8×B8×Unit)×Unit)=>(if v3.2.2.1=false then (bH F v3.2.2.2.1.2.2.1).bind fun (v4:Bool)=>some ((),v3.2.1, !v4,v3.2.2.2.1,()) else some ((),v3.2.1,true,v3.2.2.2.1,())).bind fun (v5:Unit×Int×Bool×(Int×Int×Int×Int×Int×Int×Int×B8×B8×B8×B8×Unit)×Unit)=>(if v5.2.2.1=false then (bH F v5.2.2.2.1.2.2.2.1).bind fun (v6:Bool)=>some ((),v5.2.1, !v6,v5.2.2.2.1,()) else some ((),v5.2.1,true,v5.2.2.2.1,())).bind fun (v7:Unit×Int×Bool×(Int×Int×Int×Int×Int×Int×Int×B8×B8×B8×B8×Unit)×Unit)=>(if v7.2.2.1=false then if decide (v7.2.1<3)=true then some ((),v7.2.1, !decide (v7.2.2.2.1.2.2.2.1=0),v7.2.2.2.1,()) else some ((),v7.2.1,false,v7.2.2.2.1,()) else some ((),v7.2.1,true,v7.2.2.2.1,())).bind fun (v8:Unit×Int×Bool×(Int×Int×Int×Int×Int×Int×Int×B8×B8×B8×B8×Unit)×Unit)=>(if v8.2.2.1=false then if decide (v8.2.1<2)=true then some ((),v8.2.1, !decide (v8.2.2.2.1.2.2.1=0),v8.2.2.2.1,()) else some ((),v8.2.1,false,v8.2.2.2.1,()) else some ((),v8.2.1,true,v8.2.2.2.1,())).bind fun (v9:Unit×Int×Bool×(Int×Int×Int×Int×Int×Int×Int×B8×B8×B8×B8×Unit)×Unit)=>(if v9.2.2.1=false then if decide (v9.2.1<1)=true then some ((), !decide (v9.2.2.2.1.2.1=0),v9.2.2.2.1,()) else some ((),false,v9.2.2.2.1,()) else some ((),true,v9.2.2.2.1,())).bind fun (v10:Unit×Bool×(Int×Int×Int×Int×Int×Int×Int×B8×B8×B8×B8×Unit)×Unit)=>if v10.2.1=true then some false else if (!decide (v10.2.2.1.1=0))=true then some (decide (v10.2.2.1.2.2.2.2.1=0) && (decide (v10.2.2.1.2.2.2.2.2.1=0) && (decide (v10.2.2.1.2.2.2.2.2.2.1=0) && (decide (v10.2.2.1.2.2.2.2.2.2.2.1 = []) && (decide (v10.2.2.1.2.2.2.2.2.2.2.2.1 = []) && (decide (v10.2.2.1.2.2.2.2.2.2.2.2.2.1 = []) && (decide (v10.2.2.1.2.2.2.2.2.2.2.2.2.2.1 = []) && true))))))) else (if decide (v10.2.2.1.2.2.2.2.1=0)=true then some ((),decide (v10.2.2.1.2.2.2.2.2.1=0),v10.2.2.1.2.2.2.2,()) else some ((),false,v10.2.2.1.2.2.2.2,())).bind fun (v11:Unit×Bool×(Int×Int×Int×B8×B8×B8×B8×Unit)×Unit)=>(if v11.2.1=true then (bH F v11.2.2.1.2.2.1).bind fun (v12:Bool)=>some ((),v12,v11.2.2.1,()) else some ((),false,v11.2.2.1,())).bind fun (v13:Unit×Bool×(Int×Int×Int×B8×B8×B8×B8×Unit)×Unit)=>(if v13.2.1=true then (cc F v13.2.2.1.2.2.2.1).bind fun (v14:Bool)=>some ((),v14,v13.2.2.1,()) else some ((),false,v13.2.2.1,())).bind fun (v15:Unit×Bool×(Int×Int×Int×B8×B8×B8×B8×Unit)×Unit)=>(if v15.2.1=true then (cc F v15.2.2.1.2.2.2.2.1).bind fun (v16:Bool)=>some ((),v16,v15.2.2.1,()) else some ((),false,v15.2.2.1,())).bind fun (v17:Unit×Bool×(Int×Int×Int×B8×B8×B8×B8×Unit)×Unit)=>(if v17.2.1=true then (cc F v17.2.2.1.2.2.2.2.2.1).bind fun (v18:Bool)=>some ((),v18,v17.2.2.1,()) else some ((),false,v17.2.2.1,())).bind fun (v19:Unit×Bool×(Int×Int×Int×B8×B8×B8×B8×Unit)×Unit)=>(if v19.2.1=true then (cc F v19.2.2.1.2.2.2.2.2.2.1).bind fun (v20:Bool)=>some (v20,()) else some (false,())).bind fun (v21:Bool×Unit)=>some v21.1
theorem gJ (F:Nat):Ctr TT Tryz.prog 10 (ak TT ou (dp F)) :=
 aW F (code:=aw 10) Tryz.func10 (ag (ag (ag (ag aq (gj F)) (gh F)) (mK F)) (og F)) fun x=>by kernel_rfl
noncomputable def nj:Spec Kd:={ params := [(.agg [(.int .i64),(.int .i64),(.int .i64),(.int .i64),(.int .i64),(.int .i64),(.int .i64), .str, .str, .str, .str])],ret:=(.one (.a .str)),pins := [],pl:={ nt:=64,joins := [(900034,(.norm,⟨[.tmp 3 (.a .str)],[],[]⟩),[])],loops := [(0,⟨[.tmp 1 (.a (.ptr 64 0)), .tmp 3 (.a .str), .tmp 4 (.a (.slc .i64)), .tmp 5 (.a (.int .i64)), .box 64 (.cells 25 [(.int .i64),(.int .i64),(.int .i64),(.int .i64),(.int .i64),(.int .i64),(.int .i64), .str, .str, .str, .str])],[],[]⟩,(.exit 0,⟨[.tmp 1 (.a (.ptr 64 0)), .tmp 3 (.a .str), .box 64 (.cells 25 [(.int .i64),(.int .i64),(.int .i64),(.int .i64),(.int .i64),(.int .i64),(.int .i64), .str, .str, .str, .str])],[],[]⟩),[])],ends := [(9,⟨[.tmp 3 (.a .str)],[],[]⟩)] },rfrz := [],ts := [2] }
noncomputable def bO (F:Nat) (v1:(Unit×B8×List Int×Int×(Int×Int×Int×Int×Int×Int×Int×B8×B8×B8×B8×Unit)×Unit)):Option ((Unit×B8×List Int×Int×(Int×Int×Int×Int×Int×Int×Int×B8×B8×B8×B8×Unit)×Unit) ⊕ (Unit×B8×(Int×Int×Int×Int×Int×Int×Int×B8×B8×B8×B8×Unit)×Unit)):=(cN F v1.2.2.2.2.1.1).bind fun (v2:Int)=>if decide (v1.2.2.2.1<v2)=true then if decide (v1.2.1.length + [32].length≤9223372036854775807)=true then (idx v1.2.2.1 v1.2.2.2.1).bind fun (v3:Int)=>(bg F v3).bind fun (v4:B8)=>if decide ((v1.2.1 ++ [32]).length+v4.length≤9223372036854775807)=true then some (Sum.inl ((),v1.2.1 ++ [32] ++ v4,v1.2.2.1,IntKind.i64.wrap (v1.2.2.2.1+1),v1.2.2.2.2.1,())) else none else none else some (Sum.inr ((),v1.2.1,v1.2.2.2.2.1,()))
noncomputable def cw (F:Nat) (x:((Int)×(Int)×(Int)×(Int)×(Int)×(Int)×(Int)×B8×B8×B8×B8×Unit)):Option B8:=(cO F x.1).bind fun (v0:B8)=>(bS (bO F) F ((),v0,[x.2.1,x.2.2.1,x.2.2.2.1],0,x,())).bind fun (v5:Unit×B8×(Int×Int×Int×Int×Int×Int×Int×B8×B8×B8×B8×Unit)×Unit)=>(if decide (v5.2.2.1.1=0)=true then (if decide (v5.2.1.length + [32].length≤9223372036854775807)=true then (bg F v5.2.2.1.2.2.2.2.2.2.1).bind fun (v6:B8)=>if decide ((v5.2.1 ++ [32]).length+v6.length≤9223372036854775807)=true then if decide ((v5.2.1 ++ [32] ++ v6).length + [32].length≤9223372036854775807)=true then (aC F v5.2.2.1.2.2.2.2.2.2.2.1).bind fun (v7:B8)=>if decide ((v5.2.1 ++ [32] ++ v6 ++ [32]).length+v7.length≤9223372036854775807)=true then if decide ((v5.2.1 ++ [32] ++ v6 ++ [32] ++ v7).length + [32].length≤9223372036854775807)=true then (aC F v5.2.2.1.2.2.2.2.2.2.2.2.1).bind fun (v8:B8)=>if decide ((v5.2.1 ++ [32] ++ v6 ++ [32] ++ v7 ++ [32]).length+v8.length≤9223372036854775807)=true then if decide ((v5.2.1 ++ [32] ++ v6 ++ [32] ++ v7 ++ [32] ++ v8).length + [32].length≤9223372036854775807)=true then (aC F v5.2.2.1.2.2.2.2.2.2.2.2.2.1).bind fun (v9:B8)=>if decide ((v5.2.1 ++ [32] ++ v6 ++ [32] ++ v7 ++ [32] ++ v8 ++ [32]).length+v9.length≤9223372036854775807)=true then if decide ((v5.2.1 ++ [32] ++ v6 ++ [32] ++ v7 ++ [32] ++ v8 ++ [32] ++ v9).length + [32].length≤9223372036854775807)=true then (aC F v5.2.2.1.2.2.2.2.2.2.2.2.2.2.1).bind fun (v10:B8)=>if decide ((v5.2.1 ++ [32] ++ v6 ++ [32] ++ v7 ++ [32] ++ v8 ++ [32] ++ v9 ++ [32]).length+v10.length≤9223372036854775807)=true then some (v5.2.1 ++ [32] ++ v6 ++ [32] ++ v7 ++ [32] ++ v8 ++ [32] ++ v9 ++ [32] ++ v10,()) else none else none else none else none else none else none else none else none else none else none).bind fun (v11:B8×Unit)=>some (v11.1,()) else some (v5.2.1,())).bind fun (v12:B8×Unit)=>some v12.1
theorem fN (F:Nat):Ctr TT Tryz.prog 12 (ak TT nj (cw F)) :=
 aW F (code:=aw 12) Tryz.func12 (ag (ag (ag (ag aq (gh F)) (gj F)) (iA F)) (eG F)) fun x=>by kernel_rfl
noncomputable def mR:Spec Kd:={ params := [(.a .str)],ret:=(.tup [(.a .str),(.a .str)]),pins := [],pl:={ nt:=43,bjoins := [(1,(.norm,⟨[.tmp 0 (.a .str), .tmp 4 (.a .bool), .tmp 5 (.a (.int .i64))],[],[]⟩),[(.ret,⟨[.tmp 2 (.a .str), .tmp 3 (.a .str)],[],[]⟩)])],loops := [(0,⟨[.tmp 0 (.a .str), .tmp 4 (.a .bool), .tmp 5 (.a (.int .i64))],[],[]⟩,(.exit 0,⟨[.tmp 0 (.a .str)],[],[]⟩),[(.ret,⟨[.tmp 2 (.a .str), .tmp 3 (.a .str)],[],[]⟩)])],cuts := [(9,[(8,⟨[.tmp 0 (.a .str), .tmp 4 (.a .bool), .tmp 5 (.a (.int .i64)), .tmp 34 (.a .bool)],[],[]⟩)]),(5,[(7,⟨[.tmp 0 (.a .str), .tmp 4 (.a .bool), .tmp 5 (.a (.int .i64)), .tmp 18 (.a .bool)],[],[]⟩)])],ends := [(10,⟨[.tmp 2 (.a .str), .tmp 3 (.a .str)],[],[]⟩)] },rfrz := [],ts := [2,3] }
noncomputable def bL (F:Nat) (v0:(B8×Bool×Int×Unit)):Option ((B8×Bool×Int×Unit) ⊕ (B8×Unit ⊕ B8×B8×Unit)):=if decide (v0.2.2.1<(↑v0.1.length:Int))=true then ((if v0.2.1=true then (idx v0.1 v0.2.2.1).bind fun (v1:UInt8)=>some (v0.1,v0.2.1,v0.2.2.1,decide ((↑v1.toNat:Int)=92),()) else some (v0.1,v0.2.1,v0.2.2.1,false,())).bind fun (v2:B8×Bool×Int×Bool×Unit)=>if v2.2.2.2.1=true then some (Sum.inl (v2.1,v2.2.1,IntKind.i64.wrap (v2.2.2.1+1),())) else (idx v2.1 v2.2.2.1).bind fun (v3:UInt8)=>if decide ((↑v3.toNat:Int)=34)=true then some (Sum.inl (v2.1, !v2.2.1,v2.2.2.1,())) else ((idx v2.1 v2.2.2.1).bind fun (v4:UInt8)=>if decide ((↑v4.toNat:Int)=32)=true then some (v2.1,v2.2.1,v2.2.2.1, !v2.2.1,()) else some (v2.1,v2.2.1,v2.2.2.1,false,())).bind fun (v5:B8×Bool×Int×Bool×Unit)=>if v5.2.2.2.1=true then ((sub v5.1 0 v5.2.2.1).bind fun (v6:B8)=>(sub v5.1 (IntKind.i64.wrap (v5.2.2.1+1)) (↑v5.1.length:Int)).bind fun (v7:B8)=>some (v6,v7,())).bind fun (v8:B8×B8×Unit)=>some (Sum.inr (v8.1,v8.2.1,())) else some (Sum.inl (v5.1,v5.2.1,v5.2.2.1,()))).bind fun (v9:B8×Bool×Int×Unit ⊕ B8×B8×Unit)=>eW v9 (fun (v10:B8×Bool×Int×Unit)=>some (Sum.inl (v10.1,v10.2.1,IntKind.i64.wrap (v10.2.2.1+1),()))) fun (v11:B8×B8×Unit)=>some (Sum.inr (Sum.inr (v11.1,v11.2.1,()))) else some (Sum.inr (Sum.inl (v0.1,())))
noncomputable def dw (F:Nat) (x:B8):Option (B8×B8):=(bS (bL F) F (x,false,0,())).bind fun (v12:B8×Unit ⊕ B8×B8×Unit)=>eW v12 (fun (v13:B8×Unit)=>some (v13.1,[])) fun (v14:B8×B8×Unit)=>some (v14.1,v14.2.1)
theorem mW (F:Nat):Ctr TT Tryz.prog 33 (ak TT mR (dw F)) :=
 aW F (code:=aw 33) Tryz.func33 aq fun x=>by kernel_rfl
noncomputable def mV:Spec Kd:={ params := [(.a .str)],ret:=(.tup [(.agg [(.int .i64),(.int .i64),(.int .i64),(.int .i64),(.int .i64),(.int .i64),(.int .i64), .str, .str, .str, .str]),(.a .bool)]),pins := [],pl:={ nt:=120,orc:={ rv := [8,46,49],gv := [] },joins := [(3400096,(.norm,⟨[.tmp 0 (.a .str), .tmp 2 (.a (.ptr 128 0)), .tmp 6 (.a (.ptr 384 0)), .box 128 (.cells 25 [(.int .i64),(.int .i64),(.int .i64),(.int .i64),(.int .i64),(.int .i64),(.int .i64), .str, .str, .str, .str]), .box 384 (.cells 25 [(.int .i64),(.int .i64),(.int .i64),(.int .i64),(.int .i64),(.int .i64),(.int .i64), .str, .str, .str, .str])],[],[]⟩),[]),(3200090,(.norm,⟨[.tmp 0 (.a .str), .tmp 2 (.a (.ptr 128 0)), .tmp 6 (.a (.ptr 384 0)), .tmp 11 (.a (.ptr 704 0)), .tmp 12 (.a (.ptr 768 0)), .box 128 (.cells 25 [(.int .i64),(.int .i64),(.int .i64),(.int .i64),(.int .i64),(.int .i64),(.int .i64), .str, .str, .str, .str]), .box 384 (.cells 25 [(.int .i64),(.int .i64),(.int .i64),(.int .i64),(.int .i64),(.int .i64),(.int .i64), .str, .str, .str, .str]), .box 704 (.arr 67 8 .i64), .box 768 (.arr 68 8 .str)],[],[]⟩),[]),(3000085,(.norm,⟨[.tmp 0 (.a .str), .tmp 2 (.a (.ptr 128 0)), .tmp 6 (.a (.ptr 384 0)), .tmp 11 (.a (.ptr 704 0)), .tmp 12 (.a (.ptr 768 0)), .tmp 16 (.a (.int .i64)), .box 128 (.cells 25 [(.int .i64),(.int .i64),(.int .i64),(.int .i64),(.int .i64),(.int .i64),(.int .i64), .str, .str, .str, .str]), .box 384 (.cells 25 [(.int .i64),(.int .i64),(.int .i64),(.int .i64),(.int .i64),(.int .i64),(.int .i64), .str, .str, .str, .str]), .box 704 (.arr 67 8 .i64), .box 768 (.arr 68 8 .str)],[],[]⟩),[]),(2800080,(.norm,⟨[.tmp 0 (.a .str), .tmp 2 (.a (.ptr 128 0)), .tmp 6 (.a (.ptr 384 0)), .tmp 11 (.a (.ptr 704 0)), .tmp 12 (.a (.ptr 768 0)), .tmp 16 (.a (.int .i64)), .box 128 (.cells 25 [(.int .i64),(.int .i64),(.int .i64),(.int .i64),(.int .i64),(.int .i64),(.int .i64), .str, .str, .str, .str]), .box 384 (.cells 25 [(.int .i64),(.int .i64),(.int .i64),(.int .i64),(.int .i64),(.int .i64),(.int .i64), .str, .str, .str, .str]), .box 704 (.arr 67 8 .i64), .box 768 (.arr 68 8 .str)],[],[]⟩),[])],bjoins := [(1,(.norm,⟨[.tmp 0 (.a .str), .tmp 2 (.a (.ptr 128 0)), .tmp 4 (.a .str), .tmp 5 (.a .str), .tmp 6 (.a (.ptr 384 0)), .tmp 7 (.a (.int .i64)), .box 128 (.cells 25 [(.int .i64),(.int .i64),(.int .i64),(.int .i64),(.int .i64),(.int .i64),(.int .i64), .str, .str, .str, .str]), .box 384 (.cells 25 [(.int .i64),(.int .i64),(.int .i64),(.int .i64),(.int .i64),(.int .i64),(.int .i64), .str, .str, .str, .str])],[],[]⟩),[])],loops := [(4,⟨[.tmp 0 (.a .str), .tmp 2 (.a (.ptr 128 0)), .tmp 6 (.a (.ptr 384 0)), .tmp 8 (.a (.rowp 512)), .tmp 11 (.a (.ptr 704 0)), .tmp 12 (.a (.ptr 768 0)), .tmp 13 (.a (.int .i64)), .box 512 (.row 9 .str), .box 128 (.cells 25 [(.int .i64),(.int .i64),(.int .i64),(.int .i64),(.int .i64),(.int .i64),(.int .i64), .str, .str, .str, .str]), .box 384 (.cells 25 [(.int .i64),(.int .i64),(.int .i64),(.int .i64),(.int .i64),(.int .i64),(.int .i64), .str, .str, .str, .str]), .box 704 (.arr 67 8 .i64), .box 768 (.arr 68 8 .str)],[],[.tmpRow 8 512 9 .str]⟩,(.exit 4,⟨[.tmp 0 (.a .str), .tmp 2 (.a (.ptr 128 0)), .tmp 6 (.a (.ptr 384 0)), .tmp 11 (.a (.ptr 704 0)), .tmp 12 (.a (.ptr 768 0)), .box 128 (.cells 25 [(.int .i64),(.int .i64),(.int .i64),(.int .i64),(.int .i64),(.int .i64),(.int .i64), .str, .str, .str, .str]), .box 384 (.cells 25 [(.int .i64),(.int .i64),(.int .i64),(.int .i64),(.int .i64),(.int .i64),(.int .i64), .str, .str, .str, .str]), .box 704 (.arr 67 8 .i64), .box 768 (.arr 68 8 .str)],[],[]⟩),[]),(2,⟨[.tmp 0 (.a .str), .tmp 2 (.a (.ptr 128 0)), .tmp 5 (.a .str), .tmp 6 (.a (.ptr 384 0)), .tmp 8 (.a (.rowp 512)), .tmp 9 (.a (.int .i64)), .box 512 (.row 9 .str), .box 128 (.cells 25 [(.int .i64),(.int .i64),(.int .i64),(.int .i64),(.int .i64),(.int .i64),(.int .i64), .str, .str, .str, .str]), .box 384 (.cells 25 [(.int .i64),(.int .i64),(.int .i64),(.int .i64),(.int .i64),(.int .i64),(.int .i64), .str, .str, .str, .str])],[],[.tmpRow 8 512 9 .str]⟩,(.exit 2,⟨[.tmp 0 (.a .str), .tmp 2 (.a (.ptr 128 0)), .tmp 6 (.a (.ptr 384 0)), .tmp 8 (.a (.rowp 512)), .box 512 (.row 9 .str), .box 128 (.cells 25 [(.int .i64),(.int .i64),(.int .i64),(.int .i64),(.int .i64),(.int .i64),(.int .i64), .str, .str, .str, .str]), .box 384 (.cells 25 [(.int .i64),(.int .i64),(.int .i64),(.int .i64),(.int .i64),(.int .i64),(.int .i64), .str, .str, .str, .str])],[],[.tmpRow 8 512 9 .str]⟩),[]),(0,⟨[.tmp 0 (.a .str), .tmp 2 (.a (.ptr 128 0)), .tmp 4 (.a .str), .tmp 5 (.a .str), .tmp 6 (.a (.ptr 384 0)), .tmp 7 (.a (.int .i64)), .box 128 (.cells 25 [(.int .i64),(.int .i64),(.int .i64),(.int .i64),(.int .i64),(.int .i64),(.int .i64), .str, .str, .str, .str]), .box 384 (.cells 25 [(.int .i64),(.int .i64),(.int .i64),(.int .i64),(.int .i64),(.int .i64),(.int .i64), .str, .str, .str, .str])],[],[]⟩,(.exit 0,⟨[.tmp 0 (.a .str), .tmp 2 (.a (.ptr 128 0)), .tmp 5 (.a .str), .tmp 6 (.a (.ptr 384 0)), .box 128 (.cells 25 [(.int .i64),(.int .i64),(.int .i64),(.int .i64),(.int .i64),(.int .i64),(.int .i64), .str, .str, .str, .str]), .box 384 (.cells 25 [(.int .i64),(.int .i64),(.int .i64),(.int .i64),(.int .i64),(.int .i64),(.int .i64), .str, .str, .str, .str])],[],[]⟩),[])],cuts := [(34,[(9,⟨[.tmp 2 (.a (.ptr 128 0)), .tmp 6 (.a (.ptr 384 0)), .tmp 117 (.a .bool), .box 128 (.cells 25 [(.int .i64),(.int .i64),(.int .i64),(.int .i64),(.int .i64),(.int .i64),(.int .i64), .str, .str, .str, .str]), .box 384 (.cells 25 [(.int .i64),(.int .i64),(.int .i64),(.int .i64),(.int .i64),(.int .i64),(.int .i64), .str, .str, .str, .str])],[],[]⟩)]),(33,[(13,⟨[.tmp 0 (.a .str), .tmp 2 (.a (.ptr 128 0)), .tmp 6 (.a (.ptr 384 0)), .box 128 (.cells 25 [(.int .i64),(.int .i64),(.int .i64),(.int .i64),(.int .i64),(.int .i64),(.int .i64), .str, .str, .str, .str]), .box 384 (.cells 25 [(.int .i64),(.int .i64),(.int .i64),(.int .i64),(.int .i64),(.int .i64),(.int .i64), .str, .str, .str, .str])],[],[]⟩)]),(20,[(11,⟨[.tmp 0 (.a .str), .tmp 2 (.a (.ptr 128 0)), .tmp 6 (.a (.ptr 384 0)), .tmp 8 (.a (.rowp 512)), .tmp 11 (.a (.ptr 704 0)), .tmp 12 (.a (.ptr 768 0)), .tmp 13 (.a (.int .i64)), .tmp 14 (.a (.ptr 896 0)), .box 512 (.row 9 .str), .box 128 (.cells 25 [(.int .i64),(.int .i64),(.int .i64),(.int .i64),(.int .i64),(.int .i64),(.int .i64), .str, .str, .str, .str]), .box 384 (.cells 25 [(.int .i64),(.int .i64),(.int .i64),(.int .i64),(.int .i64),(.int .i64),(.int .i64), .str, .str, .str, .str]), .box 704 (.arr 67 8 .i64), .box 768 (.arr 68 8 .str), .box 896 (.cells 70 [(.int .i64), .str, .str,(.int .i64),(.slc .str),(.slc .str)])],[],[.tmpRow 8 512 9 .str, .cellSlc 896 4 .str, .cellSlc 896 5 .str]⟩)]),(10,[(6,⟨[.tmp 0 (.a .str), .tmp 2 (.a (.ptr 128 0)), .tmp 5 (.a .str), .tmp 6 (.a (.ptr 384 0)), .tmp 8 (.a (.rowp 512)), .tmp 9 (.a (.int .i64)), .tmp 38 (.a .bool), .box 512 (.row 9 .str), .box 128 (.cells 25 [(.int .i64),(.int .i64),(.int .i64),(.int .i64),(.int .i64),(.int .i64),(.int .i64), .str, .str, .str, .str]), .box 384 (.cells 25 [(.int .i64),(.int .i64),(.int .i64),(.int .i64),(.int .i64),(.int .i64),(.int .i64), .str, .str, .str, .str])],[],[.tmpRow 8 512 9 .str]⟩)])] },rfrz := [],ts := [120,121],rc := [(2,some 25),(3,none)] }
noncomputable def dL (F:Nat) (v1:(B8 ×
     Unit ×
      B8 ×
       B8 ×
        Unit ×
         Int ×
          (Int×Int×Int×Int×Int×Int×Int×B8×B8×B8×B8×Unit) ×
           (Int×Int×Int×Int×Int×Int×Int×B8×B8×B8×B8×Unit)×Unit)):Option ((B8 ×
     Unit ×
      B8 ×
       B8 ×
        Unit ×
         Int ×
          (Int×Int×Int×Int×Int×Int×Int×B8×B8×B8×B8×Unit) ×
           (Int×Int×Int×Int×Int×Int×Int×B8×B8×B8×B8×Unit)×Unit) ⊕ (B8 ×
     Unit ×
      B8 ×
       Unit ×
        (Int×Int×Int×Int×Int×Int×Int×B8×B8×B8×B8×Unit) ×
         (Int×Int×Int×Int×Int×Int×Int×B8×B8×B8×B8×Unit)×Unit)) :=
 if decide (v1.2.2.2.2.2.1<14)=true then
      ((cO F v1.2.2.2.2.2.1).bind fun (v2:B8) =>
         if decide (v2=v1.2.2.1)=true then
          some (v1.1,(),v1.2.2.1,v1.2.2.2.1,(),v1.2.2.2.2.2.1,v1.2.2.2.2.2.2.1,(v1.2.2.2.2.2.1,v1.2.2.2.2.2.2.2.1.2),())
         else some (v1.1,(),v1.2.2)).bind
       fun
        (v3 :
         B8 ×
          Unit ×
           B8 ×
            B8 ×
             Unit ×
              Int ×
               (Int×Int×Int×Int×Int×Int×Int×B8×B8×B8×B8×Unit) ×
                (Int×Int×Int×Int×Int×Int×Int×B8×B8×B8×B8×Unit)×Unit) =>
       some (Sum.inl (v3.1,(),v3.2.2.1,v3.2.2.2.1,(),IntKind.i64.wrap (v3.2.2.2.2.2.1+1),v3.2.2.2.2.2.2.1,v3.2.2.2.2.2.2.2.1,()))
     else some (Sum.inr (v1.1,(),v1.2.2.2.1,(),v1.2.2.2.2.2.2.1,v1.2.2.2.2.2.2.2.1,()))
noncomputable def cI (F:Nat) (v5:(B8 ×
      Unit ×
       B8 ×
        Unit ×
         Unit ×
          Int ×
           List B8 ×
            (Int×Int×Int×Int×Int×Int×Int×B8×B8×B8×B8×Unit) ×
             (Int×Int×Int×Int×Int×Int×Int×B8×B8×B8×B8×Unit)×Unit)):Option ((B8 ×
      Unit ×
       B8 ×
        Unit ×
         Unit ×
          Int ×
           List B8 ×
            (Int×Int×Int×Int×Int×Int×Int×B8×B8×B8×B8×Unit) ×
             (Int×Int×Int×Int×Int×Int×Int×B8×B8×B8×B8×Unit)×Unit) ⊕ (B8 ×
      Unit ×
       Unit ×
        Unit ×
         List B8 ×
          (Int×Int×Int×Int×Int×Int×Int×B8×B8×B8×B8×Unit) ×
           (Int×Int×Int×Int×Int×Int×Int×B8×B8×B8×B8×Unit)×Unit)) :=
 (if decide (v5.2.2.2.2.2.1<8)=true then
         some (v5.1,(),v5.2.2.1,(),(),v5.2.2.2.2.2.1, !decide (v5.2.2.1 = []),v5.2.2.2.2.2.2.1,v5.2.2.2.2.2.2.2.1,v5.2.2.2.2.2.2.2.2.1,())
        else some (v5.1,(),v5.2.2.1,(),(),v5.2.2.2.2.2.1,false,v5.2.2.2.2.2.2.1,v5.2.2.2.2.2.2.2.1,v5.2.2.2.2.2.2.2.2.1,())).bind
       fun
        (v6 :
         B8 ×
          Unit ×
           B8 ×
            Unit ×
             Unit ×
              Int ×
               Bool ×
                List B8 ×
                 (Int×Int×Int×Int×Int×Int×Int×B8×B8×B8×B8×Unit) ×
                  (Int×Int×Int×Int×Int×Int×Int×B8×B8×B8×B8×Unit)×Unit) =>
       if v6.2.2.2.2.2.2.1=true then
        (dw F v6.2.2.1).bind fun (v7:B8×B8) =>
         if decide ((v6.2.2.2.2.2.2.2.1.length + [v7.1].length) * 16≤140737488355328)=true then
          some
           (Sum.inl
            (v6.1,(),v7.2,(),(),IntKind.i64.wrap (v6.2.2.2.2.2.1+1),v6.2.2.2.2.2.2.2.1 ++ [v7.1],v6.2.2.2.2.2.2.2.2.1,
             v6.2.2.2.2.2.2.2.2.2.1,()))
         else none
       else some (Sum.inr (v6.1,(),(),(),v6.2.2.2.2.2.2.2.1,v6.2.2.2.2.2.2.2.2.1,v6.2.2.2.2.2.2.2.2.2.1,()))
noncomputable def dM (F:Nat) (v9:(B8 ×
       Unit ×
        Unit ×
         Unit ×
          Unit ×
           Unit ×
            Int ×
             List B8 ×
              (Int×Int×Int×Int×Int×Int×Int×B8×B8×B8×B8×Unit) ×
               (Int×Int×Int×Int×Int×Int×Int×B8×B8×B8×B8×Unit) ×
                List Int×List B8×Unit)):Option ((B8 ×
       Unit ×
        Unit ×
         Unit ×
          Unit ×
           Unit ×
            Int ×
             List B8 ×
              (Int×Int×Int×Int×Int×Int×Int×B8×B8×B8×B8×Unit) ×
               (Int×Int×Int×Int×Int×Int×Int×B8×B8×B8×B8×Unit) ×
                List Int×List B8×Unit) ⊕ (B8 ×
       Unit ×
        Unit ×
         Unit ×
          Unit ×
           (Int×Int×Int×Int×Int×Int×Int×B8×B8×B8×B8×Unit) ×
            (Int×Int×Int×Int×Int×Int×Int×B8×B8×B8×B8×Unit) ×
             List Int×List B8×Unit)) :=
 if decide (v9.2.2.2.2.2.2.1<(↑v9.2.2.2.2.2.2.2.1.length:Int))=true then
        ((idx v9.2.2.2.2.2.2.2.1 v9.2.2.2.2.2.2.1).bind fun (v10:B8) =>
           (fD F v10).bind
            fun (v11:(Int×B8×B8×Int×List B8×List B8×Unit)×Int) =>
            some
             (v9.1,(),(),(),(),(),v9.2.2.2.2.2.2.1,(),v9.2.2.2.2.2.2.2.1,v9.2.2.2.2.2.2.2.2.1,v9.2.2.2.2.2.2.2.2.2.1,
              v9.2.2.2.2.2.2.2.2.2.2.1,v9.2.2.2.2.2.2.2.2.2.2.2.1,v11.1,())).bind
         fun
          (v12 :
           B8 ×
            Unit ×
             Unit ×
              Unit ×
               Unit ×
                Unit ×
                 Int ×
                  Unit ×
                   List B8 ×
                    (Int×Int×Int×Int×Int×Int×Int×B8×B8×B8×B8×Unit) ×
                     (Int×Int×Int×Int×Int×Int×Int×B8×B8×B8×B8×Unit) ×
                      List Int ×
                       List B8 ×
                        (Int×B8×B8×Int×List B8×List B8×Unit)×Unit) =>
         if (decide (0≤v12.2.2.2.2.2.2.1) && decide (v12.2.2.2.2.2.2.1<8))=true then
          (sx v12.2.2.2.2.2.2.2.2.2.2.2.1 v12.2.2.2.2.2.2.1.toNat v12.2.2.2.2.2.2.2.2.2.2.2.2.2.1.2.2.2.1).bind fun (v13:List Int) =>
           if (decide (0≤v12.2.2.2.2.2.2.1) && decide (v12.2.2.2.2.2.2.1<8))=true then
            (sx v12.2.2.2.2.2.2.2.2.2.2.2.2.1 v12.2.2.2.2.2.2.1.toNat v12.2.2.2.2.2.2.2.2.2.2.2.2.2.1.2.2.1).bind fun (v14:List B8) =>
             some
              (Sum.inl
               (v12.1,(),(),(),(),(),IntKind.i64.wrap (v12.2.2.2.2.2.2.1+1),v12.2.2.2.2.2.2.2.2.1,v12.2.2.2.2.2.2.2.2.2.1,
                v12.2.2.2.2.2.2.2.2.2.2.1,v13,v14,()))
           else none
         else none
       else
        some (Sum.inr (v9.1,(),(),(),(),v9.2.2.2.2.2.2.2.2.1,v9.2.2.2.2.2.2.2.2.2.1,v9.2.2.2.2.2.2.2.2.2.2.1,v9.2.2.2.2.2.2.2.2.2.2.2.1,()))
noncomputable def dI (F:Nat) (x:B8):Option (((Int)×(Int)×(Int)×(Int)×(Int)×(Int)×(Int)×B8×B8×B8×B8×Unit)×(Bool)):=(dw F x).bind fun (v0:B8×B8)=>(bS (dL F) F (x,(),v0.1,v0.2,(),0,(0,0,0,0,0,0,0,[],[],[],[],()),(-1,0,0,0,0,0,0,[],[],[],[],()),())).bind fun (v4:B8×Unit×B8×Unit×(Int×Int×Int×Int×Int×Int×Int×B8×B8×B8×B8×Unit)×(Int×Int×Int×Int×Int×Int×Int×B8×B8×B8×B8×Unit)×Unit)=>(bS (cI F) F (v4.1,(),v4.2.2.1,(),(),0,[],v4.2.2.2.2.1,v4.2.2.2.2.2.1,())).bind fun (v8:B8×Unit×Unit×Unit×List B8×(Int×Int×Int×Int×Int×Int×Int×B8×B8×B8×B8×Unit)×(Int×Int×Int×Int×Int×Int×Int×B8×B8×B8×B8×Unit)×Unit)=>(bS (dM F) F (v8.1,(),(),(),(),(),0,v8.2.2.2.2.1,v8.2.2.2.2.2.1,v8.2.2.2.2.2.2.1,[0,0,0,0,0,0,0,0],[[],[],[],[],[],[],[],[]],())).bind fun (v15:B8×Unit×Unit×Unit×Unit×(Int×Int×Int×Int×Int×Int×Int×B8×B8×B8×B8×Unit)×(Int×Int×Int×Int×Int×Int×Int×B8×B8×B8×B8×Unit)×List Int×List B8×Unit)=>if decide (v15.2.2.2.2.2.2.1.1<0)=true then some ((0,0,0,0,0,0,0,[],[],[],[],()),false) else (cN F v15.2.2.2.2.2.2.1.1).bind fun (v16:Int)=>(if decide (0<v16)=true then (jw v15.2.2.2.2.2.2.2.1 0).bind fun (v17:Int)=>some (v15.1,(),(),(),(),v16,v15.2.2.2.2.2.1,(v15.2.2.2.2.2.2.1.1,v17,v15.2.2.2.2.2.2.1.2.2),v15.2.2.2.2.2.2.2.1,v15.2.2.2.2.2.2.2.2.1,()) else some (v15.1,(),(),(),(),v16,v15.2.2.2.2.2.1,v15.2.2.2.2.2.2.1,v15.2.2.2.2.2.2.2.1,v15.2.2.2.2.2.2.2.2.1,())).bind fun (v18:B8×Unit×Unit×Unit×Unit×Int×(Int×Int×Int×Int×Int×Int×Int×B8×B8×B8×B8×Unit)×(Int×Int×Int×Int×Int×Int×Int×B8×B8×B8×B8×Unit)×List Int×List B8×Unit)=>(if decide (1<v18.2.2.2.2.2.1)=true then (jw v18.2.2.2.2.2.2.2.2.1 1).bind fun (v19:Int)=>some (v18.1,(),(),(),(),v18.2.2.2.2.2.1,v18.2.2.2.2.2.2.1,(v18.2.2.2.2.2.2.2.1.1,v18.2.2.2.2.2.2.2.1.2.1,v19,v18.2.2.2.2.2.2.2.1.2.2.2),v18.2.2.2.2.2.2.2.2.1,v18.2.2.2.2.2.2.2.2.2.1,()) else some (v18.1,(),(),(),(),v18.2.2.2.2.2)).bind fun (v20:B8×Unit×Unit×Unit×Unit×Int×(Int×Int×Int×Int×Int×Int×Int×B8×B8×B8×B8×Unit)×(Int×Int×Int×Int×Int×Int×Int×B8×B8×B8×B8×Unit)×List Int×List B8×Unit)=>(if decide (2<v20.2.2.2.2.2.1)=true then (jw v20.2.2.2.2.2.2.2.2.1 2).bind fun (v21:Int)=>some (v20.1,(),(),(),(),v20.2.2.2.2.2.2.1,(v20.2.2.2.2.2.2.2.1.1,v20.2.2.2.2.2.2.2.1.2.1,v20.2.2.2.2.2.2.2.1.2.2.1,v21,v20.2.2.2.2.2.2.2.1.2.2.2.2),v20.2.2.2.2.2.2.2.2.1,v20.2.2.2.2.2.2.2.2.2.1,()) else some (v20.1,(),(),(),(),v20.2.2.2.2.2.2.1,v20.2.2.2.2.2.2.2.1,v20.2.2.2.2.2.2.2.2.1,v20.2.2.2.2.2.2.2.2.2.1,())).bind fun (v22:B8×Unit×Unit×Unit×Unit×(Int×Int×Int×Int×Int×Int×Int×B8×B8×B8×B8×Unit)×(Int×Int×Int×Int×Int×Int×Int×B8×B8×B8×B8×Unit)×List Int×List B8×Unit)=>(if decide (v22.2.2.2.2.2.2.1.1=0)=true then ((jw v22.2.2.2.2.2.2.2.1 1).bind fun (v23:Int)=>(jw v22.2.2.2.2.2.2.2.2.1 2).bind fun (v24:B8)=>(jw v22.2.2.2.2.2.2.2.2.1 3).bind fun (v25:B8)=>(jw v22.2.2.2.2.2.2.2.2.1 4).bind fun (v26:B8)=>(jw v22.2.2.2.2.2.2.2.2.1 5).bind fun (v27:B8)=>some (v22.1,(),(),v22.2.2.2.2.2.1,(v22.2.2.2.2.2.2.1.1,v22.2.2.2.2.2.2.1.2.1,v22.2.2.2.2.2.2.1.2.2.1,v22.2.2.2.2.2.2.1.2.2.2.1,0,0,v23,v24,v25,v26,v27,()),())).bind fun (v28:B8×Unit×Unit×(Int×Int×Int×Int×Int×Int×Int×B8×B8×B8×B8×Unit)×(Int×Int×Int×Int×Int×Int×Int×B8×B8×B8×B8×Unit)×Unit)=>some v28 else some (v22.1,(),(),v22.2.2.2.2.2.1,v22.2.2.2.2.2.2.1,())).bind fun (v29:B8×Unit×Unit×(Int×Int×Int×Int×Int×Int×Int×B8×B8×B8×B8×Unit)×(Int×Int×Int×Int×Int×Int×Int×B8×B8×B8×B8×Unit)×Unit)=>((dp F v29.2.2.2.2.1).bind fun (v30:Bool)=>if (!v30)=false then (cw F v29.2.2.2.2.1).bind fun (v31:B8)=>some ((),(), !decide (v31=v29.1),v29.2.2.2.1,v29.2.2.2.2.1,()) else some ((),(),true,v29.2.2.2.1,v29.2.2.2.2.1,())).bind fun (v32:Unit×Unit×Bool×(Int×Int×Int×Int×Int×Int×Int×B8×B8×B8×B8×Unit)×(Int×Int×Int×Int×Int×Int×Int×B8×B8×B8×B8×Unit)×Unit)=>if v32.2.2.1=true then some ((0,0,0,0,0,0,0,[],[],[],[],()),false) else some (v32.2.2.2.2.1,true)
theorem iU (F:Nat):Ctr TT Tryz.prog 13 (ak TT mV (dI F)) :=
 aW F (code:=aw 13) Tryz.func13 (ag (ag (ag (ag (ag (ag aq (mW F)) (gh F)) (pU F)) (gj F)) (gJ F)) (fN F)) fun x=>by kernel_rfl
noncomputable def oh:Spec Kd:={ params := [(.a .str)],ret:=(.tup [(.a (.row 25 .ac)),(.a (.int .i64)),(.a (.int .i64))]),pins := [],pl:={ nt:=49,orc:={ rv := [2,5,33,35,38,45,48],gv := [] },bjoins := [(1,(.norm,⟨[.tmp 0 (.a .str), .tmp 5 (.a (.rowp 320)), .tmp 6 (.a (.int .i64)), .tmp 7 (.a (.int .i64)), .tmp 8 (.a (.int .i64)), .box 320 (.row 25 .ac)],[],[.tmpRow 5 320 25 .ac]⟩),[(.ret,⟨[.tmp 2 (.a (.rowp 128)), .tmp 3 (.a (.int .i64)), .tmp 4 (.a (.int .i64)), .box 128 (.row 25 .ac)],[],[.tmpRow 2 128 25 .ac]⟩)])],loops := [(0,⟨[.tmp 0 (.a .str), .tmp 5 (.a (.rowp 320)), .tmp 6 (.a (.int .i64)), .tmp 7 (.a (.int .i64)), .tmp 8 (.a (.int .i64)), .box 320 (.row 25 .ac)],[],[.tmpRow 5 320 25 .ac]⟩,(.exit 0,⟨[.tmp 0 (.a .str), .tmp 5 (.a (.rowp 320)), .tmp 6 (.a (.int .i64)), .tmp 7 (.a (.int .i64)), .box 320 (.row 25 .ac)],[],[.tmpRow 5 320 25 .ac]⟩),[(.ret,⟨[.tmp 2 (.a (.rowp 128)), .tmp 3 (.a (.int .i64)), .tmp 4 (.a (.int .i64)), .box 128 (.row 25 .ac)],[],[.tmpRow 2 128 25 .ac]⟩)])],cuts := [(9,[(11,⟨[.tmp 0 (.a .str), .tmp 5 (.a (.rowp 320)), .tmp 6 (.a (.int .i64)), .tmp 8 (.a (.int .i64)), .tmp 9 (.a (.ptr 576 0)), .tmp 10 (.a .bool), .box 320 (.row 25 .ac), .box 576 (.cells 25 [(.int .i64),(.int .i64),(.int .i64),(.int .i64),(.int .i64),(.int .i64),(.int .i64), .str, .str, .str, .str])],[],[.tmpRow 5 320 25 .ac]⟩)])] },rfrz := [],ts := [2,3,4] }
noncomputable def b7 (F:Nat) (v0:(B8 ×
    Unit×Int×Int×Int×List (Int×Int×Int×Int×Int×Int×Int×B8×B8×B8×B8×Unit)×Unit)):Option ((B8 ×
    Unit×Int×Int×Int×List (Int×Int×Int×Int×Int×Int×Int×B8×B8×B8×B8×Unit)×Unit) ⊕ (B8×Unit×Int×Int×List (Int×Int×Int×Int×Int×Int×Int×B8×B8×B8×B8×Unit)×Unit ⊕
    Unit×Int×Int×List (Int×Int×Int×Int×Int×Int×Int×B8×B8×B8×B8×Unit)×Unit)) :=
 if decide (v0.2.2.2.2.1<(↑v0.1.length:Int))=true then
     ((idx v0.1 v0.2.2.2.2.1).bind fun (v1:UInt8) =>
        if (!decide ((↑v1.toNat:Int)=10))=true then some (Sum.inl v0)
        else
         ((sub v0.1 v0.2.2.2.1 v0.2.2.2.2.1).bind fun (v2:B8) =>
            (dI F v2).bind
             fun (v3:(Int×Int×Int×Int×Int×Int×Int×B8×B8×B8×B8×Unit)×Bool) =>
             some (v0.1,(),IntKind.i64.wrap (v0.2.2.1+1),v0.2.2.2.2.1,(),v3.2,v0.2.2.2.2.2.1,v3.1,())).bind
          fun
           (v4 :
            B8 ×
             Unit ×
              Int ×
               Int ×
                Unit ×
                 Bool ×
                  List (Int×Int×Int×Int×Int×Int×Int×B8×B8×B8×B8×Unit) ×
                   (Int×Int×Int×Int×Int×Int×Int×B8×B8×B8×B8×Unit)×Unit) =>
          if (!v4.2.2.2.2.2.1)=true then some (Sum.inr ((),v4.2.2.1,3,v4.2.2.2.2.2.2.1,()))
          else
           if decide ((v4.2.2.2.2.2.2.1.length + [v4.2.2.2.2.2.2.2.1].length) * 120≤140737488355328)=true then
            some (Sum.inl (v4.1,(),v4.2.2.1,IntKind.i64.wrap (v4.2.2.2.1+1),v4.2.2.2.1,v4.2.2.2.2.2.2.1 ++ [v4.2.2.2.2.2.2.2.1],()))
           else none).bind
      fun
       (v5 :
        B8 ×
          Unit ×
           Int×Int×Int×List (Int×Int×Int×Int×Int×Int×Int×B8×B8×B8×B8×Unit)×Unit ⊕
         Unit×Int×Int×List (Int×Int×Int×Int×Int×Int×Int×B8×B8×B8×B8×Unit)×Unit) =>
      eW v5
       (fun
         (v6 :
          B8 ×
           Unit ×
            Int×Int×Int×List (Int×Int×Int×Int×Int×Int×Int×B8×B8×B8×B8×Unit)×Unit) =>
        some (Sum.inl (v6.1,(),v6.2.2.1,v6.2.2.2.1,IntKind.i64.wrap (v6.2.2.2.2.1+1),v6.2.2.2.2.2.1,())))
       fun
        (v7:Unit×Int×Int×List (Int×Int×Int×Int×Int×Int×Int×B8×B8×B8×B8×Unit)×Unit) =>
       some (Sum.inr (Sum.inr ((),v7.2.1,v7.2.2.1,v7.2.2.2.1,())))
    else some (Sum.inr (Sum.inl (v0.1,(),v0.2.2.1,v0.2.2.2.1,v0.2.2.2.2.2.1,())))
noncomputable def eV (F:Nat) (x:B8):Option ((List (El .ac))×(Int)×(Int)):=(bS (b7 F) F (x,(),0,0,0,[],())).bind fun (v8:B8×Unit×Int×Int×List (Int×Int×Int×Int×Int×Int×Int×B8×B8×B8×B8×Unit)×Unit ⊕ Unit×Int×Int×List (Int×Int×Int×Int×Int×Int×Int×B8×B8×B8×B8×Unit)×Unit)=>eW v8 (fun (v9:B8×Unit×Int×Int×List (Int×Int×Int×Int×Int×Int×Int×B8×B8×B8×B8×Unit)×Unit)=>if decide (v9.2.2.2.1<(↑v9.1.length:Int))=true then some (v9.2.2.2.2.1,IntKind.i64.wrap (v9.2.2.1+1),3) else some (v9.2.2.2.2.1,0,0)) fun (v10:Unit×Int×Int×List (Int×Int×Int×Int×Int×Int×Int×B8×B8×B8×B8×Unit)×Unit)=>some (v10.2.2.2.1,v10.2.1,v10.2.2.1)
theorem oc (F:Nat):Ctr TT Tryz.prog 15 (ak TT oh (eV F)) :=
 aW F (code:=aw 15) Tryz.func15 (ag aq (iU F)) fun x=>by kernel_rfl
end Go.Vm
