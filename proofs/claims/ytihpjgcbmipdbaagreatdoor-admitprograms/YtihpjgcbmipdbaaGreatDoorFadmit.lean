import Derived.Test.YtihpjgcbmipdbaaGreatDoorKt
import Derived.Test.YtihpjgcbmipdbaaGreatDoorFjson
import Derived.Test.YtihpjgcbmipdbaaGreatDoorFcanonr
/- Models of functions of the program, and that each keeps its contract: for all arguments of its shape. No condition. -/
namespace Go.Vm
open Go.Proofs
set_option linter.unusedVariables false
noncomputable def BS:Spec Kd:={ params := [(.a .str)],ret:=(.tup [(.a .str),(.a (.int .i64))]),pins := [],pl:={ nt:=17 },rfrz := [],ts := [2,3] }
noncomputable def l9 (F:Nat) (x:B8):Option (B8×(Int)):=(kQ F x).bind fun (v0:JV×Int)=>if (!decide (v0.2=0))=true then some ([],v0.2) else (rL F ([],v0.1)).bind fun (v1:B8)=>some (v1,0)
theorem Dm (F:Nat):Ctr TT Tryz.prog 52 (aj TT BS (l9 F)) :=
 ao F (code:=ak 52) Tryz.func52 (ag (ag ai (AX F)) (EH F)) fun x=>by kernel_rfl
end Go.Vm
/- Models of functions of the program, and that each keeps its contract: for all arguments of its shape. No condition. -/
namespace Go.Vm
open Go.Proofs
set_option linter.unusedVariables false
noncomputable def BE:Spec Kd:={ params := [(.a (.int .i64)),(.a (.int .i64)),(.a (.int .i64))],ret:=(.one (.a (.int .i64))),pins := [],pl:={ nt:=12 },rfrz := [],ts := [6] }
noncomputable def kH (F:Nat) (x:(Int)×(Int)×(Int)):Option (Int):=some (if x.2.2<if x.1<x.2.1 then x.2.1 else x.1 then x.2.2 else if x.1<x.2.1 then x.2.1 else x.1)
theorem Ay (F:Nat):Ctr TT Tryz.prog 180 (aj TT BE (kH F)) :=
 ao F (code:=ak 180) Tryz.func180 ai fun x=>by kernel_rfl
noncomputable def DH:Spec Kd:={ params := [(.a (.int .i64))],ret:=(.one (.a (.int .i64))),pins := [],pl:={ nt:=5 },rfrz := [],ts := [2] }
noncomputable def lh (F:Nat) (x:(Int)):Option (Int):=(kH F (x,0,1099511627776)).bind fun (v0:Int)=>some v0
theorem D6 (F:Nat):Ctr TT Tryz.prog 115 (aj TT DH (lh F)) :=
 ao F (code:=ak 115) Tryz.func115 (ag ai (Ay F)) fun x=>by kernel_rfl
noncomputable def DM:Spec Kd:={ params := [(.a (.int .i64)),(.a (.int .i64))],ret:=(.one (.a (.int .i64))),pins := [],pl:={ nt:=11 },rfrz := [],ts := [4] }
noncomputable def r9 (F:Nat) (x:(Int)×(Int)):Option (Int):=(lh F x.2).bind fun (v0:Int)=>(lh F x.1).bind fun (v1:Int)=>some (if IntKind.i64.wrap (v0 - v1)<0 then 0 else IntKind.i64.wrap (v0 - v1))
theorem Dy (F:Nat):Ctr TT Tryz.prog 60 (aj TT DM (r9 F)) :=
 ao F (code:=ak 60) Tryz.func60 (ag ai (D6 F)) fun x=>by kernel_rfl
noncomputable def nL:Spec Kd:={ params := [(.a (.int .i64)),(.a (.int .i64)),(.a (.int .i64))],ret:=(.one (.a (.int .i64))),pins := [],pl:={ nt:=16 },rfrz := [],ts := [6] }
noncomputable def eH (F:Nat) (x:(Int)×(Int)×(Int)):Option (Int):=if decide (x.1<x.2.1)=true then some x.2.1 else if decide (x.2.2<x.1)=true then some x.2.2 else some x.1
theorem nO (F:Nat):Ctr TT Tryz.prog 116 (aj TT nL (eH F)) :=
 ao F (code:=ak 116) Tryz.func116 ai fun x=>by kernel_rfl
noncomputable def oO:Spec Kd:={ params := [(.a (.int .i64))],ret:=(.one (.a (.int .i64))),pins := [],pl:={ nt:=5 },rfrz := [],ts := [2] }
noncomputable def dF (F:Nat) (x:(Int)):Option (Int):=(eH F (x,0,1099511627776)).bind fun (v0:Int)=>some v0
theorem o8 (F:Nat):Ctr TT Tryz.prog 61 (aj TT oO (dF F)) :=
 ao F (code:=ak 61) Tryz.func61 (ag ai (nO F)) fun x=>by kernel_rfl
end Go.Vm
/- Models of functions of the program, and that each keeps its contract: for all arguments of its shape. No condition. -/
namespace Go.Vm
open Go.Proofs
set_option linter.unusedVariables false
noncomputable def vJ:Spec Kd:={ params := [(.a (.slc .rl)),(.a .str),(.a .str)],ret:=(.tup [(.a (.slc .ph)),(.a .bool)]),pins := [],pl:={ nt:=20 },rfrz := [],ts := [6,7] }
noncomputable def fY (F:Nat) (x:(List (El .rl))×B8×B8):Option ((List (El .ph))×(Bool)):=(kK F x).bind fun (v0:Int)=>if decide (v0<0)=true then some ([],false) else (idx x.1 v0).bind fun (v1:B8×B8×List (Int×B8×Int×B8×Unit)×Unit)=>some (v1.2.2.1,true)
theorem oz (F:Nat):Ctr TT Tryz.prog 54 (aj TT vJ (fY F)) :=
 ao F (code:=ak 54) Tryz.func54 (ag ai (Bd F)) fun x=>by kernel_rfl
noncomputable def yf:Spec Kd:={ params := [(.agg [(.int .i64),(.int .i64),(.int .i64), .str, .str, .str, .str]),(.a (.slc .rl))],ret:=(.tup [(.agg [(.int .i64),(.int .i64),(.int .i64), .str, .str, .str, .str]),(.a (.row 62 .ph)),(.a (.int .i64))]),pins := [],pl:={ nt:=51,orc:={ rv := [5,48,50],gv := [] },joins := [(600024,(.norm,⟨[.tmp 1 (.a (.slc .rl)), .tmp 2 (.a (.ptr 128 0)), .tmp 4 (.a (.ptr 256 0)), .box 128 (.cells 23 [(.int .i64),(.int .i64),(.int .i64), .str, .str, .str, .str]), .box 256 (.cells 23 [(.int .i64),(.int .i64),(.int .i64), .str, .str, .str, .str])],[],[]⟩),[])],cuts := [(9,[(11,⟨[.tmp 4 (.a (.ptr 256 0)), .tmp 9 (.a (.ptr 576 0)), .tmp 10 (.a .bool), .tmp 11 (.a (.slc .ph)), .box 256 (.cells 23 [(.int .i64),(.int .i64),(.int .i64), .str, .str, .str, .str]), .box 576 (.cells 23 [(.int .i64),(.int .i64),(.int .i64), .str, .str, .str, .str])],[],[]⟩)])] },rfrz := [],ts := [51,52,53],rc := [(4,some 23),(5,none),(6,none)] }
noncomputable def dU (F:Nat) (x:((Int)×(Int)×(Int)×B8×B8×B8×B8×Unit)×(List (El .rl))):Option (((Int)×(Int)×(Int)×B8×B8×B8×B8×Unit)×(List (El .ph))×(Int)):=if decide (80<(↑x.1.2.2.2.2.2.2.1.length:Int))=true then some ((0,0,0,[],[],[],[],()),[],413) else (l9 F x.1.2.2.2.2.2.2.1).bind fun (v0:B8×Int)=>(if decide (v0.2=0)=true then some (x.2,(),(),(x.1.1,x.1.2.1,x.1.2.2.1,x.1.2.2.2.1,x.1.2.2.2.2.1,x.1.2.2.2.2.2.1,v0.1,()),(0,0,0,[],[],[],[],()),()) else some (x.2,(),(),x.1,(0,0,0,[],[],[],[],()),())).bind fun (v1:List (B8×B8×List (Int×B8×Int×B8×Unit)×Unit)×Unit×Unit×(Int×Int×Int×B8×B8×B8×B8×Unit)×(Int×Int×Int×B8×B8×B8×B8×Unit)×Unit)=>(gd F v1.2.2.2.1).bind fun (v2:(Int×Int×Int×B8×B8×B8×B8×Unit)×Bool)=>if (!v2.2)=true then some ((0,0,0,[],[],[],[],()),[],400) else ((fY F (v1.1,v2.1.2.2.2.2.1,v2.1.2.2.2.2.2.1)).bind fun (v3:List (Int×B8×Int×B8×Unit)×Bool)=>some ((),(),v3.2,v3.1,v1.2.2.2.2.1,v2.1,())).bind fun (v4:Unit×Unit×Bool×List (Int×B8×Int×B8×Unit)×(Int×Int×Int×B8×B8×B8×B8×Unit)×(Int×Int×Int×B8×B8×B8×B8×Unit)×Unit)=>if (!v4.2.2.1)=true then some ((0,0,0,[],[],[],[],()),[],400) else if decide ((0+v4.2.2.2.1.length) * 48≤140737488355328)=true then some (v4.2.2.2.2.2.1,v4.2.2.2.1,0) else none
theorem rr (F:Nat):Ctr TT Tryz.prog 16 (aj TT yf (dU F)) :=
 ao F (code:=ak 16) Tryz.func16 (ag (ag (ag ai (Dm F)) (vu F)) (oz F)) fun x=>by kernel_rfl
noncomputable def vB:Spec Kd:={ params := [(.a (.slc .rl)),(.agg [(.int .i64), .str,(.int .i64),(.int .i64),(.int .i64),(.int .i64), .str,(.int .i64),(.int .i64),(.int .i64), .str, .str, .str, .str])],ret:=(.one (.a (.row 62 .ph))),pins := [],pl:={ nt:=19,orc:={ rv := [4,16,18],gv := [] },cuts := [(1,[(11,⟨[.tmp 5 (.a (.slc .ph))],[],[]⟩)])] },rfrz := [],ts := [4] }
noncomputable def iy (F:Nat) (x:(List (El .rl))×((Int)×B8×(Int)×(Int)×(Int)×(Int)×B8×(Int)×(Int)×(Int)×B8×B8×B8×B8×Unit)):Option (List (El .ph)):=((fY F (x.1,x.2.2.2.2.2.2.2.2.2.2.2.2.1,x.2.2.2.2.2.2.2.2.2.2.2.2.2.1)).bind fun (v0:List (Int×B8×Int×B8×Unit)×Bool)=>some (v0.1,())).bind fun (v1:List (Int×B8×Int×B8×Unit)×Unit)=>if decide ((0+v1.1.length) * 48≤140737488355328)=true then some v1.1 else none
theorem vI (F:Nat):Ctr TT Tryz.prog 23 (aj TT vB (iy F)) :=
 ao F (code:=ak 23) Tryz.func23 (ag ai (oz F)) fun x=>by kernel_rfl
noncomputable def yl:Spec Kd:={ params := [(.a (.int .i64)),(.a (.int .i64))],ret:=(.one (.a (.int .i64))),pins := [],pl:={ nt:=9 },rfrz := [],ts := [4] }
noncomputable def im (F:Nat) (x:(Int)×(Int)):Option (Int):=(r9 F x).bind fun (v0:Int)=>some (if v0<1 then 1 else v0)
theorem qZ (F:Nat):Ctr TT Tryz.prog 22 (aj TT yl (im F)) :=
 ao F (code:=ak 22) Tryz.func22 (ag ai (Dy F)) fun x=>by kernel_rfl
end Go.Vm
