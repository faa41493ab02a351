import Derived.Test.YtcnigpigmhpakaaGreatDoorKt
import Derived.Test.YtcnigpigmhpakaaGreatDoorFbld
import Derived.Test.YtcnigpigmhpakaaGreatDoorFjval
import Derived.Test.YtcnigpigmhpakaaGreatDoorV11
/- Models of functions of the program, and that each keeps its contract: for all arguments of its shape. No condition. -/
namespace Go.Vm
open Go.Proofs
set_option linter.unusedVariables false
noncomputable def ym:Spec Kd:={ params := [(.a (.row 5 .u8)),(.a .str)],ret:=(.one (.a (.row 5 .u8))),pins := [],pl:={ nt:=72,orc:={ rv := [4,69,71],gv := [15] },loops := [(0,⟨[.tmp 0 (.a (.rowp 1)), .tmp 11 (.a (.ptr 704 0)), .box 704 .siter, .box 1 (.row 5 .u8)],[1088],[.tmpRow 0 1 5 .u8]⟩,(.exit 0,⟨[.tmp 0 (.a (.rowp 1)), .box 1 (.row 5 .u8)],[1088],[.tmpRow 0 1 5 .u8]⟩),[])],cuts := [(6,[(6,⟨[.tmp 0 (.a (.rowp 1)), .tmp 6 (.a (.int .i32)), .tmp 11 (.a (.ptr 704 0)), .tmp 24 (.a .bool), .box 704 .siter, .box 1 (.row 5 .u8)],[1088],[.tmpRow 0 1 5 .u8]⟩)])] },rfrz := [],ts := [4] }
noncomputable def fV (F:Nat) (v0:(Unit×Unit×(B8×Nat)×B8×Unit)):Option ((Unit×Unit×(B8×Nat)×B8×Unit) ⊕ (Unit×B8×Unit)):=if decide (v0.2.2.1.2<v0.2.2.1.1.length)=true then (if decide (eY v0.2.2.1.1 v0.2.2.1.2=34)=false then some ((),eY v0.2.2.1.1 v0.2.2.1.2,(),decide (eY v0.2.2.1.1 v0.2.2.1.2=92),(v0.2.2.1.1,v0.2.2.1.2+runeLen v0.2.2.1.1 v0.2.2.1.2),v0.2.2.2.1,()) else some ((),eY v0.2.2.1.1 v0.2.2.1.2,(),true,(v0.2.2.1.1,v0.2.2.1.2+runeLen v0.2.2.1.1 v0.2.2.1.2),v0.2.2.2.1,())).bind fun v1=>if v1.2.2.2.1=true then if decide ((v1.2.2.2.2.2.1.length + [UInt8.ofNat 92,UInt8.ofNat (IntKind.u8.wrap v1.2.1).toNat].length) * 1≤140737488355328)=true then some (Sum.inl ((),(),v1.2.2.2.2.1,v1.2.2.2.2.2.1 ++ [UInt8.ofNat 92,UInt8.ofNat (IntKind.u8.wrap v1.2.1).toNat],())) else none else if decide (v1.2.1=8)=true then if decide ((v1.2.2.2.2.2.1.length + [92,98].length) * 1≤140737488355328)=true then some (Sum.inl ((),(),v1.2.2.2.2.1,v1.2.2.2.2.2.1 ++ [92,98],())) else none else if decide (v1.2.1=12)=true then if decide ((v1.2.2.2.2.2.1.length + [92,102].length) * 1≤140737488355328)=true then some (Sum.inl ((),(),v1.2.2.2.2.1,v1.2.2.2.2.2.1 ++ [92,102],())) else none else if decide (v1.2.1=10)=true then if decide ((v1.2.2.2.2.2.1.length + [92,110].length) * 1≤140737488355328)=true then some (Sum.inl ((),(),v1.2.2.2.2.1,v1.2.2.2.2.2.1 ++ [92,110],())) else none else if decide (v1.2.1=13)=true then if decide ((v1.2.2.2.2.2.1.length + [92,114].length) * 1≤140737488355328)=true then some (Sum.inl ((),(),v1.2.2.2.2.1,v1.2.2.2.2.2.1 ++ [92,114],())) else none else if decide (v1.2.1=9)=true then if decide ((v1.2.2.2.2.2.1.length + [92,116].length) * 1≤140737488355328)=true then some (Sum.inl ((),(),v1.2.2.2.2.1,v1.2.2.2.2.2.1 ++ [92,116],())) else none else if decide (v1.2.1<32)=true then if decide ((v1.2.2.2.2.2.1.length + [92,117,48,48].length) * 1≤140737488355328)=true then (idx ([48,49,50,51,52,53,54,55,56,57,97,98,99,100,101,102]:B8) (shr IntKind.i32 v1.2.1 4)).bind fun v2=>(idx ([48,49,50,51,52,53,54,55,56,57,97,98,99,100,101,102]:B8) (mZ IntKind.i32 v1.2.1 15)).bind fun v3=>if decide (((v1.2.2.2.2.2.1 ++ [92,117,48,48]).length + [UInt8.ofNat (↑v2.toNat:Int).toNat,UInt8.ofNat (↑v3.toNat:Int).toNat].length) * 1≤140737488355328)=true then some (Sum.inl ((),(),v1.2.2.2.2.1,v1.2.2.2.2.2.1 ++ [92,117,48,48] ++ [UInt8.ofNat (↑v2.toNat:Int).toNat,UInt8.ofNat (↑v3.toNat:Int).toNat],())) else none else none else (cB F (v1.2.2.2.2.2.1,v1.2.1)).bind fun v4=>some (Sum.inl ((),(),v1.2.2.2.2.1,v4,())) else some (Sum.inr ((),v0.2.2.2.1,()))
noncomputable def kH (F:Nat) (x:(List (El .u8))×B8):Option (List (El .u8)):=if decide ((x.1.length + [UInt8.ofNat 34].length) * 1≤140737488355328)=true then (bS (fV F) F ((),(),(x.2,0),x.1 ++ [UInt8.ofNat 34],())).bind fun v5=>if decide ((v5.2.1.length + [UInt8.ofNat 34].length) * 1≤140737488355328)=true then some (v5.2.1 ++ [UInt8.ofNat 34]) else none else none
theorem yc (F:Nat):Ctr TT Tryz.prog 51 (ak TT ym (kH F)) :=
 aW F (code:=aw 51) Tryz.func51 (ag aq (gW F)) fun x=>by kernel_rfl
end Go.Vm
/- Models of functions of the program, and that each keeps its contract: for all arguments of its shape. No condition. -/
namespace Go.Vm
open Go.Proofs
set_option linter.unusedVariables false
noncomputable def yU:Spec Kd:={ params := [(.a .str)],ret:=(.tup [(.a (.any .jv)),(.a (.int .i64))]),pins := [],pl:={ nt:=35,joins := [(800022,(.norm,⟨[.tmp 4 (.a (.ptr 704 0)), .tmp 5 (.a (.any .jv)), .box 704 (.cells 97 [.str,(.int .i64),(.int .i64),(.int .i64)])],[],[]⟩),[])] },rfrz := [],ts := [2,3],rco := [.tmpAny 2 .jv] }
noncomputable def gV (F:Nat) (x:B8):Option ((El .jv)×(Int)):=if decide (400<(↑x.length:Int))=true then some (JV.nil,5) else (ic F (x,0,0,0,())).bind fun (v0:JV×B8×Int×Int×Int×Unit)=>(bh F (v0.2.1,v0.2.2.1,v0.2.2.2.1,v0.2.2.2.2.1,())).bind fun (v1:Int×B8×Int×Int×Int×Unit)=>(if decide (v1.2.2.1<(↑x.length:Int))=true then (aG F ((v1.2.1,v1.2.2.1,v1.2.2.2.1,v1.2.2.2.2.1,()),3)).bind fun (v2:Unit×B8×Int×Int×Int×Unit)=>some ((),v0.1,(v2.2.1,v2.2.2.1,v2.2.2.2.1,v2.2.2.2.2.1,()),()) else some ((),v0.1,(v1.2.1,v1.2.2.1,v1.2.2.2.1,v1.2.2.2.2.1,()),())).bind fun (v3:Unit×JV×(B8×Int×Int×Int×Unit)×Unit)=>if (!decide (v3.2.2.1.2.2.2.1=0))=true then some (JV.nil,v3.2.2.1.2.2.2.1) else some (v3.2.1,0)
theorem rP (F:Nat):Ctr TT Tryz.prog 42 (ak TT yU (gV F)) :=
 aW F (code:=aw 42) Tryz.func42 (ag (ag (ag aq (pQ F)) (eL F)) (dc F)) fun x=>by kernel_rfl
noncomputable def AL:Spec Kd:={ params := [(.a .str)],ret:=(.tup [(.a .str),(.a .bool)]),pins := [],pl:={ nt:=20 },rfrz := [],ts := [2,3] }
noncomputable def mf (F:Nat) (x:B8):Option (B8×(Bool)):=(gV F x).bind fun (v0:JV×Int)=>if tz v0.1.JN=true then v0.1.JN.bind fun (v1:B8)=>some (v1,true) else some ([],false)
theorem Ah (F:Nat):Ctr TT Tryz.prog 30 (ak TT AL (mf F)) :=
 aW F (code:=aw 30) Tryz.func30 (ag aq (rP F)) fun x=>by kernel_rfl
noncomputable def wh:Spec Kd:={ params := [(.a .str)],ret:=(.tup [(.a (.int .i64)),(.a .bool)]),pins := [],pl:={ nt:=20 },rfrz := [],ts := [2,3] }
noncomputable def jM (F:Nat) (x:B8):Option ((Int)×(Bool)):=(gV F x).bind fun (v0:JV×Int)=>if tz v0.1.int? = true then v0.1.int?.bind fun (v1:Int)=>some (v1,true) else some (0,false)
theorem wb (F:Nat):Ctr TT Tryz.prog 29 (ak TT wh (jM F)) :=
 aW F (code:=aw 29) Tryz.func29 (ag aq (rP F)) fun x=>by kernel_rfl
namespace Vld
open Go.Proofs Go.Shelf Go.RowKit
def eX:Ren:=⟨fun | 196=>50 | 259=>66 | n=>n,fun | 0=>0 | 3=>3 | 4=>4 | 5=>5 | 9=>9 | 12=>12 | 46=>111 | 53=>122 | 119=>107 | 138=>109 | 139=>110 | n=>n,fun | 3=>0 | 4=>1 | n=>n⟩
theorem fC:Lays.n196 Tryz.prog eX:={ mixed:=(by kernel_rfl),f196:=Tryz.func50.trans (congrArg some (by kernel_rfl)),f259:=Tryz.func66.trans (congrArg some (by kernel_rfl)),t0:=Tryz.underlying0,a0:=Tryz.isAgg0,z0:=Tryz.sizeOf0,v0:=Tryz.zeroValue0,t3:=Tryz.underlying3,a3:=Tryz.isAgg3,z3:=Tryz.sizeOf3,v3:=Tryz.zeroValue3,t4:=Tryz.underlying4,a4:=Tryz.isAgg4,z4:=Tryz.sizeOf4,v4:=Tryz.zeroValue4,t5:=Tryz.underlying5,a5:=Tryz.isAgg5,z5:=Tryz.sizeOf5,v5:=Tryz.zeroValue5,t9:=Tryz.underlying9,a9:=Tryz.isAgg9,z9:=Tryz.sizeOf9,v9:=Tryz.zeroValue9,t12:=Tryz.underlying12,a12:=Tryz.isAgg12,z12:=Tryz.sizeOf12,v12:=Tryz.zeroValue12,t46:=Tryz.underlying111,a46:=Tryz.isAgg111,z46:=Tryz.sizeOf111,v46:=Tryz.zeroValue111,t53:=Tryz.underlying122,a53:=Tryz.isAgg122,z53:=Tryz.sizeOf122,v53:=Tryz.zeroValue122,t119:=Tryz.underlying107,a119:=Tryz.isAgg107,z119:=Tryz.sizeOf107,t138:=Tryz.underlying109,a138:=Tryz.isAgg109,z138:=Tryz.sizeOf109,v138:=Tryz.zeroValue109,t139:=Tryz.underlying110,a139:=Tryz.isAgg110,z139:=Tryz.sizeOf110,v139:=Tryz.zeroValue110,g3:=(by kernel_rfl),g4:=(by kernel_rfl) }
end Vld
noncomputable def lM:Spec Kd:=Fc
noncomputable def dA (F:Nat) (x:B8):Option Bool:=zd x
theorem lQ (F:Nat):Ctr TT Tryz.prog 50 (ak TT lM (dA F)):=DK (kt:=kt) (ρ:=Vld.eX) Vld.fC (fun w h=>h.more.1) Tryz.func50 (by kernel_rfl) (by kernel_rfl) rfl
noncomputable def yO:Spec Kd:={ params := [(.a .str)],ret:=(.tup [(.a .str),(.a .bool)]),pins := [],pl:={ nt:=15,cuts := [(1,[(8,⟨[.tmp 0 (.a .str), .tmp 11 (.a .bool)],[832],[]⟩)])] },rfrz := [],ts := [2,3] }
noncomputable def kJ (F:Nat) (x:B8):Option (B8×(Bool)):=(if decide (400<(↑x.length:Int))=false then (dA F x).bind fun (v0:Bool)=>some (x, !v0,()) else some (x,true,())).bind fun (v1:B8×Bool×Unit)=>if v1.2.1=true then some ([],false) else (kH F ([],v1.1)).bind fun (v2:B8)=>some (v2,true)
theorem yj (F:Nat):Ctr TT Tryz.prog 39 (ak TT yO (kJ F)) :=
 aW F (code:=aw 39) Tryz.func39 (ag (ag aq (lQ F)) (yc F)) fun x=>by kernel_rfl
end Go.Vm
