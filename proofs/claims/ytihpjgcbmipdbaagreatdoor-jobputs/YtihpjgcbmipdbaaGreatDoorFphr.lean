import Derived.Test.YtihpjgcbmipdbaaGreatDoorKt
import Derived.Test.YtihpjgcbmipdbaaGreatDoorFjval
import Derived.Test.YtihpjgcbmipdbaaGreatDoorFjlay
import Derived.Test.YtihpjgcbmipdbaaGreatDoorV11
import Derived.Test.YtihpjgcbmipdbaaGreatDoorFbld
import Derived.Test.YtihpjgcbmipdbaaGreatDoorFsort
/- Models of functions of the program, and that each keeps its contract: for all arguments of its shape. No condition. -/
namespace Go.Vm
open Go.Proofs
set_option linter.unusedVariables false
noncomputable def zb:Spec Kd:={ params := [(.a .str)],ret:=(.tup [(.a (.any .jv)),(.a (.int .i64))]),pins := [],pl:={ nt:=35,joins := [(800022,(.norm,⟨[.tmp 4 (.a (.ptr 704 0)), .tmp 5 (.a (.any .jv)), .box 704 (.cells 191 [.str,(.int .i64),(.int .i64),(.int .i64)])],[],[]⟩),[])] },rfrz := [],ts := [2,3],rco := [.tmpAny 2 .jv] }
noncomputable def eN (F:Nat) (x:B8):Option ((El .jv)×(Int)):=if decide (400<(↑x.length:Int))=true then some (JV.nil,5) else (fX F (x,0,0,0,())).bind fun (v0:JV×B8×Int×Int×Int×Unit)=>(aR F (v0.2.1,v0.2.2.1,v0.2.2.2.1,v0.2.2.2.2.1,())).bind fun (v1:Int×B8×Int×Int×Int×Unit)=>(if decide (v1.2.2.1<(↑x.length:Int))=true then (aw F ((v1.2.1,v1.2.2.1,v1.2.2.2.1,v1.2.2.2.2.1,()),3)).bind fun (v2:Unit×B8×Int×Int×Int×Unit)=>some ((),v0.1,(v2.2.1,v2.2.2.1,v2.2.2.2.1,v2.2.2.2.2.1,()),()) else some ((),v0.1,(v1.2.1,v1.2.2.1,v1.2.2.2.1,v1.2.2.2.2.1,()),())).bind fun (v3:Unit×JV×(B8×Int×Int×Int×Unit)×Unit)=>if (!decide (v3.2.2.1.2.2.2.1=0))=true then some (JV.nil,v3.2.2.1.2.2.2.1) else some (v3.2.1,0)
theorem mZ (F:Nat):Ctr TT Tryz.prog 101 (aj TT zb (eN F)) :=
 al F (code:=ak 101) Tryz.func101 (af (af (af ah (pg F)) (dR F)) (cj F)) fun x=>by kernel_rfl
noncomputable def Aa:Spec Kd:={ params := [(.a .str)],ret:=(.tup [(.a .str),(.a .bool)]),pins := [],pl:={ nt:=20 },rfrz := [],ts := [2,3] }
noncomputable def kY (F:Nat) (x:B8):Option (B8×(Bool)):=(eN F x).bind fun (v0:JV×Int)=>if nF v0.1.GF=true then v0.1.GF.bind fun (v1:B8)=>some (v1,true) else some ([],false)
theorem zX (F:Nat):Ctr TT Tryz.prog 239 (aj TT Aa (kY F)) :=
 al F (code:=ak 239) Tryz.func239 (af ah (mZ F)) fun x=>by kernel_rfl
noncomputable def xT:Spec Kd:={ params := [(.a .str),(.a .str)],ret:=(.tup [(.a .str),(.a .bool)]),pins := [],pl:={ nt:=33 },rfrz := [],ts := [4,5] }
noncomputable def iq (F:Nat) (x:B8×B8):Option (B8×(Bool)):=(eN F x.1).bind fun (v0:JV×Int)=>if nF v0.1.ET=true then v0.1.ET.bind fun (v1:List (B8×JV×Unit))=>(bI F (v1,x.2)).bind fun (v2:Int)=>if decide (v2<0)=true then some ([],false) else (idx v1 v2).bind fun (v3:B8×JV×Unit)=>(kC F ([],v3.2.1)).bind fun (v4:B8)=>some (v4,true) else (bI F ([],x.2)).bind fun (v5:Int)=>if decide (v5<0)=true then some ([],false) else (idx [] v5).bind fun (v6:B8×JV×Unit)=>(kC F ([],v6.2.1)).bind fun (v7:B8)=>some (v7,true)
theorem qu (F:Nat):Ctr TT Tryz.prog 125 (aj TT xT (iq F)) :=
 al F (code:=ak 125) Tryz.func125 (af (af (af ah (mZ F)) (kP F)) (B2 F)) fun x=>by kernel_rfl
noncomputable def wh:Spec Kd:={ params := [(.a .str)],ret:=(.tup [(.a (.int .i64)),(.a .bool)]),pins := [],pl:={ nt:=20 },rfrz := [],ts := [2,3] }
noncomputable def iZ (F:Nat) (x:B8):Option ((Int)×(Bool)):=(eN F x).bind fun (v0:JV×Int)=>if nF v0.1.int? = true then v0.1.int?.bind fun (v1:Int)=>some (v1,true) else some (0,false)
theorem wi (F:Nat):Ctr TT Tryz.prog 126 (aj TT wh (iZ F)) :=
 al F (code:=ak 126) Tryz.func126 (af ah (mZ F)) fun x=>by kernel_rfl
end Go.Vm
/- Models of functions of the program, and that each keeps its contract: for all arguments of its shape. No condition. -/
namespace Go.Vm
open Go.Proofs
set_option linter.unusedVariables false
namespace Trm
open Go.Proofs Go.Shelf Go.RowKit
def du:Ren:=⟨fun | 119=>235 | 120=>297 | 137=>200 | 151=>280 | 152=>296 | 160=>199 | 197=>230 | 217=>250 | 224=>268 | 225=>267 | 227=>245 | 228=>279 | 231=>243 | 232=>244 | 233=>246 | 234=>247 | 235=>248 | 236=>249 | 260=>266 | 266=>282 | 271=>281 | n=>n,fun | 0=>0 | 3=>3 | 4=>4 | 5=>5 | 9=>9 | 21=>21 | 46=>228 | 105=>231 | 116=>242 | 117=>243 | 119=>270 | 124=>246 | 138=>272 | 139=>273 | n=>n,fun | 3=>1 | 4=>2 | n=>n⟩
theorem eP:Lays.n160 Tryz.prog du:={ mixed:=(by kernel_rfl),f119:=Tryz.func235.trans (congrArg some (by kernel_rfl)),f120:=Tryz.func297.trans (congrArg some (by kernel_rfl)),f137:=Tryz.func200.trans (congrArg some (by kernel_rfl)),f151:=Tryz.func280.trans (congrArg some (by kernel_rfl)),f152:=Tryz.func296.trans (congrArg some (by kernel_rfl)),f160:=Tryz.func199.trans (congrArg some (by kernel_rfl)),f197:=Tryz.func230.trans (congrArg some (by kernel_rfl)),f217:=Tryz.func250.trans (congrArg some (by kernel_rfl)),f224:=Tryz.func268.trans (congrArg some (by kernel_rfl)),f225:=Tryz.func267.trans (congrArg some (by kernel_rfl)),f227:=Tryz.func245.trans (congrArg some (by kernel_rfl)),f228:=Tryz.func279.trans (congrArg some (by kernel_rfl)),f231:=Tryz.func243.trans (congrArg some (by kernel_rfl)),f232:=Tryz.func244.trans (congrArg some (by kernel_rfl)),f233:=Tryz.func246.trans (congrArg some (by kernel_rfl)),f234:=Tryz.func247.trans (congrArg some (by kernel_rfl)),f235:=Tryz.func248.trans (congrArg some (by kernel_rfl)),f236:=Tryz.func249.trans (congrArg some (by kernel_rfl)),f260:=Tryz.func266.trans (congrArg some (by kernel_rfl)),f266:=Tryz.func282.trans (congrArg some (by kernel_rfl)),f271:=Tryz.func281.trans (congrArg some (by kernel_rfl)),t0:=Tryz.underlying0,a0:=Tryz.isAgg0,z0:=Tryz.sizeOf0,v0:=Tryz.zeroValue0,t3:=Tryz.underlying3,a3:=Tryz.isAgg3,z3:=Tryz.sizeOf3,v3:=Tryz.zeroValue3,t4:=Tryz.underlying4,a4:=Tryz.isAgg4,z4:=Tryz.sizeOf4,v4:=Tryz.zeroValue4,t5:=Tryz.underlying5,a5:=Tryz.isAgg5,z5:=Tryz.sizeOf5,v5:=Tryz.zeroValue5,t9:=Tryz.underlying9,a9:=Tryz.isAgg9,z9:=Tryz.sizeOf9,v9:=Tryz.zeroValue9,t21:=Tryz.underlying21,a21:=Tryz.isAgg21,z21:=Tryz.sizeOf21,v21:=Tryz.zeroValue21,t46:=Tryz.underlying228,a46:=Tryz.isAgg228,z46:=Tryz.sizeOf228,v46:=Tryz.zeroValue228,t105:=Tryz.underlying231,a105:=Tryz.isAgg231,z105:=Tryz.sizeOf231,v105:=Tryz.zeroValue231,t116:=Tryz.underlying242,a116:=Tryz.isAgg242,z116:=Tryz.sizeOf242,t117:=Tryz.underlying243,a117:=Tryz.isAgg243,z117:=Tryz.sizeOf243,v117:=Tryz.zeroValue243,t119:=Tryz.underlying270,a119:=Tryz.isAgg270,z119:=Tryz.sizeOf270,t124:=Tryz.underlying246,a124:=Tryz.isAgg246,z124:=Tryz.sizeOf246,v124:=Tryz.zeroValue246,t138:=Tryz.underlying272,a138:=Tryz.isAgg272,z138:=Tryz.sizeOf272,v138:=Tryz.zeroValue272,t139:=Tryz.underlying273,a139:=Tryz.isAgg273,z139:=Tryz.sizeOf273,v139:=Tryz.zeroValue273,g3:=(by kernel_rfl),g4:=(by kernel_rfl) }
theorem L0:(Tryz.prog.info? (du.t 116)).map (fun i=>(i.zero,i.size))=some (some (.agg (Array.replicate 256 (.bool false))),256):=by kernel_rfl
end Trm
noncomputable def tL:Spec Kd:=Kp
noncomputable def iK (F:Nat) (x:B8×B8):Option B8:=DD x
theorem tU (F:Nat):Ctr TT Tryz.prog 199 (aj TT tL (iK F)):=H9 (kt:=kt) (ρ:=Trm.du) Trm.eP Trm.L0 Tryz.func199 (by kernel_rfl) (by kernel_rfl) rfl
end Go.Vm
/- Models of functions of the program, and that each keeps its contract: for all arguments of its shape. No condition. -/
namespace Go.Vm
open Go.Proofs
set_option linter.unusedVariables false
noncomputable def vX:Spec Kd:={ params := [(.a .str)],ret:=(.one (.a .bool)),pins := [],pl:={ nt:=15,cuts := [(1,[(7,⟨[.tmp 0 (.a .str), .tmp 9 (.a .bool)],[],[]⟩),(5,⟨[.tmp 14 (.a .bool)],[],[]⟩)])] },rfrz := [],ts := [2] }
noncomputable def fp (F:Nat) (x:B8):Option (Bool):=(if (!decide (x = []))=true then some (x,decide ((↑x.length:Int)≤12),()) else some (x,false,())).bind fun v0=>(if v0.2.1=true then (iK F (v0.1,[97,98,99,100,101,102,103,104,105,106,107,108,109,110,111,112,113,114,115,116,117,118,119,120,121,122,48,49,50,51,52,53,54,55,56,57])).bind fun v1=>some (decide (v1 = []),()) else some (false,())).bind fun v2=>some v2.1
theorem pF (F:Nat):Ctr TT Tryz.prog 142 (aj TT vX (fp F)) :=
 al F (code:=ak 142) Tryz.func142 (af ah (tU F)) fun x=>by kernel_rfl
noncomputable def zE:Spec Kd:={ params := [(.a .str)],ret:=(.one (.a .str)),pins := [],pl:={ nt:=33,cuts := [(6,[(7,⟨[.tmp 0 (.a .str), .tmp 3 (.a (.int .i64)), .tmp 21 (.a .bool)],[],[]⟩),(7,⟨[.tmp 0 (.a .str), .tmp 3 (.a (.int .i64)), .tmp 28 (.a .bool)],[],[]⟩)])] },rfrz := [],ts := [2] }
noncomputable def j3 (F:Nat) (x:B8):Option B8:=if decide ((↑x.length:Int)<2)=true then some [] else (idx x 1).bind fun v0=>(av F ([37,98,107,109,112],(↑v0.toNat:Int))).bind fun v1=>if decide (0≤v1)=true then (sub x 0 2).bind fun v2=>some v2 else (av F (x,125)).bind fun v3=>((idx x 1).bind fun v4=>if (!decide ((↑v4.toNat:Int)=123))=false then some (x,v3,decide (v3<0),()) else some (x,v3,true,())).bind fun v5=>(if v5.2.2.1=false then (sub v5.1 2 v5.2.1).bind fun v6=>(fp F v6).bind fun v7=>some (v5.1,v5.2.1, !v7,()) else some (v5.1,v5.2.1,true,())).bind fun v8=>if v8.2.2.1=true then some [] else (sub v8.1 0 (IntKind.i64.wrap (v8.2.1+1))).bind fun v9=>some v9
theorem zM (F:Nat):Ctr TT Tryz.prog 193 (aj TT zE (j3 F)) :=
 al F (code:=ak 193) Tryz.func193 (af (af ah (dz F)) (pF F)) fun x=>by kernel_rfl
noncomputable def yY:Spec Kd:={ params := [(.a .str)],ret:=(.tup [(.a (.row 172 .pc)),(.a .bool)]),pins := [],pl:={ nt:=52,orc:={ rv := [2,4,42,45,51],gv := [] },joins := [(1400033,(.norm,⟨[.tmp 0 (.a .str), .tmp 4 (.a (.rowp 256)), .tmp 6 (.a (.int .i64)), .tmp 8 (.a (.ptr 512 0)), .tmp 13 (.a (.ptr 832 0)), .box 832 .siter, .box 256 (.row 172 .pc), .box 512 (.cells 172 [.bool, .str])],[],[.tmpRow 4 256 172 .pc]⟩),[(.ret,⟨[.tmp 2 (.a (.rowp 128)), .tmp 3 (.a .bool), .box 128 (.row 172 .pc)],[],[.tmpRow 2 128 172 .pc]⟩)])],loops := [(0,⟨[.tmp 0 (.a .str), .tmp 4 (.a (.rowp 256)), .tmp 5 (.a (.int .i64)), .tmp 13 (.a (.ptr 832 0)), .box 832 .siter, .box 256 (.row 172 .pc)],[],[.tmpRow 4 256 172 .pc]⟩,(.exit 0,⟨[.tmp 4 (.a (.rowp 256)), .box 256 (.row 172 .pc)],[],[.tmpRow 4 256 172 .pc]⟩),[(.ret,⟨[.tmp 2 (.a (.rowp 128)), .tmp 3 (.a .bool), .box 128 (.row 172 .pc)],[],[.tmpRow 2 128 172 .pc]⟩)])],cuts := [(11,[(10,⟨[.tmp 0 (.a .str), .tmp 4 (.a (.rowp 256)), .tmp 6 (.a (.int .i64)), .tmp 7 (.a (.int .i32)), .tmp 8 (.a (.ptr 512 0)), .tmp 13 (.a (.ptr 832 0)), .box 832 .siter, .box 256 (.row 172 .pc), .box 512 (.cells 172 [.bool, .str])],[],[.tmpRow 4 256 172 .pc]⟩)])] },rfrz := [],ts := [2,3] }
noncomputable def bc (F:Nat) (v0:(B8×Unit×Int×Unit×(B8×Nat)×List (Bool×B8×Unit)×Unit)):Option ((B8×Unit×Int×Unit×(B8×Nat)×List (Bool×B8×Unit)×Unit) ⊕ (Unit×List (Bool×B8×Unit)×Unit ⊕ Unit×Bool×List (Bool×B8×Unit)×Unit)):=if decide (v0.2.2.2.2.1.2<v0.2.2.2.2.1.1.length)=true then if decide ((↑v0.2.2.2.2.1.2:Int)<v0.2.2.1)=true then some (Sum.inl (v0.1,(),v0.2.2.1,(),(v0.2.2.2.2.1.1,v0.2.2.2.2.1.2+runeLen v0.2.2.2.2.1.1 v0.2.2.2.2.1.2),v0.2.2.2.2.2.1,())) else (eK F (bN v0.2.2.2.2.1.1 v0.2.2.2.2.1.2)).bind fun v1=>if decide (v1=0)=true then some (Sum.inr (Sum.inr ((),false,[],()))) else ((aV F (bN v0.2.2.2.2.1.1 v0.2.2.2.2.1.2)).bind fun v2=>(sub v0.1 (↑v0.2.2.2.2.1.2:Int) (IntKind.i64.wrap ((↑v0.2.2.2.2.1.2:Int)+v2))).bind fun v3=>some (v0.1,(),(↑v0.2.2.2.2.1.2:Int),bN v0.2.2.2.2.1.1 v0.2.2.2.2.1.2,(),(),(v0.2.2.2.2.1.1,v0.2.2.2.2.1.2+runeLen v0.2.2.2.2.1.1 v0.2.2.2.2.1.2),v0.2.2.2.2.2.1,(false,v3,()),())).bind fun v4=>(if decide (v4.2.2.2.1=37)=true then (sub v4.1 v4.2.2.1 (↑v4.1.length:Int)).bind fun v5=>(j3 F v5).bind fun v6=>if decide (v6 = [])=true then some (Sum.inr ((),false,[],())) else some (Sum.inl (v4.1,(),v4.2.2.1,(),(),v4.2.2.2.2.2.2.1,v4.2.2.2.2.2.2.2.1,(true,v6,()),())) else some (Sum.inl (v4.1,(),v4.2.2.1,v4.2.2.2.2))).bind fun v7=>dh v7 (fun v8=>if decide ((v8.2.2.2.2.2.2.1.length + [(v8.2.2.2.2.2.2.2.1.1,v8.2.2.2.2.2.2.2.1.2.1,Unit.unit)].length) * 24≤140737488355328)=true then some (Sum.inl (v8.1,(),IntKind.i64.wrap (v8.2.2.1+(↑v8.2.2.2.2.2.2.2.1.2.1.length:Int)),(),v8.2.2.2.2.2.1,v8.2.2.2.2.2.2.1 ++ [(v8.2.2.2.2.2.2.2.1.1,v8.2.2.2.2.2.2.2.1.2.1,Unit.unit)],())) else none) fun v9=>some (Sum.inr (Sum.inr ((),v9.2.1,v9.2.2.1,()))) else some (Sum.inr (Sum.inl ((),v0.2.2.2.2.2.1,())))
noncomputable def iH (F:Nat) (x:B8):Option ((List (El .pc))×(Bool)):=if decide (60<(↑x.length:Int))=true then some ([],false) else (bq (bc F) F (x,(),0,(),(x,0),[],())).bind fun v10=>dh v10 (fun v11=>some (v11.2.1,true)) fun v12=>some (v12.2.2.1,v12.2.1)
theorem rS (F:Nat):Ctr TT Tryz.prog 127 (aj TT yY (iH F)) :=
 al F (code:=ak 127) Tryz.func127 (af (af (af ah (jy F)) (eU F)) (zM F)) fun x=>by kernel_rfl
noncomputable def uf:Spec Kd:={ params := [(.a .str)],ret:=(.one (.a .bool)),pins := [],pl:={ nt:=11 },rfrz := [],ts := [2] }
noncomputable def iB (F:Nat) (x:B8):Option (Bool):=(iH F x).bind fun v0=>some v0.2
theorem ub (F:Nat):Ctr TT Tryz.prog 201 (aj TT uf (iB F)) :=
 al F (code:=ak 201) Tryz.func201 (af ah (rS F)) fun x=>by kernel_rfl
noncomputable def sV:Spec Kd:={ params := [(.a .str),(.a .str)],ret:=(.one (.a .str)),pins := [],pl:={ nt:=25 },rfrz := [],ts := [4] }
noncomputable def gz (F:Nat) (x:B8×B8):Option B8:=(iq F x).bind fun (v0:B8×Bool)=>if (!v0.2)=true then some [] else (kY F v0.1).bind fun (v1:B8×Bool)=>if v1.2=true then some v1.1 else some v0.1
theorem s9 (F:Nat):Ctr TT Tryz.prog 195 (aj TT sV (gz F)) :=
 al F (code:=ak 195) Tryz.func195 (af (af ah (qu F)) (zX F)) fun x=>by kernel_rfl
noncomputable def uG:Spec Kd:={ params := [(.agg [.bool, .str]),(.agg [(.int .i64), .str,(.int .i64),(.int .i64),(.int .i64),(.int .i64), .str,(.int .i64),(.int .i64),(.int .i64), .str, .str, .str, .str])],ret:=(.one (.a .str)),pins := [],pl:={ nt:=41,ends := [(14,⟨[.tmp 4 (.a .str)],[],[]⟩)] },rfrz := [],ts := [4] }
noncomputable def iz (F:Nat) (x:((Bool)×B8×Unit)×((Int)×B8×(Int)×(Int)×(Int)×(Int)×B8×(Int)×(Int)×(Int)×B8×B8×B8×B8×Unit)):Option B8:=if (!x.1.1)=true then some x.1.2.1 else (idx x.1.2.1 1).bind fun (v0:UInt8)=>if decide ((↑v0.toNat:Int)=98)=true then some x.2.2.2.2.2.2.2.2.2.2.2.2.2.2.1 else if decide ((↑v0.toNat:Int)=107)=true then some x.2.2.1 else if decide ((↑v0.toNat:Int)=109)=true then some x.2.2.2.2.2.2.2.2.2.2.2.2.1 else if decide ((↑v0.toNat:Int)=112)=true then some x.2.2.2.2.2.2.2.2.2.2.2.2.2.1 else if decide ((↑v0.toNat:Int)=37)=true then some [37] else ((sub x.1.2.1 2 (IntKind.i64.wrap ((↑x.1.2.1.length:Int) - 1))).bind fun (v1:B8)=>(gz F (x.2.2.2.2.2.2.2.2.2.2.2.2.2.2.1,v1)).bind fun (v2:B8)=>some (v2,())).bind fun (v3:B8×Unit)=>some v3.1
theorem uc (F:Nat):Ctr TT Tryz.prog 129 (aj TT uG (iz F)) :=
 al F (code:=ak 129) Tryz.func129 (af ah (s9 F)) fun x=>by kernel_rfl
noncomputable def vM:Spec Kd:={ params := [(.a .str),(.agg [(.int .i64), .str,(.int .i64),(.int .i64),(.int .i64),(.int .i64), .str,(.int .i64),(.int .i64),(.int .i64), .str, .str, .str, .str])],ret:=(.one (.a .str)),pins := [],pl:={ nt:=52,orc:={ rv := [10,46,49],gv := [] },joins := [(1700039,(.norm,⟨[.tmp 10 (.a (.rowp 640)), .tmp 11 (.a (.int .i64)), .tmp 13 (.a (.int .i32)), .tmp 33 (.a (.ptr 2112 0)), .box 2112 .siter, .box 640 (.row 21 .i32)],[1025],[.tmpRow 10 640 21 .i32]⟩),[])],loops := [(2,⟨[.tmp 10 (.a (.rowp 640)), .tmp 11 (.a (.int .i64)), .tmp 33 (.a (.ptr 2112 0)), .box 2112 .siter, .box 640 (.row 21 .i32)],[1025],[.tmpRow 10 640 21 .i32]⟩,(.exit 2,⟨[.tmp 10 (.a (.rowp 640)), .box 640 (.row 21 .i32)],[1025],[.tmpRow 10 640 21 .i32]⟩),[]),(0,⟨[.tmp 3 (.a (.ptr 192 0)), .tmp 7 (.a (.ptr 448 0)), .tmp 21 (.a (.slc .pc)), .tmp 22 (.a (.int .i64)), .tmp 23 (.a (.int .i64)), .box 192 (.cells 35 [(.int .i64), .str,(.int .i64),(.int .i64),(.int .i64),(.int .i64), .str,(.int .i64),(.int .i64),(.int .i64), .str, .str, .str, .str]), .box 448 (.cells 170 [(.argp 448),(.rowp 1028673)]), .box 1028673 (.row 5 .u8)],[1025],[.cellSelf 448 0, .cellRow 448 1 1028673 5 .u8]⟩,(.exit 0,⟨[.tmp 7 (.a (.ptr 448 0)), .box 448 (.cells 170 [(.argp 448),(.rowp 1028673)]), .box 1028673 (.row 5 .u8)],[1025],[.cellSelf 448 0, .cellRow 448 1 1028673 5 .u8]⟩),[])] },rfrz := [],ts := [4] }
noncomputable def fM (F:Nat) (v1:(Unit ×
      Unit ×
       List (Bool×B8×Unit) ×
        Int ×
         Int ×
          (Int×B8×Int×Int×Int×Int×B8×Int×Int×Int×B8×B8×B8×B8×Unit) ×
           (Unit×Unit×Unit)×B8×Unit)):Option ((Unit ×
      Unit ×
       List (Bool×B8×Unit) ×
        Int ×
         Int ×
          (Int×B8×Int×Int×Int×Int×B8×Int×Int×Int×B8×B8×B8×B8×Unit) ×
           (Unit×Unit×Unit)×B8×Unit) ⊕ (Unit×(Unit×Unit×Unit)×B8×Unit)) :=
 if decide (v1.2.2.2.2.1<v1.2.2.2.1)=true then
       (idx v1.2.2.1 v1.2.2.2.2.1).bind fun (v2:Bool×B8×Unit) =>
        (iz F ((v2.1,v2.2.1,()),v1.2.2.2.2.2.1)).bind fun (v3:B8) =>
         (de F (((),v1.2.2.2.2.2.2.2.1,()),v3)).bind fun (v4:(Int×Unit)×Unit×B8×Unit) =>
          some (Sum.inl ((),(),v1.2.2.1,v1.2.2.2.1,IntKind.i64.wrap (v1.2.2.2.2.1+1),v1.2.2.2.2.2.1,((),(),()),v4.2.2.1,()))
      else some (Sum.inr ((),((),(),()),v1.2.2.2.2.2.2.2.1,()))
noncomputable def dM (F:Nat) (v7:(Unit×Int×Unit×(B8×Nat)×List Int×Unit)):Option ((Unit×Int×Unit×(B8×Nat)×List Int×Unit) ⊕ (Unit×List Int×Unit)):=if decide (v7.2.2.2.1.2<v7.2.2.2.1.1.length)=true then (eK F (bN v7.2.2.2.1.1 v7.2.2.2.1.2)).bind fun (v8:Int)=>(if decide (v8=0)=true then some ((),v7.2.1,63,(),(v7.2.2.2.1.1,v7.2.2.2.1.2+runeLen v7.2.2.2.1.1 v7.2.2.2.1.2),v7.2.2.2.2.1,()) else some ((),v7.2.1,bN v7.2.2.2.1.1 v7.2.2.2.1.2,(),(v7.2.2.2.1.1,v7.2.2.2.1.2+runeLen v7.2.2.2.1.1 v7.2.2.2.1.2),v7.2.2.2.2.1,())).bind fun (v9:Unit×Int×Int×Unit×(B8×Nat)×List Int×Unit)=>(aV F v9.2.2.1).bind fun (v10:Int)=>if decide (40<IntKind.i64.wrap (v9.2.1+v10))=true then some (Sum.inr ((),v9.2.2.2.2.2.1,())) else if decide ((v9.2.2.2.2.2.1.length + [v9.2.2.1].length) * 4≤140737488355328)=true then some (Sum.inl ((),IntKind.i64.wrap (v9.2.1+v10),(),v9.2.2.2.2.1,v9.2.2.2.2.2.1 ++ [v9.2.2.1],())) else none else some (Sum.inr ((),v7.2.2.2.2.1,()))
noncomputable def gn (F:Nat) (x:B8×((Int)×B8×(Int)×(Int)×(Int)×(Int)×B8×(Int)×(Int)×(Int)×B8×B8×B8×B8×Unit)):Option B8:=(iH F x.1).bind fun (v0:List (Bool×B8×Unit)×Bool)=>if (!v0.2)=true then some [] else (bq (fM F) F ((),(),v0.1,(↑v0.1.length:Int),0,x.2,((),(),()),[],())).bind fun (v5:Unit×(Unit×Unit×Unit)×B8×Unit)=>(aW F ((),v5.2.2.1,())).bind fun (v6:B8×Unit×Unit×Unit)=>(bq (dM F) F ((),0,(),(v6.1,0),[],())).bind fun (v11:Unit×List Int×Unit)=>some (iP v11.2.1)
theorem vQ (F:Nat):Ctr TT Tryz.prog 70 (aj TT vM (gn F)) :=
 al F (code:=ak 70) Tryz.func70 (af (af (af (af (af (af ah (rS F)) (uc F)) (jk F)) (bX F)) (jy F)) (eU F)) fun x=>by kernel_rfl
end Go.Vm
