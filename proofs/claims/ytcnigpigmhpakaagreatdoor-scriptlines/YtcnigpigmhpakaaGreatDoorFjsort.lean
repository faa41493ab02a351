import Derived.Test.YtcnigpigmhpakaaGreatDoorKt
import Derived.Test.YtcnigpigmhpakaaGreatDoorFjrd
import Derived.Test.YtcnigpigmhpakaaGreatDoorV7
import Derived.Test.YtcnigpigmhpakaaGreatDoorV8
/- Models of functions of the program, and that each keeps its contract: for all arguments of its shape. No condition. -/
namespace Go.Vm
open Go.Proofs
set_option linter.unusedVariables false
namespace Ato
open Go.Proofs Go.Shelf Go.RowKit
def eX:Ren:=⟨fun | 129=>109 | 171=>38 | 172=>100 | 205=>145 | 243=>49 | 244=>119 | 245=>120 | 246=>65 | 247=>133 | 279=>134 | 280=>135 | 281=>136 | 282=>137 | 283=>84 | 284=>85 | 285=>86 | 286=>87 | 287=>143 | 316=>144 | 317=>108 | 318=>110 | 319=>111 | 320=>112 | 321=>147 | 322=>148 | 337=>121 | 338=>122 | n=>n,fun | 0=>0 | 2=>2 | 3=>3 | 4=>4 | 5=>5 | 9=>9 | 20=>20 | 21=>21 | 37=>76 | 46=>111 | 51=>127 | 53=>122 | 75=>80 | 76=>81 | 80=>83 | 85=>166 | 127=>91 | 143=>186 | 145=>188 | 167=>165 | 168=>168 | 171=>121 | 173=>125 | 175=>178 | 210=>181 | 212=>148 | 213=>149 | 232=>171 | 233=>172 | n=>n,fun | 15=>6 | 16=>7 | 17=>3 | 18=>4 | 19=>5 | n=>n⟩
theorem fC:LaysC.n172 Tryz.prog eX:={ mixed:=(by kernel_rfl),f129:=Tryz.func109.trans (congrArg some (by kernel_rfl)),f171:=Tryz.func38.trans (congrArg some (by kernel_rfl)),f172:=Tryz.func100.trans (congrArg some (by kernel_rfl)),f205:=Tryz.func145.trans (congrArg some (by kernel_rfl)),f243:=Tryz.func49.trans (congrArg some (by kernel_rfl)),f244:=Tryz.func119.trans (congrArg some (by kernel_rfl)),f245:=Tryz.func120.trans (congrArg some (by kernel_rfl)),f246:=Tryz.func65.trans (congrArg some (by kernel_rfl)),f247:=Tryz.func133.trans (congrArg some (by kernel_rfl)),f279:=Tryz.func134.trans (congrArg some (by kernel_rfl)),f280:=Tryz.func135.trans (congrArg some (by kernel_rfl)),f281:=Tryz.func136.trans (congrArg some (by kernel_rfl)),f282:=Tryz.func137.trans (congrArg some (by kernel_rfl)),f283:=Tryz.func84.trans (congrArg some (by kernel_rfl)),f284:=Tryz.func85.trans (congrArg some (by kernel_rfl)),f285:=Tryz.func86.trans (congrArg some (by kernel_rfl)),f286:=Tryz.func87.trans (congrArg some (by kernel_rfl)),f287:=Tryz.func143.trans (congrArg some (by kernel_rfl)),f316:=Tryz.func144.trans (congrArg some (by kernel_rfl)),f317:=Tryz.func108.trans (congrArg some (by kernel_rfl)),f318:=Tryz.func110.trans (congrArg some (by kernel_rfl)),f319:=Tryz.func111.trans (congrArg some (by kernel_rfl)),f320:=Tryz.func112.trans (congrArg some (by kernel_rfl)),f321:=Tryz.func147.trans (congrArg some (by kernel_rfl)),f322:=Tryz.func148.trans (congrArg some (by kernel_rfl)),f337:=Tryz.func121.trans (congrArg some (by kernel_rfl)),f338:=Tryz.func122.trans (congrArg some (by kernel_rfl)),t0:=Tryz.underlying0,a0:=Tryz.isAgg0,z0:=Tryz.sizeOf0,v0:=Tryz.zeroValue0,t2:=Tryz.underlying2,a2:=Tryz.isAgg2,z2:=Tryz.sizeOf2,v2:=Tryz.zeroValue2,t3:=Tryz.underlying3,a3:=Tryz.isAgg3,z3:=Tryz.sizeOf3,v3:=Tryz.zeroValue3,t4:=Tryz.underlying4,a4:=Tryz.isAgg4,z4:=Tryz.sizeOf4,v4:=Tryz.zeroValue4,t5:=Tryz.underlying5,a5:=Tryz.isAgg5,z5:=Tryz.sizeOf5,v5:=Tryz.zeroValue5,t9:=Tryz.underlying9,a9:=Tryz.isAgg9,z9:=Tryz.sizeOf9,v9:=Tryz.zeroValue9,t20:=Tryz.underlying20,a20:=Tryz.isAgg20,z20:=Tryz.sizeOf20,v20:=Tryz.zeroValue20,t21:=Tryz.underlying21,a21:=Tryz.isAgg21,z21:=Tryz.sizeOf21,v21:=Tryz.zeroValue21,t37:=Tryz.underlying76,a37:=Tryz.isAgg76,z37:=Tryz.sizeOf76,v37:=Tryz.zeroValue76,t46:=Tryz.underlying111,a46:=Tryz.isAgg111,z46:=Tryz.sizeOf111,v46:=Tryz.zeroValue111,t51:=Tryz.underlying127,a51:=Tryz.isAgg127,z51:=Tryz.sizeOf127,v51:=Tryz.zeroValue127,t53:=Tryz.underlying122,a53:=Tryz.isAgg122,z53:=Tryz.sizeOf122,v53:=Tryz.zeroValue122,t75:=Tryz.underlying80,a75:=Tryz.isAgg80,z75:=Tryz.sizeOf80,v75:=Tryz.zeroValue80,t76:=Tryz.underlying81,a76:=Tryz.isAgg81,z76:=Tryz.sizeOf81,v76:=Tryz.zeroValue81,t85:=Tryz.underlying166,a85:=Tryz.isAgg166,z85:=Tryz.sizeOf166,v85:=Tryz.zeroValue166,t127:=Tryz.underlying91,a127:=Tryz.isAgg91,z127:=Tryz.sizeOf91,v127:=Tryz.zeroValue91,t143:=Tryz.underlying186,a143:=Tryz.isAgg186,z143:=Tryz.sizeOf186,v143:=Tryz.zeroValue186,t145:=Tryz.underlying188,a145:=Tryz.isAgg188,z145:=Tryz.sizeOf188,v145:=Tryz.zeroValue188,t167:=Tryz.underlying165,a167:=Tryz.isAgg165,z167:=Tryz.sizeOf165,v167:=Tryz.zeroValue165,t168:=Tryz.underlying168,a168:=Tryz.isAgg168,z168:=Tryz.sizeOf168,v168:=Tryz.zeroValue168,t171:=Tryz.underlying121,a171:=Tryz.isAgg121,z171:=Tryz.sizeOf121,v171:=Tryz.zeroValue121,t173:=Tryz.underlying125,a173:=Tryz.isAgg125,z173:=Tryz.sizeOf125,v173:=Tryz.zeroValue125,t175:=Tryz.underlying178,a175:=Tryz.isAgg178,z175:=Tryz.sizeOf178,v175:=Tryz.zeroValue178,t210:=Tryz.underlying181,a210:=Tryz.isAgg181,z210:=Tryz.sizeOf181,v210:=Tryz.zeroValue181,t212:=Tryz.underlying148,a212:=Tryz.isAgg148,z212:=Tryz.sizeOf148,v212:=Tryz.zeroValue148,t213:=Tryz.underlying149,a213:=Tryz.isAgg149,z213:=Tryz.sizeOf149,t232:=Tryz.underlying171,a232:=Tryz.isAgg171,z232:=Tryz.sizeOf171,v232:=Tryz.zeroValue171,t233:=Tryz.underlying172,a233:=Tryz.isAgg172,z233:=Tryz.sizeOf172,v233:=Tryz.zeroValue172,g15:=(by kernel_rfl),g16:=(by kernel_rfl),g17:=(by kernel_rfl),g18:=(by kernel_rfl),g19:=(by kernel_rfl),t80:=Tryz.underlying83,a80:=Tryz.isAgg83,z80:=Tryz.sizeOf83,v80:=Tryz.zeroValue83,i0:=(by kernel_rfl),i2:=(by kernel_rfl),i3:=(by kernel_rfl),i4:=(by kernel_rfl),i5:=(by kernel_rfl),i9:=(by kernel_rfl),i20:=(by kernel_rfl),i21:=(by kernel_rfl),i37:=(by kernel_rfl),i46:=(by kernel_rfl),i51:=(by kernel_rfl),i53:=(by kernel_rfl),i75:=(by kernel_rfl),i76:=(by kernel_rfl),i80:=(by kernel_rfl),i85:=(by kernel_rfl),i127:=(by kernel_rfl),i143:=(by kernel_rfl),i145:=(by kernel_rfl),i167:=(by kernel_rfl),i168:=(by kernel_rfl),i171:=(by kernel_rfl),i173:=(by kernel_rfl),i175:=(by kernel_rfl),i210:=(by kernel_rfl),i212:=(by kernel_rfl),i232:=(by kernel_rfl),i233:=(by kernel_rfl),m15:=(by kernel_rfl),m16:=(by kernel_rfl),m17:=(by kernel_rfl),m18:=(by kernel_rfl),m19:=(by kernel_rfl),c0:=(by kernel_rfl),c2:=(by kernel_rfl),c3:=(by kernel_rfl),c4:=(by kernel_rfl),c5:=(by kernel_rfl),c9:=(by kernel_rfl),c20:=(by kernel_rfl),c21:=(by kernel_rfl),c37:=(by kernel_rfl),c46:=(by kernel_rfl),c51:=(by kernel_rfl),c53:=(by kernel_rfl),c75:=(by kernel_rfl),c76:=(by kernel_rfl),c80:=(by kernel_rfl),c85:=(by kernel_rfl),c127:=(by kernel_rfl),c143:=(by kernel_rfl),c145:=(by kernel_rfl),c167:=(by kernel_rfl),c168:=(by kernel_rfl),c171:=(by kernel_rfl),c173:=(by kernel_rfl),c175:=(by kernel_rfl),c210:=(by kernel_rfl),c212:=(by kernel_rfl),c213:=(by kernel_rfl),c232:=(by kernel_rfl),c233:=(by kernel_rfl) }
end Ato
noncomputable def vN:Spec Kd:=CE
noncomputable def iV (F:Nat) (x:B8):Option (Int×Bool):=Dr x
theorem uz (F:Nat):Ctr TT Tryz.prog 100 (ak TT vN (iV F)):=G6 (kt:=kt) (ρ:=Ato.eX) Ato.fC (fun w h=>h.err 6 (List.mem_cons_self ..)) rfl Tryz.func100 (by kernel_rfl) (by kernel_rfl) rfl
noncomputable def jQ:Spec Kd:={ params := [(.pin 97 [.str,(.int .i64),(.int .i64),(.int .i64)])],ret:=(.one (.a (.any .jv))),pins := [[.str,(.int .i64),(.int .i64),(.int .i64)]],pl:={ nt:=85,joins := [(400017,(.norm,⟨[.tmp 0 (.a (.ptr 1 0)), .tmp 3 (.a (.int .i64)), .box 1 (.cells 97 [.str,(.int .i64),(.int .i64),(.int .i64)])],[],[]⟩),[])],loops := [(0,⟨[.tmp 0 (.a (.ptr 1 0)), .tmp 3 (.a (.int .i64)), .tmp 4 (.a (.int .i64)), .box 1 (.cells 97 [.str,(.int .i64),(.int .i64),(.int .i64)])],[],[]⟩,(.exit 0,⟨[.tmp 0 (.a (.ptr 1 0)), .tmp 3 (.a (.int .i64)), .box 1 (.cells 97 [.str,(.int .i64),(.int .i64),(.int .i64)])],[],[]⟩),[])],cuts := [(5,[(16,⟨[.tmp 0 (.a (.ptr 1 0)), .tmp 3 (.a (.int .i64)), .tmp 4 (.a (.int .i64)), .tmp 36 (.a .bool), .box 1 (.cells 97 [.str,(.int .i64),(.int .i64),(.int .i64)])],[],[]⟩),(9,⟨[.tmp 0 (.a (.ptr 1 0)), .tmp 3 (.a (.int .i64)), .tmp 4 (.a (.int .i64)), .tmp 45 (.a .bool), .box 1 (.cells 97 [.str,(.int .i64),(.int .i64),(.int .i64)])],[],[]⟩),(6,⟨[.tmp 0 (.a (.ptr 1 0)), .tmp 3 (.a (.int .i64)), .tmp 4 (.a (.int .i64)), .tmp 51 (.a .bool), .box 1 (.cells 97 [.str,(.int .i64),(.int .i64),(.int .i64)])],[],[]⟩)])],ends := [(8,⟨[.tmp 0 (.a (.ptr 1 0)), .tmp 3 (.a (.int .i64)), .tmp 5 (.a (.int .i64)), .tmp 6 (.a (.any .er)), .box 1 (.cells 97 [.str,(.int .i64),(.int .i64),(.int .i64)])],[],[]⟩)] },rfrz := [],ts := [2],rco := [.tmpAny 2 .jv] }
noncomputable def bG (F:Nat) (v2:(Unit×Int×Int×(B8×Int×Int×Int×Unit)×Unit)):Option ((Unit×Int×Int×(B8×Int×Int×Int×Unit)×Unit) ⊕ (Unit×Int×(B8×Int×Int×Int×Unit)×Unit)):=(if decide (v2.2.1<(↑v2.2.2.2.1.1.length:Int))=true then (idx v2.2.2.2.1.1 v2.2.1).bind fun v3=>some ((),v2.2.1,v2.2.2.1,decide (48≤(↑v3.toNat:Int)),(v2.2.2.2.1.1,v2.2.2.2.1.2.1,v2.2.2.2.1.2.2.1,v2.2.2.2.1.2.2.2.1,()),()) else some ((),v2.2.1,v2.2.2.1,false,(v2.2.2.2.1.1,v2.2.2.2.1.2.1,v2.2.2.2.1.2.2.1,v2.2.2.2.1.2.2.2.1,()),())).bind fun v4=>(if v4.2.2.2.1=true then (idx v4.2.2.2.2.1.1 v4.2.1).bind fun v5=>some ((),v4.2.1,v4.2.2.1,decide ((↑v5.toNat:Int)≤57),(v4.2.2.2.2.1.1,v4.2.2.2.2.1.2.1,v4.2.2.2.2.1.2.2.1,v4.2.2.2.2.1.2.2.2.1,()),()) else some ((),v4.2.1,v4.2.2.1,false,(v4.2.2.2.2.1.1,v4.2.2.2.2.1.2.1,v4.2.2.2.2.1.2.2.1,v4.2.2.2.2.1.2.2.2.1,()),())).bind fun v6=>(if v6.2.2.2.1=true then some ((),v6.2.1,v6.2.2.1,decide (IntKind.i64.wrap (v6.2.1 - v6.2.2.1)<15),(v6.2.2.2.2.1.1,v6.2.2.2.2.1.2.1,v6.2.2.2.2.1.2.2.1,v6.2.2.2.2.1.2.2.2.1,()),()) else some ((),v6.2.1,v6.2.2.1,false,(v6.2.2.2.2.1.1,v6.2.2.2.2.1.2.1,v6.2.2.2.2.1.2.2.1,v6.2.2.2.2.1.2.2.2.1,()),())).bind fun v7=>if v7.2.2.2.1=true then (idx v7.2.2.2.2.1.1 v7.2.2.1).bind fun v8=>if decide ((↑v8.toNat:Int)=48)=true then some (Sum.inr ((),IntKind.i64.wrap (v7.2.1+1),(v7.2.2.2.2.1.1,v7.2.2.2.2.1.2.1,v7.2.2.2.2.1.2.2.1,v7.2.2.2.2.1.2.2.2.1,()),())) else some (Sum.inl ((),IntKind.i64.wrap (v7.2.1+1),v7.2.2.1,(v7.2.2.2.2.1.1,v7.2.2.2.2.1.2.1,v7.2.2.2.2.1.2.2.1,v7.2.2.2.2.1.2.2.2.1,()),())) else some (Sum.inr ((),v7.2.1,(v7.2.2.2.2.1.1,v7.2.2.2.2.1.2.1,v7.2.2.2.2.1.2.2.1,v7.2.2.2.2.1.2.2.2.1,()),()))
noncomputable def dh (F:Nat) (x:(B8×(Int)×(Int)×(Int)×Unit)):Option ((El .jv)×(B8×(Int)×(Int)×(Int)×Unit)):=(idx x.1 x.2.1).bind fun v0=>(if decide ((↑v0.toNat:Int)=45)=true then some ((),IntKind.i64.wrap (x.2.1+1),(x.1,x.2.1,x.2.2.1,x.2.2.2.1,()),()) else some ((),x.2.1,(x.1,x.2.1,x.2.2.1,x.2.2.2.1,()),())).bind fun v1=>(bS (bG F) F ((),v1.2.1,v1.2.1,(v1.2.2.1.1,v1.2.2.1.2.1,v1.2.2.1.2.2.1,v1.2.2.1.2.2.2.1,()),())).bind fun v9=>((sub v9.2.2.1.1 v9.2.2.1.2.1 v9.2.1).bind fun v10=>(iV F v10).bind fun v11=>some ((),v9.2.1,v11.1,v11.2,(v9.2.2.1.1,v9.2.2.1.2.1,v9.2.2.1.2.2.1,v9.2.2.1.2.2.2.1,()),())).bind fun v12=>if (!!v12.2.2.2.1)=true then (aG F ((v12.2.2.2.2.1.1,v12.2.2.2.2.1.2.1,v12.2.2.2.2.1.2.2.1,v12.2.2.2.2.1.2.2.2.1,()),3)).bind fun v13=>some (JV.nil,v13.2.1,v13.2.2.1,v13.2.2.2.1,v13.2.2.2.2.1,()) else some (JV.int v12.2.2.1,v12.2.2.2.2.1.1,v12.2.1,v12.2.2.2.2.1.2.2.1,v12.2.2.2.2.1.2.2.2.1,())
theorem oA (F:Nat):Ctr TT Tryz.prog 73 (ak TT jQ (dh F)) :=
 aW F (code:=aw 73) Tryz.func73 (ag (ag aq (uz F)) (dc F)) fun x=>by kernel_rfl
end Go.Vm
/- Models of functions of the program, and that each keeps its contract: for all arguments of its shape. No condition. -/
namespace Go.Vm
open Go.Proofs
set_option linter.unusedVariables false
noncomputable def oZ:Spec Kd:={ params := [(.agg [.str,(.any .jv)]),(.shp [.str])],ret:=(.one (.a .bool)),pins := [],pl:={ nt:=8 },rfrz := [],ts := [3] }
noncomputable def fp (F:Nat) (x:(B8×(El .jv)×Unit)×(B8×Unit)):Option (Bool):=some (decide (x.1.1=x.2.1))
theorem oE (F:Nat):Ctr TT Tryz.prog 114 (ak TT oZ (fp F)) :=
 aW F (code:=aw 114) Tryz.func114 aq fun x=>by kernel_rfl
noncomputable def fK:Spec Kd:={ params := [(.a (.slc .me)),(.fnc 114 [[.str]])],ret:=(.one (.a (.int .i64))),pins := [],pl:={ nt:=19,loops := [(0,⟨[.tmp 0 (.a (.slc .me)), .tmp 1 (.fnc 114 [[.str]]), .tmp 7 (.a (.int .i64)), .tmp 8 (.a (.int .i64))],[],[]⟩,(.exit 0,⟨[],[],[]⟩),[(.ret,⟨[.tmp 4 (.a (.int .i64))],[],[]⟩)])] },rfrz := [],ts := [4] }
noncomputable def aL (F:Nat) (v0:(List (B8×JV×Unit)×((B8×Unit)×Unit)×Int×Int×Unit)):Option ((List (B8×JV×Unit)×((B8×Unit)×Unit)×Int×Int×Unit) ⊕ (Unit ⊕ Int×Unit)):=if decide (v0.2.2.2.1<v0.2.2.1)=true then (idx v0.1 v0.2.2.2.1).bind fun v1=>(fp F ((v1.1,v1.2.1,()),v0.2.1.1.1,())).bind fun v2=>if v2=true then some (Sum.inr (Sum.inr (v0.2.2.2.1,()))) else some (Sum.inl (v0.1,((v0.2.1.1.1,()),()),v0.2.2.1,IntKind.i64.wrap (v0.2.2.2.1+1),())) else some (Sum.inr (Sum.inl ()))
noncomputable def bQ (F:Nat) (x:(List (El .me))×((B8×Unit)×Unit)):Option (Int):=(bS (aL F) F (x.1,((x.2.1.1,()),()),(↑x.1.length:Int),0,())).bind fun v3=>eW v3 (fun v4=>some (-1)) fun v5=>some v5.1
theorem fM (F:Nat):Ctr TT Tryz.prog 113 (ak TT fK (bQ F)) :=
 aW F (code:=aw 113) Tryz.func113 (ag aq (oE F)) fun x=>by kernel_rfl
noncomputable def lj:Spec Kd:={ params := [(.a (.slc .me)),(.a .str)],ret:=(.one (.a (.int .i64))),pins := [],pl:={ nt:=8,frz := [(1,[192])] },rfrz := [],ts := [4] }
noncomputable def eR (F:Nat) (x:(List (El .me))×B8):Option (Int):=(bQ F (x.1,(x.2,()),())).bind fun v0=>some v0
theorem qs (F:Nat):Ctr TT Tryz.prog 92 (ak TT lj (eR F)) :=
 aW F (code:=aw 92) Tryz.func92 (ag aq (fM F)) fun x=>by kernel_rfl
end Go.Vm
/- Models of functions of the program, and that each keeps its contract: for all arguments of its shape. No condition. -/
namespace Go.Vm
open Go.Proofs
set_option linter.unusedVariables false
namespace Srt
open Go.Proofs Go.Shelf Go.RowKit Go.Sort Go.Lib
def eX:Ren:=⟨fun | 14=>115 | 15=>116 | 20=>123 | 21=>124 | 22=>125 | 23=>126 | 24=>127 | 25=>128 | 26=>129 | 27=>130 | 28=>131 | 29=>109 | 46=>138 | 47=>139 | 48=>140 | 49=>141 | 50=>142 | 57=>146 | n=>n,fun | 0=>0 | 3=>3 | 4=>4 | 5=>5 | 9=>9 | 22=>129 | 24=>133 | 25=>135 | 39=>111 | 45=>157 | 46=>158 | 50=>60 | 53=>127 | 55=>122 | 66=>173 | 70=>62 | 76=>183 | 77=>114 | n=>n,fun n=>n⟩
theorem fC:SlLaysF0.n14 Tryz.prog eX:={ mixed:=(by kernel_rfl),f14:=⟨_,by kernel_rfl,Tryz.func115⟩,f15:=Tryz.func116.trans (congrArg some (by kernel_rfl)),f20:=⟨_,by kernel_rfl,Tryz.func123⟩,f21:=⟨_,by kernel_rfl,Tryz.func124⟩,f22:=⟨_,by kernel_rfl,Tryz.func125⟩,f23:=⟨_,by kernel_rfl,Tryz.func126⟩,f24:=⟨_,by kernel_rfl,Tryz.func127⟩,f25:=⟨_,by kernel_rfl,Tryz.func128⟩,f26:=⟨_,by kernel_rfl,Tryz.func129⟩,f27:=⟨_,by kernel_rfl,Tryz.func130⟩,f28:=Tryz.func131.trans (congrArg some (by kernel_rfl)),f29:=Tryz.func109.trans (congrArg some (by kernel_rfl)),f46:=⟨_,by kernel_rfl,Tryz.func138⟩,f47:=Tryz.func139.trans (congrArg some (by kernel_rfl)),f48:=Tryz.func140.trans (congrArg some (by kernel_rfl)),f49:=⟨_,by kernel_rfl,Tryz.func141⟩,f50:=⟨_,by kernel_rfl,Tryz.func142⟩,f57:=⟨_,by kernel_rfl,Tryz.func146⟩,t0:=Tryz.underlying0,a0:=Tryz.isAgg0,z0:=Tryz.sizeOf0,v0:=Tryz.zeroValue0,t3:=Tryz.underlying3,a3:=Tryz.isAgg3,z3:=Tryz.sizeOf3,v3:=Tryz.zeroValue3,t4:=Tryz.underlying4,a4:=Tryz.isAgg4,z4:=Tryz.sizeOf4,v4:=Tryz.zeroValue4,t5:=Tryz.underlying5,a5:=Tryz.isAgg5,z5:=Tryz.sizeOf5,v5:=Tryz.zeroValue5,t9:=Tryz.underlying9,a9:=Tryz.isAgg9,z9:=Tryz.sizeOf9,v9:=Tryz.zeroValue9,t22:=Tryz.underlying129,a22:=Tryz.isAgg129,z22:=Tryz.sizeOf129,v22:=Tryz.zeroValue129,t25:=Tryz.underlying135,a25:=Tryz.isAgg135,z25:=Tryz.sizeOf135,v25:=Tryz.zeroValue135,t39:=Tryz.underlying111,a39:=Tryz.isAgg111,z39:=Tryz.sizeOf111,v39:=Tryz.zeroValue111,t45:=Tryz.underlying157,a45:=Tryz.isAgg157,z45:=Tryz.sizeOf157,v45:=Tryz.zeroValue157,t46:=Tryz.underlying158,a46:=Tryz.isAgg158,z46:=Tryz.sizeOf158,v46:=Tryz.zeroValue158,t50:=Tryz.underlying60,a50:=Tryz.isAgg60,z50:=Tryz.sizeOf60,v50:=Tryz.zeroValue60,t53:=Tryz.underlying127,a53:=Tryz.isAgg127,z53:=Tryz.sizeOf127,v53:=Tryz.zeroValue127,t55:=Tryz.underlying122,a55:=Tryz.isAgg122,z55:=Tryz.sizeOf122,v55:=Tryz.zeroValue122,t66:=Tryz.underlying173,a66:=Tryz.isAgg173,z66:=Tryz.sizeOf173,v66:=Tryz.zeroValue173,t70:=Tryz.underlying62,a70:=Tryz.isAgg62,z70:=Tryz.sizeOf62,v70:=Tryz.zeroValue62,t76:=Tryz.underlying183,a76:=Tryz.isAgg183,z76:=Tryz.sizeOf183,v76:=Tryz.zeroValue183,t77:=Tryz.underlying114,a77:=Tryz.isAgg114,z77:=Tryz.sizeOf114,v77:=Tryz.zeroValue114 }
theorem Ky (x:ByteArray) (w:World):Calls Tryz.prog 117 #[.string x] w fun e w'=>e = .returned (.bool false)∧w'=w:=by
 go_enter Tryz.func117,Tryz.ntmps117
 go_wp2
 go_ret
 exact ⟨by simp,rfl⟩
set_option maxHeartbeats 1000000 in
theorem compare (x y:ByteArray) (w:World):Calls Tryz.prog 96 #[.string x, .string y] w fun e w'=>e = .returned (.int .i64 (Eu x y))∧w'=w:=by
 go_enter Tryz.func96,Tryz.ntmps96
 go_wp2_with (go_at_call 117; refine (Ky _ _).mono ?_; rintro e w' ⟨rfl,hw⟩; rw [hw])
 all_goals (go_ret; refine ⟨?_,rfl⟩; unfold Eu; simp_all)
set_option maxHeartbeats 1000000 in
theorem closure (x y:pP) (W:World):Calls Tryz.prog 95 #[.agg #[.string x.1.1,x.1.2], .agg #[.string y.1.1,y.1.2]] W fun e w'=>e = .returned (.int .i64 (Eu x.1.1 y.1.1)) ∧ ∃ q os',w'=grow (W.drewN q) os':=by
 obtain ⟨⟨x,u⟩,hu⟩:=x
 obtain ⟨⟨y,v⟩,hv⟩:=y
 have hcon:=fun W'=>compare x y W'
 generalize Eu x y=r at hcon ⊢
 go_enter Tryz.func95,Tryz.ntmps95
 go_wp2_with (go_at_call 96; refine (hcon _).mono ?_; rintro e w' ⟨rfl,rfl⟩)
 go_ret
 exact ⟨rfl,0,_,by rw [alloc_eq_grow,alloc_eq_grow,grow_grow]; rfl⟩
theorem KN (w:World):(isAgg 133).run Tryz.prog w = .ok true w:=Tryz.isAgg133 w
theorem Ku (w:World):(Go.sizeOf 133).run Tryz.prog w = .ok 2 w:=Tryz.sizeOf133 w
theorem lays : ∀ (blk off size:Nat) (w:World),CmpLays Tryz.prog 95 #[] iL 2 cfS blk off size w:=fun _ _ _ _ _ _ _ _ x y=>closure x y _
set_option maxHeartbeats 2000000 in
set_option maxRecDepth 100000 in
theorem none_ (w:World):Calls Tryz.prog 94 #[.slice none 0 0, .func (.func 95) #[] #[]] w fun e w'=>e = .returned (.tuple #[])∧w'=w:=by
 have hl : ∀ W,Calls Tryz.prog 116 #[.int .u64 0] W fun e w'=>e = .returned (.int .i64 (Lib.bitLen 0:Nat))∧w'=W:=fun W=>Any.bits_Len (SlLaysF0.n15.bits (P:=Tryz.prog) (ρ:=eX) { fC with }) 0 W (by omega) (by omega)
 have hp:=fun (lim:Int) W=>AnyF.pdqsortCmpFunc_none (P:=Tryz.prog) (ρ:=eX) fC none 0 lim (.func (.func 95) #[] #[]) W
 go_enter Tryz.func94,Tryz.ntmps94
 go_wp2_with (first | (go_at_call 116; refine (hl _).mono ?_; rintro e w' ⟨rfl,rfl⟩) | (go_at_call 115; refine (hp _ _).mono ?_; rintro e w' ⟨rfl,rfl⟩))
 go_end0
 exact ⟨rfl,rfl⟩
set_option maxHeartbeats 2000000 in
set_option maxRecDepth 100000 in
theorem some_ (gg cap:Nat) (d:Array pP) (w:World) (hH:HoldsK iL 2 w gg 0 d) (hblk:gg<w.heap.size) (hsz:d.size<4611686018427387904) :
  Calls Tryz.prog 94 #[.slice (some ⟨gg,0,none⟩) d.size cap, .func (.func 95) #[] #[]] w fun e w'=>e = .returned (.tuple #[]) ∧ ∃ d' n os,PermIn 0 d.size d d'∧SortedIn (ltOf cfS) 0 d.size d'∧w'=sortWorldK iL 2 w gg 0 n d' os:=by
 have eg : ∀ args w,(callFunc 95 args).run Tryz.prog w = .ok (.enter 95 args) w:=enters_of Tryz.func95 (by kernel_rfl) rfl
 have hlim:Lib.bitLen d.size<4611686018427387904:=Nat.lt_of_le_of_lt (Lib.bitLen_le d.size 62 (by omega) (by omega)) (by omega)
 have hp:=AnyQ.pdqsortCmpFunc_all (P:=Tryz.prog) (ρ:=eX) fC 2 KN Ku iL cfS 95 #[] Kr gg 0 cap d w eg (lays _ _ _ _) ⟨(fun _=>rfl),(fun x v hv=>by
  simp only [iL,List.mem_cons,List.not_mem_nil,or_false] at hv
  rcases hv with rfl | rfl
  ·rfl
  ·exact x.2),hH,hblk⟩ (d.size+1) 0 d.size (Lib.bitLen d.size) d w (by omega) rfl (SWK.start hH) (Nat.zero_le _) (Nat.le_refl _) hsz hlim (Or.inl rfl)
 have hl:Calls Tryz.prog 116 #[.int .u64 (d.size:Int)] w fun e w'=>e = .returned (.int .i64 (Lib.bitLen d.size:Nat))∧w'=w:=by
  have h:=Any.bits_Len (SlLaysF0.n15.bits (P:=Tryz.prog) (ρ:=eX) { fC with }) (d.size:Int) w (by omega) (by omega)
  rwa [Int.toNat_natCast] at h
 have wr:IntKind.u64.wrap (d.size:Int)=d.size:=by simp [IntKind.wrap,IntKind.bits,IntKind.signed]; omega
 have hsort:=pdq_sorts (ltOf cfS) Kr d 0 d.size (Lib.bitLen d.size) true true (Nat.zero_le _) (Nat.le_refl _) (Or.inl rfl)
 generalize pdq (ltOf cfS) d 0 d.size (Lib.bitLen d.size) true true=dd at hp hsort
 clear hH
 change Calls Tryz.prog 115 _ _ _ at hp
 go_enter Tryz.func94,Tryz.ntmps94
 go_wp2_with (first | (go_at_call 116; refine hl.mono ?_; rintro e w' ⟨rfl,rfl⟩) | (go_at_call 115; refine hp.mono ?_; rintro e w' ⟨rfl,n,os,rfl⟩))
 go_end0
 exact ⟨rfl,dd,n,os,hsort.1,hsort.2,rfl⟩
end Srt
noncomputable def dK:Spec Kd:=zp 133 95
noncomputable def aU (F:Nat) (x:(List Me×Unit)×Unit):Option (Unit×(List Me×Unit)):=uy x
theorem ga (F:Nat):Ctr TT Tryz.prog 94 (ak TT dK (aU F)):=D8 (kt:=kt) Srt.none_ Srt.some_ Tryz.func94 (by kernel_rfl) (by kernel_rfl)
end Go.Vm
