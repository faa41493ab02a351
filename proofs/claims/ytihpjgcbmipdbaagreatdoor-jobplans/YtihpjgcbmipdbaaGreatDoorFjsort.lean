import Derived.Test.YtihpjgcbmipdbaaGreatDoorFjrd
set_option linter.unusedVariables false
noncomputable section
namespace Go.Vm
open Go.Proofs
namespace Ato
open Go.Proofs Go.Shelf Go.RowKit
def fS:Ren:=⟨fun | 129=>292 | 171=>140 | 172=>186 | 205=>290 | 243=>197 | 244=>233 | 245=>234 | 246=>241 | 247=>270 | 279=>271 | 280=>272 | 281=>273 | 282=>274 | 283=>275 | 284=>276 | 285=>277 | 286=>278 | 287=>288 | 316=>289 | 317=>291 | 318=>293 | 319=>294 | 320=>295 | 321=>308 | 322=>309 | 337=>310 | 338=>311 | n=>n,fun | 0=>0 | 2=>2 | 3=>3 | 4=>4 | 5=>5 | 9=>9 | 20=>20 | 21=>21 | 37=>106 | 46=>228 | 51=>252 | 53=>250 | 75=>174 | 76=>175 | 80=>142 | 85=>257 | 127=>220 | 143=>296 | 145=>298 | 167=>256 | 168=>259 | 171=>262 | 173=>265 | 175=>276 | 210=>279 | 212=>282 | 213=>283 | 232=>305 | 233=>306 | n=>n,fun | 15=>3 | 16=>4 | 17=>5 | 18=>6 | 19=>7 | n=>n⟩
theorem iG:LaysC.n172 Tryz.prog fS:={ mixed:=(by kernel_rfl),f129:=adp Tryz.func292,f171:=adp Tryz.func140,f172:=adp Tryz.func186,f205:=adp Tryz.func290,f243:=adp Tryz.func197,f244:=adp Tryz.func233,f245:=adp Tryz.func234,f246:=adp Tryz.func241,f247:=adp Tryz.func270,f279:=adp Tryz.func271,f280:=adp Tryz.func272,f281:=adp Tryz.func273,f282:=adp Tryz.func274,f283:=adp Tryz.func275,f284:=adp Tryz.func276,f285:=adp Tryz.func277,f286:=adp Tryz.func278,f287:=adp Tryz.func288,f316:=adp Tryz.func289,f317:=adp Tryz.func291,f318:=adp Tryz.func293,f319:=adp Tryz.func294,f320:=adp Tryz.func295,f321:=adp Tryz.func308,f322:=adp Tryz.func309,f337:=adp Tryz.func310,f338:=adp Tryz.func311,t0:=Tryz.underlying0,a0:=Tryz.isAgg0,z0:=Tryz.sizeOf0,v0:=Tryz.zeroValue0,t2:=Tryz.underlying2,a2:=Tryz.isAgg2,z2:=Tryz.sizeOf2,v2:=Tryz.zeroValue2,t3:=Tryz.underlying3,a3:=Tryz.isAgg3,z3:=Tryz.sizeOf3,v3:=Tryz.zeroValue3,t4:=Tryz.underlying4,a4:=Tryz.isAgg4,z4:=Tryz.sizeOf4,v4:=Tryz.zeroValue4,t5:=Tryz.underlying5,a5:=Tryz.isAgg5,z5:=Tryz.sizeOf5,v5:=Tryz.zeroValue5,t9:=Tryz.underlying9,a9:=Tryz.isAgg9,z9:=Tryz.sizeOf9,v9:=Tryz.zeroValue9,t20:=Tryz.underlying20,a20:=Tryz.isAgg20,z20:=Tryz.sizeOf20,v20:=Tryz.zeroValue20,t21:=Tryz.underlying21,a21:=Tryz.isAgg21,z21:=Tryz.sizeOf21,v21:=Tryz.zeroValue21,t37:=Tryz.underlying106,a37:=Tryz.isAgg106,z37:=Tryz.sizeOf106,v37:=Tryz.zeroValue106,t46:=Tryz.underlying228,a46:=Tryz.isAgg228,z46:=Tryz.sizeOf228,v46:=Tryz.zeroValue228,t51:=Tryz.underlying252,a51:=Tryz.isAgg252,z51:=Tryz.sizeOf252,v51:=Tryz.zeroValue252,t53:=Tryz.underlying250,a53:=Tryz.isAgg250,z53:=Tryz.sizeOf250,v53:=Tryz.zeroValue250,t75:=Tryz.underlying174,a75:=Tryz.isAgg174,z75:=Tryz.sizeOf174,v75:=Tryz.zeroValue174,t76:=Tryz.underlying175,a76:=Tryz.isAgg175,z76:=Tryz.sizeOf175,v76:=Tryz.zeroValue175,t85:=Tryz.underlying257,a85:=Tryz.isAgg257,z85:=Tryz.sizeOf257,v85:=Tryz.zeroValue257,t127:=Tryz.underlying220,a127:=Tryz.isAgg220,z127:=Tryz.sizeOf220,v127:=Tryz.zeroValue220,t143:=Tryz.underlying296,a143:=Tryz.isAgg296,z143:=Tryz.sizeOf296,v143:=Tryz.zeroValue296,t145:=Tryz.underlying298,a145:=Tryz.isAgg298,z145:=Tryz.sizeOf298,v145:=Tryz.zeroValue298,t167:=Tryz.underlying256,a167:=Tryz.isAgg256,z167:=Tryz.sizeOf256,v167:=Tryz.zeroValue256,t168:=Tryz.underlying259,a168:=Tryz.isAgg259,z168:=Tryz.sizeOf259,v168:=Tryz.zeroValue259,t171:=Tryz.underlying262,a171:=Tryz.isAgg262,z171:=Tryz.sizeOf262,v171:=Tryz.zeroValue262,t173:=Tryz.underlying265,a173:=Tryz.isAgg265,z173:=Tryz.sizeOf265,v173:=Tryz.zeroValue265,t175:=Tryz.underlying276,a175:=Tryz.isAgg276,z175:=Tryz.sizeOf276,v175:=Tryz.zeroValue276,t210:=Tryz.underlying279,a210:=Tryz.isAgg279,z210:=Tryz.sizeOf279,v210:=Tryz.zeroValue279,t212:=Tryz.underlying282,a212:=Tryz.isAgg282,z212:=Tryz.sizeOf282,v212:=Tryz.zeroValue282,t213:=Tryz.underlying283,a213:=Tryz.isAgg283,z213:=Tryz.sizeOf283,t232:=Tryz.underlying305,a232:=Tryz.isAgg305,z232:=Tryz.sizeOf305,v232:=Tryz.zeroValue305,t233:=Tryz.underlying306,a233:=Tryz.isAgg306,z233:=Tryz.sizeOf306,v233:=Tryz.zeroValue306,g15:=(by kernel_rfl),g16:=(by kernel_rfl),g17:=(by kernel_rfl),g18:=(by kernel_rfl),g19:=(by kernel_rfl),t80:=Tryz.underlying142,a80:=Tryz.isAgg142,z80:=Tryz.sizeOf142,v80:=Tryz.zeroValue142,i0:=(by kernel_rfl),i2:=(by kernel_rfl),i3:=(by kernel_rfl),i4:=(by kernel_rfl),i5:=(by kernel_rfl),i9:=(by kernel_rfl),i20:=(by kernel_rfl),i21:=(by kernel_rfl),i37:=(by kernel_rfl),i46:=(by kernel_rfl),i51:=(by kernel_rfl),i53:=(by kernel_rfl),i75:=(by kernel_rfl),i76:=(by kernel_rfl),i80:=(by kernel_rfl),i85:=(by kernel_rfl),i127:=(by kernel_rfl),i143:=(by kernel_rfl),i145:=(by kernel_rfl),i167:=(by kernel_rfl),i168:=(by kernel_rfl),i171:=(by kernel_rfl),i173:=(by kernel_rfl),i175:=(by kernel_rfl),i210:=(by kernel_rfl),i212:=(by kernel_rfl),i232:=(by kernel_rfl),i233:=(by kernel_rfl),m15:=(by kernel_rfl),m16:=(by kernel_rfl),m17:=(by kernel_rfl),m18:=(by kernel_rfl),m19:=(by kernel_rfl),c0:=(by kernel_rfl),c2:=(by kernel_rfl),c3:=(by kernel_rfl),c4:=(by kernel_rfl),c5:=(by kernel_rfl),c9:=(by kernel_rfl),c20:=(by kernel_rfl),c21:=(by kernel_rfl),c37:=(by kernel_rfl),c46:=(by kernel_rfl),c51:=(by kernel_rfl),c53:=(by kernel_rfl),c75:=(by kernel_rfl),c76:=(by kernel_rfl),c80:=(by kernel_rfl),c85:=(by kernel_rfl),c127:=(by kernel_rfl),c143:=(by kernel_rfl),c145:=(by kernel_rfl),c167:=(by kernel_rfl),c168:=(by kernel_rfl),c171:=(by kernel_rfl),c173:=(by kernel_rfl),c175:=(by kernel_rfl),c210:=(by kernel_rfl),c212:=(by kernel_rfl),c213:=(by kernel_rfl),c232:=(by kernel_rfl),c233:=(by kernel_rfl) }
end Ato
def Bm:Spec Kd:=Ls
def lI (F:Nat) (x:B8):Option (Int×Bool):=LM x
theorem AE (F:Nat):Ctr TT Tryz.prog 186 (ai TT Bm (lI F)):=Qk (kt:=kt) (ρ:=Ato.fS) Ato.iG (fun w h=>h.err 3 (adn ..)) rfl Tryz.func186 (by kernel_rfl) (by kernel_rfl) rfl
def mG:Spec Kd:={ params:=[(.pin 191 acF)],ret:=(.one (.a (.any .jv))),pins:=[acF],pl:={ nt:=85,joins:=[(400017,(.norm,⟨[.tmp 0 (.a (.ptr 1 0)),.tmp 3 ac6,.box 1 (.cells 191 acF)],[],[]⟩),[])],loops:=[(0,⟨[.tmp 0 (.a (.ptr 1 0)),.tmp 3 ac6,.tmp 4 ac6,.box 1 (.cells 191 acF)],[],[]⟩,(.exit 0,⟨[.tmp 0 (.a (.ptr 1 0)),.tmp 3 ac6,.box 1 (.cells 191 acF)],[],[]⟩),[])],cuts:=[(5,[(16,⟨[.tmp 0 (.a (.ptr 1 0)),.tmp 3 ac6,.tmp 4 ac6,.tmp 36 ac7,.box 1 (.cells 191 acF)],[],[]⟩),(9,⟨[.tmp 0 (.a (.ptr 1 0)),.tmp 3 ac6,.tmp 4 ac6,.tmp 45 ac7,.box 1 (.cells 191 acF)],[],[]⟩),(6,⟨[.tmp 0 (.a (.ptr 1 0)),.tmp 3 ac6,.tmp 4 ac6,.tmp 51 ac7,.box 1 (.cells 191 acF)],[],[]⟩)])],ends:=[(8,⟨[.tmp 0 (.a (.ptr 1 0)),.tmp 3 ac6,.tmp 5 ac6,.tmp 6 (.a (.any .er)),.box 1 (.cells 191 acF)],[],[]⟩)] },rfrz:=[],ts:=[2],rco:=[.tmpAny 2 .jv] }
def cf (F:Nat) (v2:(Unit×Int×Int×acG×Unit)):Option ((Unit×Int×Int×acG×Unit) ⊕ (Unit×Int×acG×Unit)):=(if decide (v2.2.1<(↑v2.2.2.2.1.1.length:Int))=true then (idx v2.2.2.2.1.1 v2.2.1).bind fun v3=>some ((),v2.2.1,v2.2.2.1,decide (48<=(↑v3.toNat:Int)),(v2.2.2.2.1.1,v2.2.2.2.1.2.1,v2.2.2.2.1.2.2.1,v2.2.2.2.1.2.2.2.1,()),()) else some ((),v2.2.1,v2.2.2.1,false,(v2.2.2.2.1.1,v2.2.2.2.1.2.1,v2.2.2.2.1.2.2.1,v2.2.2.2.1.2.2.2.1,()),())).bind fun v4=>(if v4.2.2.2.1=true then (idx v4.2.2.2.2.1.1 v4.2.1).bind fun v5=>some ((),v4.2.1,v4.2.2.1,decide ((↑v5.toNat:Int)<=57),(v4.2.2.2.2.1.1,v4.2.2.2.2.1.2.1,v4.2.2.2.2.1.2.2.1,v4.2.2.2.2.1.2.2.2.1,()),()) else some ((),v4.2.1,v4.2.2.1,false,(v4.2.2.2.2.1.1,v4.2.2.2.2.1.2.1,v4.2.2.2.2.1.2.2.1,v4.2.2.2.2.1.2.2.2.1,()),())).bind fun v6=>(if v6.2.2.2.1=true then some ((),v6.2.1,v6.2.2.1,decide (IntKind.i64.wrap (v6.2.1-v6.2.2.1)<15),(v6.2.2.2.2.1.1,v6.2.2.2.2.1.2.1,v6.2.2.2.2.1.2.2.1,v6.2.2.2.2.1.2.2.2.1,()),()) else some ((),v6.2.1,v6.2.2.1,false,(v6.2.2.2.2.1.1,v6.2.2.2.2.1.2.1,v6.2.2.2.2.1.2.2.1,v6.2.2.2.2.1.2.2.2.1,()),())).bind fun v7=>if v7.2.2.2.1=true then (idx v7.2.2.2.2.1.1 v7.2.2.1).bind fun v8=>if decide ((↑v8.toNat:Int)=48)=true then some (Sum.inr ((),IntKind.i64.wrap (v7.2.1+1),(v7.2.2.2.2.1.1,v7.2.2.2.2.1.2.1,v7.2.2.2.2.1.2.2.1,v7.2.2.2.2.1.2.2.2.1,()),())) else some (Sum.inl ((),IntKind.i64.wrap (v7.2.1+1),v7.2.2.1,(v7.2.2.2.2.1.1,v7.2.2.2.2.1.2.1,v7.2.2.2.2.1.2.2.1,v7.2.2.2.2.1.2.2.2.1,()),())) else some (Sum.inr ((),v7.2.1,(v7.2.2.2.2.1.1,v7.2.2.2.2.1.2.1,v7.2.2.2.2.1.2.2.1,v7.2.2.2.2.1.2.2.2.1,()),()))
def ey (F:Nat) (x: acG):Option ((El .jv)×acG):=(idx x.1 x.2.1).bind fun v0=>(if decide ((↑v0.toNat:Int)=45)=true then some ((),IntKind.i64.wrap (x.2.1+1),(x.1,x.2.1,x.2.2.1,x.2.2.2.1,()),()) else some ((),x.2.1,(x.1,x.2.1,x.2.2.1,x.2.2.2.1,()),())).bind fun v1=>(bf (cf F) F ((),v1.2.1,v1.2.1,(v1.2.2.1.1,v1.2.2.1.2.1,v1.2.2.1.2.2.1,v1.2.2.1.2.2.2.1,()),())).bind fun v9=>((sub v9.2.2.1.1 v9.2.2.1.2.1 v9.2.1).bind fun v10=>(lI F v10).bind fun v11=>some ((),v9.2.1,v11.1,v11.2,(v9.2.2.1.1,v9.2.2.1.2.1,v9.2.2.1.2.2.1,v9.2.2.1.2.2.2.1,()),())).bind fun v12=>if (!!v12.2.2.2.1)=true then (aK F ((v12.2.2.2.2.1.1,v12.2.2.2.2.1.2.1,v12.2.2.2.2.1.2.2.1,v12.2.2.2.2.1.2.2.2.1,()),3)).bind fun v13=>some (JV.nil,v13.2.1,v13.2.2.1,v13.2.2.2.1,v13.2.2.2.2.1,()) else some (JV.int v12.2.2.1,v12.2.2.2.2.1.1,v12.2.1,v12.2.2.2.2.1.2.2.1,v12.2.2.2.2.1.2.2.2.1,())
theorem tF (F:Nat):Ctr TT Tryz.prog 215 (ai TT mG (ey F)) :=
 ar F (code:=aj 215) Tryz.func215 (af (af ah (AE F)) (ek F)) fun x=>by kernel_rfl
end Go.Vm
namespace Go.Vm
open Go.Proofs
def ta:Spec Kd:={ params:=[(.agg [.str,(.any .jv)]),(.shp [.str])],ret:=(.one ac7),pins:=[],pl:={ nt:=8 },rfrz:=[],ts:=[3] }
def hE (F:Nat) (x:(B8×(El .jv)×Unit)×(B8×Unit)):Option (Bool):=some (decide (x.1.1=x.2.1))
theorem tc (F:Nat):Ctr TT Tryz.prog 237 (ai TT ta (hE F)) :=
 ar F (code:=aj 237) Tryz.func237 ah fun x=>by kernel_rfl
def iE:Spec Kd:={ params:=[(.a (.slc .me)),(.fnc 237 [[.str]])],ret:=(.one ac6),pins:=[],pl:={ nt:=19,loops:=[(0,⟨[.tmp 0 (.a (.slc .me)),.tmp 1 (.fnc 237 [[.str]]),.tmp 7 ac6,.tmp 8 ac6],[],[]⟩,(.exit 0,⟨[],[],[]⟩),[(.ret,⟨[.tmp 4 ac6],[],[]⟩)])] },rfrz:=[],ts:=[4] }
def aR (F:Nat) (v0:(List (B8×JV×Unit)×((B8×Unit)×Unit)×Int×Int×Unit)):Option ((List (B8×JV×Unit)×((B8×Unit)×Unit)×Int×Int×Unit) ⊕ (Unit ⊕ Int×Unit)):=if decide (v0.2.2.2.1<v0.2.2.1)=true then (idx v0.1 v0.2.2.2.1).bind fun v1=>(hE F ((v1.1,v1.2.1,()),v0.2.1.1.1,())).bind fun v2=>if v2=true then some (Sum.inr (Sum.inr (v0.2.2.2.1,()))) else some (Sum.inl (v0.1,((v0.2.1.1.1,()),()),v0.2.2.1,IntKind.i64.wrap (v0.2.2.2.1+1),())) else some (Sum.inr (Sum.inl ()))
def cw (F:Nat) (x:(List (El .me))×((B8×Unit)×Unit)):Option (Int):=(bf (aR F) F (x.1,((x.2.1.1,()),()),(↑x.1.length:Int),0,())).bind fun v3=>dq v3 (fun v4=>some (-1)) fun v5=>some v5.1
theorem iJ (F:Nat):Ctr TT Tryz.prog 236 (ai TT iE (cw F)) :=
 ar F (code:=aj 236) Tryz.func236 (af ah (tc F)) fun x=>by kernel_rfl
def oD:Spec Kd:={ params:=[(.a (.slc .me)),ac8],ret:=(.one ac6),pins:=[],pl:={ nt:=8,frz:=[(1,[192])] },rfrz:=[],ts:=[4] }
def cY (F:Nat) (x:(List (El .me))×B8):Option (Int):=(cw F (x.1,(x.2,()),())).bind fun v0=>some v0
theorem oX (F:Nat):Ctr TT Tryz.prog 192 (ai TT oD (cY F)) :=
 ar F (code:=aj 192) Tryz.func192 (af ah (iJ F)) fun x=>by kernel_rfl
end Go.Vm
namespace Go.Vm
open Go.Proofs
namespace Srt
open Go.Proofs Go.Shelf Go.RowKit Go.Sort Go.Lib
def fS:Ren:=⟨fun | 14=>283 | 15=>284 | 20=>298 | 21=>299 | 22=>300 | 23=>301 | 24=>302 | 25=>303 | 26=>304 | 27=>305 | 28=>306 | 29=>292 | 46=>312 | 47=>313 | 48=>314 | 49=>315 | 50=>316 | 57=>317 | n=>n,fun | 0=>0 | 3=>3 | 4=>4 | 5=>5 | 9=>9 | 22=>202 | 24=>206 | 25=>248 | 39=>228 | 45=>286 | 46=>287 | 50=>163 | 53=>252 | 55=>250 | 66=>299 | 70=>303 | 76=>307 | 77=>221 | n=>n,fun n=>n⟩
theorem iG:SlLaysF0.n14 Tryz.prog fS:={ mixed:=(by kernel_rfl),f14:=⟨_,by kernel_rfl,Tryz.func283⟩,f15:=adp Tryz.func284,f20:=⟨_,by kernel_rfl,Tryz.func298⟩,f21:=⟨_,by kernel_rfl,Tryz.func299⟩,f22:=⟨_,by kernel_rfl,Tryz.func300⟩,f23:=⟨_,by kernel_rfl,Tryz.func301⟩,f24:=⟨_,by kernel_rfl,Tryz.func302⟩,f25:=⟨_,by kernel_rfl,Tryz.func303⟩,f26:=⟨_,by kernel_rfl,Tryz.func304⟩,f27:=⟨_,by kernel_rfl,Tryz.func305⟩,f28:=adp Tryz.func306,f29:=adp Tryz.func292,f46:=⟨_,by kernel_rfl,Tryz.func312⟩,f47:=adp Tryz.func313,f48:=adp Tryz.func314,f49:=⟨_,by kernel_rfl,Tryz.func315⟩,f50:=⟨_,by kernel_rfl,Tryz.func316⟩,f57:=⟨_,by kernel_rfl,Tryz.func317⟩,t0:=Tryz.underlying0,a0:=Tryz.isAgg0,z0:=Tryz.sizeOf0,v0:=Tryz.zeroValue0,t3:=Tryz.underlying3,a3:=Tryz.isAgg3,z3:=Tryz.sizeOf3,v3:=Tryz.zeroValue3,t4:=Tryz.underlying4,a4:=Tryz.isAgg4,z4:=Tryz.sizeOf4,v4:=Tryz.zeroValue4,t5:=Tryz.underlying5,a5:=Tryz.isAgg5,z5:=Tryz.sizeOf5,v5:=Tryz.zeroValue5,t9:=Tryz.underlying9,a9:=Tryz.isAgg9,z9:=Tryz.sizeOf9,v9:=Tryz.zeroValue9,t22:=Tryz.underlying202,a22:=Tryz.isAgg202,z22:=Tryz.sizeOf202,v22:=Tryz.zeroValue202,t25:=Tryz.underlying248,a25:=Tryz.isAgg248,z25:=Tryz.sizeOf248,v25:=Tryz.zeroValue248,t39:=Tryz.underlying228,a39:=Tryz.isAgg228,z39:=Tryz.sizeOf228,v39:=Tryz.zeroValue228,t45:=Tryz.underlying286,a45:=Tryz.isAgg286,z45:=Tryz.sizeOf286,v45:=Tryz.zeroValue286,t46:=Tryz.underlying287,a46:=Tryz.isAgg287,z46:=Tryz.sizeOf287,v46:=Tryz.zeroValue287,t50:=Tryz.underlying163,a50:=Tryz.isAgg163,z50:=Tryz.sizeOf163,v50:=Tryz.zeroValue163,t53:=Tryz.underlying252,a53:=Tryz.isAgg252,z53:=Tryz.sizeOf252,v53:=Tryz.zeroValue252,t55:=Tryz.underlying250,a55:=Tryz.isAgg250,z55:=Tryz.sizeOf250,v55:=Tryz.zeroValue250,t66:=Tryz.underlying299,a66:=Tryz.isAgg299,z66:=Tryz.sizeOf299,v66:=Tryz.zeroValue299,t70:=Tryz.underlying303,a70:=Tryz.isAgg303,z70:=Tryz.sizeOf303,v70:=Tryz.zeroValue303,t76:=Tryz.underlying307,a76:=Tryz.isAgg307,z76:=Tryz.sizeOf307,v76:=Tryz.zeroValue307,t77:=Tryz.underlying221,a77:=Tryz.isAgg221,z77:=Tryz.sizeOf221,v77:=Tryz.zeroValue221 }
theorem XS (x:ByteArray) (w:World):Calls Tryz.prog 285 #[.string x] w fun e w'=>e = .returned (.bool false)/\w'=w:=by
 go_enter Tryz.func285,Tryz.ntmps285
 go_wp2
 go_ret
 exact ⟨by simp,rfl⟩
set_option maxHeartbeats 1000000 in
theorem compare (x y:ByteArray) (w:World):Calls Tryz.prog 256 #[.string x,.string y] w fun e w'=>e = .returned (.int .i64 (NT x y))/\w'=w:=by
 go_enter Tryz.func256,Tryz.ntmps256
 go_wp2_with (go_at_call 285; refine (XS _ _).mono ?_; rintro e w' ⟨rfl,hw⟩; rw[hw])
 all_goals (go_ret; refine ⟨?_,rfl⟩; unfold NT; simp_all)
set_option maxHeartbeats 1000000 in
theorem closure (x y:vl) (W:World):Calls Tryz.prog 255 #[.agg #[.string x.1.1,x.1.2],.agg #[.string y.1.1,y.1.2]] W fun e w'=>e = .returned (.int .i64 (NT x.1.1 y.1.1)) /\ ∃ q os',w'=grow (W.drewN q) os':=by
 obtain ⟨⟨x,u⟩,hu⟩:=x;obtain ⟨⟨y,v⟩,hv⟩:=y;have Ou:=fun W'=>compare x y W'
 generalize NT x y=r at Ou ⊢
 go_enter Tryz.func255,Tryz.ntmps255
 go_wp2_with (go_at_call 256; refine (Ou _).mono ?_; rintro e w' ⟨rfl,rfl⟩)
 go_ret
 exact ⟨rfl,0,_,by rw[alloc_eq_grow,alloc_eq_grow,grow_grow]; rfl⟩
theorem Y7 (w:World):(isAgg 206).run Tryz.prog w = .ok true w:=Tryz.isAgg206 w
theorem XJ (w:World):(Go.sizeOf 206).run Tryz.prog w = .ok 2 w:=Tryz.sizeOf206 w
theorem lays:∀ (blk off size:Nat) (w:World),CmpLays Tryz.prog 255 #[] kB 2 cfS blk off size w:=fun _ _ _ _ _ _ _ _ x y=>closure x y _
set_option maxHeartbeats 2000000 in
set_option maxRecDepth 100000 in
theorem none_ (w:World):Calls Tryz.prog 254 #[.slice none 0 0,.func (.func 255) #[] #[]] w fun e w'=>e = .returned (.tuple #[])/\w'=w:=by
 have hl:∀ W,Calls Tryz.prog 284 #[.int .u64 0] W fun e w'=>e = .returned (.int .i64 (Lib.bitLen 0:Nat))/\w'=W:=fun W=>Any.bits_Len (SlLaysF0.n15.bits (P:=Tryz.prog) (ρ:=fS) { iG with }) 0 W (by omega) (by omega)
 have hp:=fun (lim:Int) W=>AnyF.pdqsortCmpFunc_none (P:=Tryz.prog) (ρ:=fS) iG none 0 lim (.func (.func 255) #[] #[]) W
 go_enter Tryz.func254,Tryz.ntmps254
 go_wp2_with (first | (go_at_call 284; refine (hl _).mono ?_; rintro e w' ⟨rfl,rfl⟩) | (go_at_call 283; refine (hp _ _).mono ?_; rintro e w' ⟨rfl,rfl⟩))
 go_end0
 exact ⟨rfl,rfl⟩
set_option maxHeartbeats 2000000 in
set_option maxRecDepth 100000 in
theorem some_ (gg cap:Nat) (d:Array vl) (w:World) (hH:HoldsK kB 2 w gg 0 d) (hblk:gg<w.heap.size) (nf:d.size<4611686018427387904) :
  Calls Tryz.prog 254 #[.slice (some ⟨gg,0,none⟩) d.size cap,.func (.func 255) #[] #[]] w fun e w'=>e = .returned (.tuple #[]) /\ ∃ d' n os,PermIn 0 d.size d d'/\SortedIn (ltOf cfS) 0 d.size d'/\w'=sortWorldK kB 2 w gg 0 n d' os:=by
 have eg:∀ args w,(callFunc 255 args).run Tryz.prog w = .ok (.enter 255 args) w:=enters_of Tryz.func255 (by kernel_rfl) rfl
 have GW:Lib.bitLen d.size<4611686018427387904:=Nat.lt_of_le_of_lt (Lib.bitLen_le d.size 62 (by omega) (by omega)) (by omega);have hp:=AnyQ.pdqsortCmpFunc_all (P:=Tryz.prog) (ρ:=fS) iG 2 Y7 XJ kB cfS 255 #[] Xs gg 0 cap d w eg (lays _ _ _ _) ⟨(fun _=>rfl),(fun x v hv=>by
  simp only[kB,List.mem_cons,List.not_mem_nil,or_false] at hv;rcases hv with rfl | rfl
  ·rfl
  ·exact x.2),hH,hblk⟩ (d.size+1) 0 d.size (Lib.bitLen d.size) d w (by omega) rfl (SWK.start hH) (Nat.zero_le _) (Nat.le_refl _) nf GW (Or.inl rfl)
 have hl:Calls Tryz.prog 284 #[.int .u64 (d.size:Int)] w fun e w'=>e = .returned (.int .i64 (Lib.bitLen d.size:Nat))/\w'=w:=by
  have h:=Any.bits_Len (SlLaysF0.n15.bits (P:=Tryz.prog) (ρ:=fS) { iG with }) (d.size:Int) w (by omega) (by omega)
  rwa [Int.toNat_natCast] at h
 have wr:IntKind.u64.wrap (d.size:Int)=d.size:=by simp[IntKind.wrap,IntKind.bits,IntKind.signed]; omega
 have RE:=pdq_sorts (ltOf cfS) Xs d 0 d.size (Lib.bitLen d.size) true true (Nat.zero_le _) (Nat.le_refl _) (Or.inl rfl);generalize pdq (ltOf cfS) d 0 d.size (Lib.bitLen d.size) true true=dd at hp RE;clear hH;change Calls Tryz.prog 283 _ _ _ at hp
 go_enter Tryz.func254,Tryz.ntmps254
 go_wp2_with (first | (go_at_call 284; refine hl.mono ?_; rintro e w' ⟨rfl,rfl⟩) | (go_at_call 283; refine hp.mono ?_; rintro e w' ⟨rfl,n,os,rfl⟩))
 go_end0
 exact ⟨rfl,dd,n,os,RE.1,RE.2,rfl⟩
end Srt
def eT:Spec Kd:=Fw 206 255
def aY (F:Nat) (x:(List Me×Unit)×Unit):Option (Unit×(List Me×Unit)):=Cm x
theorem iR (F:Nat):Ctr TT Tryz.prog 254 (ai TT eT (aY F)):=Oj (kt:=kt) Srt.none_ Srt.some_ Tryz.func254 (by kernel_rfl) (by kernel_rfl)
end Go.Vm
