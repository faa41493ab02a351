import Derived.Test.YtihpjgcbmipdbaaGreatDoorFjlay
set_option linter.unusedVariables false
noncomputable section
namespace Go.Vm
open Go.Proofs
def Gx:Spec Kd:={ params:=[ac8],ret:=(.tup [(.a (.any .jv)),ac6]),pins:=[],pl:={ nt:=35,joins:=[(800022,(.norm,⟨[.tmp 4 (.a (.ptr 704 0)),.tmp 5 (.a (.any .jv)),.box 704 (.cells 191 acF)],[],[]⟩),[])] },rfrz:=[],ts:=[2,3],rco:=[.tmpAny 2 .jv] }
def iK (F:Nat) (x:B8):Option ((El .jv)×Int):=if decide (400<(↑x.length:Int))=true then some (JV.nil,5) else (jY F (x,0,0,0,())).bind fun (v0:JV×B8×Int×Int×Int×Unit)=>(bE F (v0.2.1,v0.2.2.1,v0.2.2.2.1,v0.2.2.2.2.1,())).bind fun (v1:Int×B8×Int×Int×Int×Unit)=>(if decide (v1.2.2.1<(↑x.length:Int))=true then (aK F ((v1.2.1,v1.2.2.1,v1.2.2.2.1,v1.2.2.2.2.1,()),3)).bind fun (v2:Unit×B8×Int×Int×Int×Unit)=>some ((),v0.1,(v2.2.1,v2.2.2.1,v2.2.2.2.1,v2.2.2.2.2.1,()),()) else some ((),v0.1,(v1.2.1,v1.2.2.1,v1.2.2.2.1,v1.2.2.2.2.1,()),())).bind fun (v3:Unit×JV×acG×Unit)=>if (!decide (v3.2.2.1.2.2.2.1=0))=true then some (JV.nil,v3.2.2.1.2.2.2.1) else some (v3.2.1,0)
theorem rF (F:Nat):Ctr TT Tryz.prog 101 (ai TT Gx (iK F)) :=
 ar F (code:=aj 101) Tryz.func101 (af (af (af ah (vk F)) (gn F)) (ek F)) fun x=>by kernel_rfl
def HY:Spec Kd:={ params:=[ac8],ret:=(.tup [ac8,ac7]),pins:=[],pl:={ nt:=20 },rfrz:=[],ts:=[2,3] }
def pJ (F:Nat) (x:B8):Option (B8×Bool):=(iK F x).bind fun (v0:JV×Int)=>if s8 v0.1.Q6=true then v0.1.Q6.bind fun (v1:B8)=>some (v1,true) else some ([],false)
theorem H9 (F:Nat):Ctr TT Tryz.prog 239 (ai TT HY (pJ F)) :=
 ar F (code:=aj 239) Tryz.func239 (af ah (rF F)) fun x=>by kernel_rfl
def FN:Spec Kd:={ params:=[ac8,ac8],ret:=(.tup [ac8,ac7]),pins:=[],pl:={ nt:=33 },rfrz:=[],ts:=[4,5] }
def lB (F:Nat) (x:B8×B8):Option (B8×Bool):=(iK F x.1).bind fun (v0:JV×Int)=>if s8 v0.1.N9=true then v0.1.N9.bind fun (v1:List (B8×JV×Unit))=>(cY F (v1,x.2)).bind fun (v2:Int)=>if decide (v2<0)=true then some ([],false) else (idx v1 v2).bind fun (v3:B8×JV×Unit)=>(oE F ([],v3.2.1)).bind fun (v4:B8)=>some (v4,true) else (cY F ([],x.2)).bind fun (v5:Int)=>if decide (v5<0)=true then some ([],false) else (idx [] v5).bind fun (v6:B8×JV×Unit)=>(oE F ([],v6.2.1)).bind fun (v7:B8)=>some (v7,true)
theorem xz (F:Nat):Ctr TT Tryz.prog 125 (ai TT FN (lB F)) :=
 ar F (code:=aj 125) Tryz.func125 (af (af (af ah (rF F)) (oX F)) (Jz F)) fun x=>by kernel_rfl
def C4:Spec Kd:={ params:=[ac8],ret:=(.tup [ac6,ac7]),pins:=[],pl:={ nt:=20 },rfrz:=[],ts:=[2,3] }
def mj (F:Nat) (x:B8):Option (Int×Bool):=(iK F x).bind fun (v0:JV×Int)=>if s8 v0.1.int? = true then v0.1.int?.bind fun (v1:Int)=>some (v1,true) else some (0,false)
theorem Db (F:Nat):Ctr TT Tryz.prog 126 (ai TT C4 (mj F)) :=
 ar F (code:=aj 126) Tryz.func126 (af ah (rF F)) fun x=>by kernel_rfl
end Go.Vm
namespace Go.Vm
open Go.Proofs
namespace Trm
open Go.Proofs Go.Shelf Go.RowKit
def fS:Ren:=⟨fun | 119=>235 | 120=>297 | 137=>200 | 151=>280 | 152=>296 | 160=>199 | 197=>230 | 217=>250 | 224=>268 | 225=>267 | 227=>245 | 228=>279 | 231=>243 | 232=>244 | 233=>246 | 234=>247 | 235=>248 | 236=>249 | 260=>266 | 266=>282 | 271=>281 | n=>n,fun | 0=>0 | 3=>3 | 4=>4 | 5=>5 | 9=>9 | 21=>21 | 46=>228 | 105=>231 | 116=>242 | 117=>243 | 119=>270 | 124=>246 | 138=>272 | 139=>273 | n=>n,fun | 3=>1 | 4=>2 | n=>n⟩
theorem iG:Lays.n160 Tryz.prog fS:={ mixed:=(by kernel_rfl),f119:=adp Tryz.func235,f120:=adp Tryz.func297,f137:=adp Tryz.func200,f151:=adp Tryz.func280,f152:=adp Tryz.func296,f160:=adp Tryz.func199,f197:=adp Tryz.func230,f217:=adp Tryz.func250,f224:=adp Tryz.func268,f225:=adp Tryz.func267,f227:=adp Tryz.func245,f228:=adp Tryz.func279,f231:=adp Tryz.func243,f232:=adp Tryz.func244,f233:=adp Tryz.func246,f234:=adp Tryz.func247,f235:=adp Tryz.func248,f236:=adp Tryz.func249,f260:=adp Tryz.func266,f266:=adp Tryz.func282,f271:=adp Tryz.func281,t0:=Tryz.underlying0,a0:=Tryz.isAgg0,z0:=Tryz.sizeOf0,v0:=Tryz.zeroValue0,t3:=Tryz.underlying3,a3:=Tryz.isAgg3,z3:=Tryz.sizeOf3,v3:=Tryz.zeroValue3,t4:=Tryz.underlying4,a4:=Tryz.isAgg4,z4:=Tryz.sizeOf4,v4:=Tryz.zeroValue4,t5:=Tryz.underlying5,a5:=Tryz.isAgg5,z5:=Tryz.sizeOf5,v5:=Tryz.zeroValue5,t9:=Tryz.underlying9,a9:=Tryz.isAgg9,z9:=Tryz.sizeOf9,v9:=Tryz.zeroValue9,t21:=Tryz.underlying21,a21:=Tryz.isAgg21,z21:=Tryz.sizeOf21,v21:=Tryz.zeroValue21,t46:=Tryz.underlying228,a46:=Tryz.isAgg228,z46:=Tryz.sizeOf228,v46:=Tryz.zeroValue228,t105:=Tryz.underlying231,a105:=Tryz.isAgg231,z105:=Tryz.sizeOf231,v105:=Tryz.zeroValue231,t116:=Tryz.underlying242,a116:=Tryz.isAgg242,z116:=Tryz.sizeOf242,t117:=Tryz.underlying243,a117:=Tryz.isAgg243,z117:=Tryz.sizeOf243,v117:=Tryz.zeroValue243,t119:=Tryz.underlying270,a119:=Tryz.isAgg270,z119:=Tryz.sizeOf270,t124:=Tryz.underlying246,a124:=Tryz.isAgg246,z124:=Tryz.sizeOf246,v124:=Tryz.zeroValue246,t138:=Tryz.underlying272,a138:=Tryz.isAgg272,z138:=Tryz.sizeOf272,v138:=Tryz.zeroValue272,t139:=Tryz.underlying273,a139:=Tryz.isAgg273,z139:=Tryz.sizeOf273,v139:=Tryz.zeroValue273,g3:=(by kernel_rfl),g4:=(by kernel_rfl) }
theorem XE:(Tryz.prog.info? (fS.t 116)).map (fun i=>(i.zero,i.size))=some (some (.agg (Array.replicate 256 (.bool false))),256):=by kernel_rfl
end Trm
def AZ:Spec Kd:=Ui
def lq (F:Nat) (x:B8×B8):Option B8:=Mc x
theorem AQ (F:Nat):Ctr TT Tryz.prog 199 (ai TT AZ (lq F)):=OS (kt:=kt) (ρ:=Trm.fS) Trm.iG Trm.XE Tryz.func199 (by kernel_rfl) (by kernel_rfl) rfl
end Go.Vm
namespace Go.Vm
open Go.Proofs
def C1:Spec Kd:={ params:=[ac8],ret:=(.one ac7),pins:=[],pl:={ nt:=15,cuts:=[(1,[(7,⟨[.tmp 0 ac8,.tmp 9 ac7],[],[]⟩),(5,⟨[.tmp 14 ac7],[],[]⟩)])] },rfrz:=[],ts:=[2] }
def iV (F:Nat) (x:B8):Option (Bool):=(if (!decide (x=[]))=true then some (x,decide ((↑x.length:Int)<=12),()) else some (x,false,())).bind fun v0=>(if v0.2.1=true then (lq F (v0.1,[97,98,99,100,101,102,103,104,105,106,107,108,109,110,111,112,113,114,115,116,117,118,119,120,121,122,48,49,50,51,52,53,54,55,56,57])).bind fun v1=>some (decide (v1=[]),()) else some (false,())).bind fun v2=>some v2.1
theorem vI (F:Nat):Ctr TT Tryz.prog 142 (ai TT C1 (iV F)) :=
 ar F (code:=aj 142) Tryz.func142 (af ah (AQ F)) fun x=>by kernel_rfl
def Fq:Spec Kd:={ params:=[ac8],ret:=(.one ac8),pins:=[],pl:={ nt:=33,cuts:=[(6,[(7,⟨[.tmp 0 ac8,.tmp 3 ac6,.tmp 21 ac7],[],[]⟩),(7,⟨[.tmp 0 ac8,.tmp 3 ac6,.tmp 28 ac7],[],[]⟩)])] },rfrz:=[],ts:=[2] }
def nW (F:Nat) (x:B8):Option B8:=if decide ((↑x.length:Int)<2)=true then some [] else (idx x 1).bind fun v0=>(aL F ([37,98,107,109,112],(↑v0.toNat:Int))).bind fun v1=>if decide (0<=v1)=true then (sub x 0 2).bind fun v2=>some v2 else (aL F (x,125)).bind fun v3=>((idx x 1).bind fun v4=>if (!decide ((↑v4.toNat:Int)=123))=false then some (x,v3,decide (v3<0),()) else some (x,v3,true,())).bind fun v5=>(if v5.2.2.1=false then (sub v5.1 2 v5.2.1).bind fun v6=>(iV F v6).bind fun v7=>some (v5.1,v5.2.1,!v7,()) else some (v5.1,v5.2.1,true,())).bind fun v8=>if v8.2.2.1=true then some [] else (sub v8.1 0 (IntKind.i64.wrap (v8.2.1+1))).bind fun v9=>some v9
theorem Fl (F:Nat):Ctr TT Tryz.prog 193 (ai TT Fq (nW F)) :=
 ar F (code:=aj 193) Tryz.func193 (af (af ah (fT F)) (vI F)) fun x=>by kernel_rfl
def GA:Spec Kd:={ params:=[ac8],ret:=(.tup [(.a (.row 172 .pc)),ac7]),pins:=[],pl:={ nt:=52,orc:={ rv:=[2,4,42,45,51],gv:=[] },joins:=[(1400033,(.norm,⟨[.tmp 0 ac8,.tmp 4 (.a (.rowp 256)),.tmp 6 ac6,.tmp 8 (.a (.ptr 512 0)),.tmp 13 (.a (.ptr 832 0)),.box 832 .siter,.box 256 (.row 172 .pc),.box 512 (.cells 172 [.bool,.str])],[],[.tmpRow 4 256 172 .pc]⟩),[(.ret,⟨[.tmp 2 (.a (.rowp 128)),.tmp 3 ac7,.box 128 (.row 172 .pc)],[],[.tmpRow 2 128 172 .pc]⟩)])],loops:=[(0,⟨[.tmp 0 ac8,.tmp 4 (.a (.rowp 256)),.tmp 5 ac6,.tmp 13 (.a (.ptr 832 0)),.box 832 .siter,.box 256 (.row 172 .pc)],[],[.tmpRow 4 256 172 .pc]⟩,(.exit 0,⟨[.tmp 4 (.a (.rowp 256)),.box 256 (.row 172 .pc)],[],[.tmpRow 4 256 172 .pc]⟩),[(.ret,⟨[.tmp 2 (.a (.rowp 128)),.tmp 3 ac7,.box 128 (.row 172 .pc)],[],[.tmpRow 2 128 172 .pc]⟩)])],cuts:=[(11,[(10,⟨[.tmp 0 ac8,.tmp 4 (.a (.rowp 256)),.tmp 6 ac6,.tmp 7 (.a (.int .i32)),.tmp 8 (.a (.ptr 512 0)),.tmp 13 (.a (.ptr 832 0)),.box 832 .siter,.box 256 (.row 172 .pc),.box 512 (.cells 172 [.bool,.str])],[],[.tmpRow 4 256 172 .pc]⟩)])] },rfrz:=[],ts:=[2,3] }
def bZ (F:Nat) (v0:(B8×Unit×Int×Unit×(B8×Nat)×List ac4×Unit)):Option ((B8×Unit×Int×Unit×(B8×Nat)×List ac4×Unit) ⊕ (Unit×List ac4×Unit ⊕ Unit×Bool×List ac4×Unit)):=if decide (v0.2.2.2.2.1.2<v0.2.2.2.2.1.1.length)=true then if decide ((↑v0.2.2.2.2.1.2:Int)<v0.2.2.1)=true then some (Sum.inl (v0.1,(),v0.2.2.1,(),(v0.2.2.2.2.1.1,v0.2.2.2.2.1.2+runeLen v0.2.2.2.2.1.1 v0.2.2.2.2.1.2),v0.2.2.2.2.2.1,())) else (iA F (cT v0.2.2.2.2.1.1 v0.2.2.2.2.1.2)).bind fun v1=>if decide (v1=0)=true then some (Sum.inr (Sum.inr ((),false,[],()))) else ((bL F (cT v0.2.2.2.2.1.1 v0.2.2.2.2.1.2)).bind fun v2=>(sub v0.1 (↑v0.2.2.2.2.1.2:Int) (IntKind.i64.wrap ((↑v0.2.2.2.2.1.2:Int)+v2))).bind fun v3=>some (v0.1,(),(↑v0.2.2.2.2.1.2:Int),cT v0.2.2.2.2.1.1 v0.2.2.2.2.1.2,(),(),(v0.2.2.2.2.1.1,v0.2.2.2.2.1.2+runeLen v0.2.2.2.2.1.1 v0.2.2.2.2.1.2),v0.2.2.2.2.2.1,(false,v3,()),())).bind fun v4=>(if decide (v4.2.2.2.1=37)=true then (sub v4.1 v4.2.2.1 (↑v4.1.length:Int)).bind fun v5=>(nW F v5).bind fun v6=>if decide (v6=[])=true then some (Sum.inr ((),false,[],())) else some (Sum.inl (v4.1,(),v4.2.2.1,(),(),v4.2.2.2.2.2.2.1,v4.2.2.2.2.2.2.2.1,(true,v6,()),())) else some (Sum.inl (v4.1,(),v4.2.2.1,v4.2.2.2.2))).bind fun v7=>dq v7 (fun v8=>if decide ((v8.2.2.2.2.2.2.1.length + [(v8.2.2.2.2.2.2.2.1.1,v8.2.2.2.2.2.2.2.1.2.1,Unit.unit)].length)*24<=140737488355328)=true then some (Sum.inl (v8.1,(),IntKind.i64.wrap (v8.2.2.1+(↑v8.2.2.2.2.2.2.2.1.2.1.length:Int)),(),v8.2.2.2.2.2.1,v8.2.2.2.2.2.2.1++[(v8.2.2.2.2.2.2.2.1.1,v8.2.2.2.2.2.2.2.1.2.1,Unit.unit)],())) else none) fun v9=>some (Sum.inr (Sum.inr ((),v9.2.1,v9.2.2.1,()))) else some (Sum.inr (Sum.inl ((),v0.2.2.2.2.2.1,())))
def lf (F:Nat) (x:B8):Option ((List (El .pc))×Bool):=if decide (60<(↑x.length:Int))=true then some ([],false) else (bf (bZ F) F (x,(),0,(),(x,0),[],())).bind fun v10=>dq v10 (fun v11=>some (v11.2.1,true)) fun v12=>some (v12.2.2.1,v12.2.1)
theorem xk (F:Nat):Ctr TT Tryz.prog 127 (ai TT GA (lf F)) :=
 ar F (code:=aj 127) Tryz.func127 (af (af (af ah (mW F)) (iB F)) (Fl F)) fun x=>by kernel_rfl
def Cj:Spec Kd:={ params:=[ac8],ret:=(.one ac7),pins:=[],pl:={ nt:=11 },rfrz:=[],ts:=[2] }
def lk (F:Nat) (x:B8):Option (Bool):=(lf F x).bind fun v0=>some v0.2
theorem CH (F:Nat):Ctr TT Tryz.prog 201 (ai TT Cj (lk F)) :=
 ar F (code:=aj 201) Tryz.func201 (af ah (xk F)) fun x=>by kernel_rfl
def zR:Spec Kd:={ params:=[ac8,ac8],ret:=(.one ac8),pins:=[],pl:={ nt:=25 },rfrz:=[],ts:=[4] }
def ku (F:Nat) (x:B8×B8):Option B8:=(lB F x).bind fun (v0:B8×Bool)=>if (!v0.2)=true then some [] else (pJ F v0.1).bind fun (v1:B8×Bool)=>if v1.2=true then some v1.1 else some v0.1
theorem zN (F:Nat):Ctr TT Tryz.prog 195 (ai TT zR (ku F)) :=
 ar F (code:=aj 195) Tryz.func195 (af (af ah (xz F)) (H9 F)) fun x=>by kernel_rfl
def AF:Spec Kd:={ params:=[(.agg [.bool,.str]),(.agg acC)],ret:=(.one ac8),pins:=[],pl:={ nt:=41,ends:=[(14,⟨[.tmp 4 ac8],[],[]⟩)] },rfrz:=[],ts:=[4] }
def lL (F:Nat) (x: ac4×acE):Option B8:=if (!x.1.1)=true then some x.1.2.1 else (idx x.1.2.1 1).bind fun (v0:UInt8)=>if decide ((↑v0.toNat:Int)=98)=true then some x.2.2.2.2.2.2.2.2.2.2.2.2.2.2.1 else if decide ((↑v0.toNat:Int)=107)=true then some x.2.2.1 else if decide ((↑v0.toNat:Int)=109)=true then some x.2.2.2.2.2.2.2.2.2.2.2.2.1 else if decide ((↑v0.toNat:Int)=112)=true then some x.2.2.2.2.2.2.2.2.2.2.2.2.2.1 else if decide ((↑v0.toNat:Int)=37)=true then some [37] else ((sub x.1.2.1 2 (IntKind.i64.wrap ((↑x.1.2.1.length:Int)-1))).bind fun (v1:B8)=>(ku F (x.2.2.2.2.2.2.2.2.2.2.2.2.2.2.1,v1)).bind fun (v2:B8)=>some (v2,())).bind fun (v3:B8×Unit)=>some v3.1
theorem CB (F:Nat):Ctr TT Tryz.prog 129 (ai TT AF (lL F)) :=
 ar F (code:=aj 129) Tryz.func129 (af ah (zN F)) fun x=>by kernel_rfl
def C6:Spec Kd:={ params:=[ac8,(.agg acC)],ret:=(.one ac8),pins:=[],pl:={ nt:=52,orc:={ rv:=[10,46,49],gv:=[] },joins:=[(1700039,(.norm,⟨[.tmp 10 (.a (.rowp 640)),.tmp 11 ac6,.tmp 13 (.a (.int .i32)),.tmp 33 (.a (.ptr 2112 0)),.box 2112 .siter,.box 640 (.row 21 .i32)],[1025],[.tmpRow 10 640 21 .i32]⟩),[])],loops:=[(2,⟨[.tmp 10 (.a (.rowp 640)),.tmp 11 ac6,.tmp 33 (.a (.ptr 2112 0)),.box 2112 .siter,.box 640 (.row 21 .i32)],[1025],[.tmpRow 10 640 21 .i32]⟩,(.exit 2,⟨[.tmp 10 (.a (.rowp 640)),.box 640 (.row 21 .i32)],[1025],[.tmpRow 10 640 21 .i32]⟩),[]),(0,⟨[.tmp 3 (.a (.ptr 192 0)),.tmp 7 (.a (.ptr 448 0)),.tmp 21 (.a (.slc .pc)),.tmp 22 ac6,.tmp 23 ac6,.box 192 (.cells 35 acC),.box 448 (.cells 170 [(.argp 448),(.rowp 1028673)]),.box 1028673 (.row 5 .u8)],[1025],[.cellSelf 448 0,.cellRow 448 1 1028673 5 .u8]⟩,(.exit 0,⟨[.tmp 7 (.a (.ptr 448 0)),.box 448 (.cells 170 [(.argp 448),(.rowp 1028673)]),.box 1028673 (.row 5 .u8)],[1025],[.cellSelf 448 0,.cellRow 448 1 1028673 5 .u8]⟩),[])] },rfrz:=[],ts:=[4] }
def jE (F:Nat) (v1:(Unit×
      Unit×
       List ac4×
        Int×
         Int×
           acE×
            acX×B8×Unit)):Option ((Unit×
      Unit×
       List ac4×
        Int×
         Int×
           acE×
            acX×B8×Unit) ⊕ (Unit×acX×B8×Unit)) :=
 if decide (v1.2.2.2.2.1<v1.2.2.2.1)=true then
       (idx v1.2.2.1 v1.2.2.2.2.1).bind fun (v2:Bool×B8×Unit) =>
        (lL F ((v2.1,v2.2.1,()),v1.2.2.2.2.2.1)).bind fun (v3:B8) =>
         (fI F (((),v1.2.2.2.2.2.2.2.1,()),v3)).bind fun (v4:(Int×Unit)×Unit×B8×Unit) =>
          some (Sum.inl ((),(),v1.2.2.1,v1.2.2.2.1,IntKind.i64.wrap (v1.2.2.2.2.1+1),v1.2.2.2.2.2.1,((),(),()),v4.2.2.1,()))
      else some (Sum.inr ((),((),(),()),v1.2.2.2.2.2.2.2.1,()))
def gm (F:Nat) (v7:(Unit×Int×Unit×(B8×Nat)×List Int×Unit)):Option ((Unit×Int×Unit×(B8×Nat)×List Int×Unit) ⊕ (Unit×List Int×Unit)):=if decide (v7.2.2.2.1.2<v7.2.2.2.1.1.length)=true then (iA F (cT v7.2.2.2.1.1 v7.2.2.2.1.2)).bind fun (v8:Int)=>(if decide (v8=0)=true then some ((),v7.2.1,63,(),(v7.2.2.2.1.1,v7.2.2.2.1.2+runeLen v7.2.2.2.1.1 v7.2.2.2.1.2),v7.2.2.2.2.1,()) else some ((),v7.2.1,cT v7.2.2.2.1.1 v7.2.2.2.1.2,(),(v7.2.2.2.1.1,v7.2.2.2.1.2+runeLen v7.2.2.2.1.1 v7.2.2.2.1.2),v7.2.2.2.2.1,())).bind fun (v9:Unit×Int×Int×Unit×(B8×Nat)×List Int×Unit)=>(bL F v9.2.2.1).bind fun (v10:Int)=>if decide (40<IntKind.i64.wrap (v9.2.1+v10))=true then some (Sum.inr ((),v9.2.2.2.2.2.1,())) else if decide ((v9.2.2.2.2.2.1.length + [v9.2.2.1].length)*4<=140737488355328)=true then some (Sum.inl ((),IntKind.i64.wrap (v9.2.1+v10),(),v9.2.2.2.2.1,v9.2.2.2.2.2.1++[v9.2.2.1],())) else none else some (Sum.inr ((),v7.2.2.2.2.1,()))
def j7 (F:Nat) (x:B8×acE):Option B8:=(lf F x.1).bind fun (v0:List ac4×Bool)=>if (!v0.2)=true then some [] else (bf (jE F) F ((),(),v0.1,(↑v0.1.length:Int),0,x.2,((),(),()),[],())).bind fun (v5:Unit×acX×B8×Unit)=>(bO F ((),v5.2.2.1,())).bind fun (v6:B8×Unit×Unit×Unit)=>(bf (gm F) F ((),0,(),(v6.1,0),[],())).bind fun (v11:Unit×List Int×Unit)=>some (l7 v11.2.1)
theorem Dh (F:Nat):Ctr TT Tryz.prog 70 (ai TT C6 (j7 F)) :=
 ar F (code:=aj 70) Tryz.func70 (af (af (af (af (af (af ah (xk F)) (CB F)) (mY F)) (dU F)) (mW F)) (iB F)) fun x=>by kernel_rfl
end Go.Vm
