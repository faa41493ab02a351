import Derived.Test.YtihpjgcbmipdbaaGreatDoorKt
set_option linter.unusedVariables false
noncomputable section
namespace Go.Vm
open Go.Proofs
def pY:Spec Kd:={ params:=[(.a (.int .i32))],ret:=(.one ac7),pins:=[],pl:={ nt:=17,cuts:=[(3,[(6,⟨[.tmp 16 ac7],[],[]⟩)]),(1,[(6,⟨[.tmp 0 (.a (.int .i32)),.tmp 9 ac7],[],[]⟩)])] },rfrz:=[],ts:=[2] }
def fC (F:Nat) (x:(Int)):Option (Bool):=(if decide (0<=x)=true then some (x,decide (x<55296),()) else some (x,false,())).bind fun v0=>if v0.2.1=true then some true else (if decide (57343<v0.1)=true then some (decide (v0.1<=1114111),()) else some (false,())).bind fun v1=>if v1.1=true then some true else some false
theorem pO (F:Nat):Ctr TT Tryz.prog 235 (ai TT pY (fC F)) :=
 ar F (code:=aj 235) Tryz.func235 ah fun x=>by kernel_rfl
def F7:Spec Kd:={ params:=[(.a (.int .i32)),(.a (.int .i32)),(.a (.int .i32)),(.a (.int .i32))],ret:=(.one ac7),pins:=[],pl:={ nt:=22,cuts:=[(1,[(8,⟨[.tmp 0 (.a (.int .i32)),.tmp 3 (.a (.int .i32)),.tmp 16 ac7],[],[]⟩),(5,⟨[.tmp 21 ac7],[],[]⟩)])] },rfrz:=[],ts:=[8] }
def fx (F:Nat) (x:Int×Int×Int×Int):Option (Bool):=(if decide (x.2.1<=x.1)=true then some (x.1,x.2.2.2,decide (x.1<=x.2.2.1),()) else some (x.1,x.2.2.2,false,())).bind fun v0=>(if v0.2.2.1=true then some (!decide (v0.1=v0.2.1),()) else some (false,())).bind fun v1=>some v1.1
theorem oh (F:Nat):Ctr TT Tryz.prog 190 (ai TT F7 (fx F)) :=
 ar F (code:=aj 190) Tryz.func190 ah fun x=>by kernel_rfl
def Bu:Spec Kd:={ params:=[(.a (.int .i32))],ret:=(.one ac7),pins:=[],pl:={ nt:=18,cuts:=[(1,[(6,⟨[.tmp 0 (.a (.int .i32)),.tmp 8 ac7],[],[]⟩),(4,⟨[.tmp 0 (.a (.int .i32)),.tmp 12 ac7],[],[]⟩),(5,⟨[.tmp 17 ac7],[],[]⟩)])] },rfrz:=[],ts:=[2] }
def lJ (F:Nat) (x:(Int)):Option (Bool):=(if decide (x<32)=false then (fx F (x,127,159,0)).bind fun v0=>some (x,v0,()) else some (x,true,())).bind fun v1=>(if v1.2.1=false then some (v1.1,decide (v1.1=65533),()) else some (v1.1,true,())).bind fun v2=>(if v2.2.1=false then (fC F v2.1).bind fun v3=>some (!v3,()) else some (true,())).bind fun v4=>some v4.1
theorem AD (F:Nat):Ctr TT Tryz.prog 188 (ai TT Bu (lJ F)) :=
 ar F (code:=aj 188) Tryz.func188 (af (af ah (oh F)) (pO F)) fun x=>by kernel_rfl
def Fk:Spec Kd:={ params:=[(.a (.int .i32))],ret:=(.one ac7),pins:=[],pl:={ nt:=17,cuts:=[(1,[(6,⟨[.tmp 0 (.a (.int .i32)),.tmp 8 ac7],[],[]⟩),(4,⟨[.tmp 0 (.a (.int .i32)),.tmp 12 ac7],[],[]⟩),(4,⟨[.tmp 16 ac7],[],[]⟩)])] },rfrz:=[],ts:=[2] }
def oc (F:Nat) (x:(Int)):Option (Bool):=(if decide (x=32)=false then some (x,decide (x=160),()) else some (x,true,())).bind fun v0=>(if v0.2.1=false then (fx F (v0.1,8192,8202,0)).bind fun v1=>some (v0.1,v1,()) else some (v0.1,true,())).bind fun v2=>(if v2.2.1=false then some (decide (v2.1=12288),()) else some (true,())).bind fun v3=>some v3.1
theorem FG (F:Nat):Ctr TT Tryz.prog 189 (ai TT Fk (oc F)) :=
 ar F (code:=aj 189) Tryz.func189 (af ah (oh F)) fun x=>by kernel_rfl
def CP:Spec Kd:={ params:=[(.a (.int .i32))],ret:=(.one ac7),pins:=[],pl:={ nt:=21,cuts:=[(1,[(6,⟨[.tmp 0 (.a (.int .i32)),.tmp 8 ac7],[],[]⟩),(8,⟨[.tmp 0 (.a (.int .i32)),.tmp 16 ac7],[],[]⟩),(4,⟨[.tmp 20 ac7],[],[]⟩)])] },rfrz:=[],ts:=[2] }
def mi (F:Nat) (x:(Int)):Option (Bool):=((fx F (x,65,90,0)).bind fun v0=>if v0=false then (fx F (x,97,122,0)).bind fun v1=>some (x,v1,()) else some (x,true,())).bind fun v2=>(if v2.2.1=false then (fx F (v2.1,192,591,215)).bind fun v3=>if v3=true then some (v2.1,!decide (v2.1=247),()) else some (v2.1,false,()) else some (v2.1,true,())).bind fun v4=>(if v4.2.1=false then (fx F (v4.1,913,969,930)).bind fun v5=>some (v5,()) else some (true,())).bind fun v6=>some v6.1
theorem CU (F:Nat):Ctr TT Tryz.prog 191 (ai TT CP (mi F)) :=
 ar F (code:=aj 191) Tryz.func191 (af ah (oh F)) fun x=>by kernel_rfl
def Is:Spec Kd:={ params:=[(.a (.int .i32))],ret:=(.one ac6),pins:=[],pl:={ nt:=15 },rfrz:=[],ts:=[2] }
def iA (F:Nat) (x:(Int)):Option (Int):=(lJ F x).bind fun v0=>if v0=true then some 0 else (oc F x).bind fun v1=>if v1=true then some 1 else (fx F (x,48,57,0)).bind fun v2=>if v2=true then some 2 else (mi F x).bind fun v3=>if v3=true then some 3 else some 4
theorem mW (F:Nat):Ctr TT Tryz.prog 124 (ai TT Is (iA F)) :=
 ar F (code:=aj 124) Tryz.func124 (af (af (af (af ah (AD F)) (FG F)) (oh F)) (CU F)) fun x=>by kernel_rfl
def sV:Spec Kd:={ params:=[ac6],ret:=(.one ac6),pins:=[],pl:={ nt:=95,cuts:=[(7,[(6,⟨[.tmp 0 ac6,.tmp 58 ac7],[],[]⟩),(8,⟨[.tmp 0 ac6,.tmp 66 ac7],[],[]⟩),(16,⟨[.tmp 0 ac6,.tmp 82 ac7],[],[]⟩),(12,⟨[.tmp 94 ac7],[],[]⟩)]),(5,[(6,⟨[.tmp 0 ac6,.tmp 52 ac7],[],[]⟩)]),(3,[(6,⟨[.tmp 0 ac6,.tmp 34 ac7],[],[]⟩),(8,⟨[.tmp 0 ac6,.tmp 42 ac7],[],[]⟩),(4,⟨[.tmp 0 ac6,.tmp 46 ac7],[],[]⟩)]),(1,[(10,⟨[.tmp 0 ac6,.tmp 12 ac7],[],[]⟩),(4,⟨[.tmp 0 ac6,.tmp 16 ac7],[],[]⟩),(4,⟨[.tmp 0 ac6,.tmp 20 ac7],[],[]⟩),(8,⟨[.tmp 0 ac6,.tmp 28 ac7],[],[]⟩)])] },rfrz:=[],ts:=[2] }
def bX (F:Nat) (x:(Int)):Option (Int):=(if decide (x<32)=false then if decide (127<=x)=true then some (x,decide (x<=159),()) else some (x,false,()) else some (x,true,())).bind fun v0=>(if v0.2.1=false then some (v0.1,decide (v0.1=65533),()) else some (v0.1,true,())).bind fun v1=>(if v1.2.1=false then some (v1.1,decide (1114111<v1.1),()) else some (v1.1,true,())).bind fun v2=>(if v2.2.1=false then if decide (55296<=v2.1)=true then some (v2.1,decide (v2.1<=57343),()) else some (v2.1,false,()) else some (v2.1,true,())).bind fun v3=>if v3.2.1=true then some 0 else (if decide (v3.1=32)=false then some (v3.1,decide (v3.1=160),()) else some (v3.1,true,())).bind fun v4=>(if v4.2.1=false then if decide (8192<=v4.1)=true then some (v4.1,decide (v4.1<=8202),()) else some (v4.1,false,()) else some (v4.1,true,())).bind fun v5=>(if v5.2.1=false then some (v5.1,decide (v5.1=12288),()) else some (v5.1,true,())).bind fun v6=>if v6.2.1=true then some 1 else (if decide (48<=v6.1)=true then some (v6.1,decide (v6.1<=57),()) else some (v6.1,false,())).bind fun v7=>if v7.2.1=true then some 2 else (if decide (65<=v7.1)=true then some (v7.1,decide (v7.1<=90),()) else some (v7.1,false,())).bind fun v8=>(if v8.2.1=false then if decide (97<=v8.1)=true then some (v8.1,decide (v8.1<=122),()) else some (v8.1,false,()) else some (v8.1,true,())).bind fun v9=>(if v9.2.1=false then if decide (192<=v9.1)=true then if decide (v9.1<=591)=true then if (!decide (v9.1=215))=true then some (v9.1,!decide (v9.1=247),()) else some (v9.1,false,()) else some (v9.1,false,()) else some (v9.1,false,()) else some (v9.1,true,())).bind fun v10=>(if v10.2.1=false then if decide (913<=v10.1)=true then if decide (v10.1<=969)=true then some (!decide (v10.1=930),()) else some (false,()) else some (false,()) else some (true,())).bind fun v11=>if v11.1=true then some 3 else some 4
theorem fm (F:Nat):Ctr TT Tryz.prog 133 (ai TT sV (bX F)) :=
 ar F (code:=aj 133) Tryz.func133 ah fun x=>by kernel_rfl
def Gc:Spec Kd:={ params:=[ac8,ac6],ret:=(.one ac7),pins:=[],pl:={ nt:=23,loops:=[(0,⟨[.tmp 16 (.a (.ptr 1024 0)),.box 1024 .siter],[],[]⟩,(.exit 0,⟨[],[],[]⟩),[(.ret,⟨[.tmp 4 ac7],[],[]⟩)])],cuts:=[(1,[(8,⟨[.tmp 0 ac8,.tmp 14 ac7],[],[]⟩)])] },rfrz:=[],ts:=[4] }
def fL (F:Nat) (v1:(Unit×(B8×Nat)×Unit)):Option ((Unit×(B8×Nat)×Unit) ⊕ ac0):=if decide (v1.2.1.2<v1.2.1.1.length)=true then (iA F (cT v1.2.1.1 v1.2.1.2)).bind fun v2=>if decide (v2=0)=true then some (Sum.inr (Sum.inr (false,()))) else some (Sum.inl ((),(v1.2.1.1,v1.2.1.2+runeLen v1.2.1.1 v1.2.1.2),())) else some (Sum.inr (Sum.inl ()))
def oj (F:Nat) (x:B8×Int):Option (Bool):=(if decide (x.1=[])=false then some (x.1,decide (x.2<(↑x.1.length:Int)),()) else some (x.1,true,())).bind fun v0=>if v0.2.1=true then some false else (bf (fL F) F ((),(v0.1,0),())).bind fun v3=>dq v3 (fun v4=>some true) fun v5=>some v5.1
theorem E8 (F:Nat):Ctr TT Tryz.prog 262 (ai TT Gc (oj F)) :=
 ar F (code:=aj 262) Tryz.func262 (af ah (mW F)) fun x=>by kernel_rfl
end Go.Vm
namespace Go.Vm
open Go.Proofs
namespace Bld
open Go.Proofs Go.Shelf Go.RowKit
theorem XM:∃ j,Tryz.prog.info? 170=some j/\j.size=2:=by
 have h:(Tryz.prog.info? 170).map (·.size)=some 2:=by kernel_rfl
 exact Option.map_eq_some_iff.1 h
theorem Xx:liesAt Tryz.prog Tryz.prog.depth 170 (2 / Tryz.prog.cellsOf 170) 0 170 1=true:=by kernel_rfl
set_option maxHeartbeats 1000000 in
set_option maxRecDepth 100000 in
theorem Ms (b:Nat) (w:World) (h0:w.cell? ⟨b,0,none⟩=some (.pointer (some ⟨b,0,none⟩))) :
  Calls Tryz.prog 194 #[.pointer (some ⟨b,0,none⟩)] w fun e w'=>e = .returned (.tuple #[])/\w'=w:=by
 obtain ⟨j,hj,_⟩:=XM
 go_enter Tryz.func194,Tryz.ntmps194
 go_wp2
 rw[Lib.run_neq_ptr_same w _ Tryz.underlying168 hj]
 go_wp2
 go_end0
 exact ⟨rfl,rfl⟩
set_option maxHeartbeats 1000000 in
set_option maxRecDepth 100000 in
theorem JY (b:Nat) (w:World) (h0:w.cell? ⟨b,0,none⟩=some (.pointer none)) (Jd:w.shape? b=some (170,2)) (zG:w.frozen? ⟨b,0,none⟩=false) :
  Calls Tryz.prog 194 #[.pointer (some ⟨b,0,none⟩)] w fun e w'=>e = .returned (.tuple #[])/\w'=w.setCell ⟨b,0,none⟩ (.pointer (some ⟨b,0,none⟩)):=by
 obtain ⟨j,hj,hjs⟩:=XM
 go_enter Tryz.func194,Tryz.ntmps194
 go_wp2
 rw[Lib.run_to_unsafe w ⟨b,0,none⟩ Tryz.underlying168 Tryz.underlying236 hj (by rw[hjs]; decide) Jd (Nat.zero_lt_succ 1)];simp only[Result.andThen];rw[Oper.upon_value]
 go_wp2
 rw[run_callFunc_extern Tryz.func238 (by kernel_rfl) (by kernel_rfl) (by kernel_rfl) (e:=Extern.AbiNoEscape.same) (by kernel_rfl)];rw[Lib.run_noEscape];simp only[Result.andThen];rw[Oper.upon_value]
 go_wp2
 rw[Lib.run_from_unsafe w ⟨b,0,none⟩ Tryz.underlying236 Tryz.underlying168 hj Jd Xx];simp only[Result.andThen];rw[Oper.upon_value]
 go_wp2
 go_end0
 exact ⟨rfl,rfl⟩
def ren:Ren:=⟨fun | 169=>130 | n=>n,fun | 70=>168 | 9=>9 | 0=>0 | 72=>170 | 37=>106 | 127=>220 | 3=>3 | 5=>5 | n=>n,fun | n=>n⟩
theorem lays:Lays.n169 Tryz.prog ren:={ mixed:=(by kernel_rfl),f169:=adp Tryz.func130,t0:=Tryz.underlying0,a0:=Tryz.isAgg0,z0:=Tryz.sizeOf0,v0:=Tryz.zeroValue0,t3:=Tryz.underlying3,a3:=Tryz.isAgg3,z3:=Tryz.sizeOf3,v3:=Tryz.zeroValue3,t9:=Tryz.underlying9,a9:=Tryz.isAgg9,z9:=Tryz.sizeOf9,v9:=Tryz.zeroValue9,t37:=Tryz.underlying106,a37:=Tryz.isAgg106,z37:=Tryz.sizeOf106,v37:=Tryz.zeroValue106,t70:=Tryz.underlying168,a70:=Tryz.isAgg168,z70:=Tryz.sizeOf168,v70:=Tryz.zeroValue168,t72:=Tryz.underlying170,a72:=Tryz.isAgg170,z72:=Tryz.sizeOf170,v72:=Tryz.zeroValue170,t127:=Tryz.underlying220,a127:=Tryz.isAgg220,z127:=Tryz.sizeOf220,v127:=Tryz.zeroValue220 }
theorem extra:Builder.Extra Tryz.prog ren:={ sizeBuilder:=(by kernel_rfl),liesBuilder:=(by kernel_rfl),t5:=Tryz.underlying5,a5:=Tryz.isAgg5,z5:=Tryz.sizeOf5,v5:=Tryz.zeroValue5,infoByte:=(by kernel_rfl),cellsByte:=(by kernel_rfl),sizeByte:=(by kernel_rfl),neB5:=(by decide) }
end Bld
def nX:Spec Kd:=Qz 170 5
def bC (F:Nat) (x:Unit×B8×Unit):Option (Unit×(Unit×B8×Unit)):=some ((),x)
theorem ga (F:Nat):Ctr TT Tryz.prog 194 (ai TT nX (bC F)):=OT Tryz.func194 (by kernel_rfl) (by kernel_rfl) 5 Bld.JY Bld.Ms
def pV:Spec Kd:=QY 170 5
def bO (F:Nat) (x:Unit×B8×Unit):Option (B8×acX):=some (x.2.1,((),(),()))
theorem dU (F:Nat):Ctr TT Tryz.prog 130 (ai TT pV (bO F)):=Q4 (ρ:=Bld.ren) Bld.lays Bld.extra Tryz.func130 (by kernel_rfl) (by kernel_rfl) rfl
namespace Ixb
open Go.Proofs Go.Shelf Go.RowKit
def fS:Ren:=⟨fun | 217=>250 | 266=>282 | n=>n,fun | 3=>3 | 5=>5 | 9=>9 | n=>n,fun n=>n⟩
theorem iG:Lays.n217 Tryz.prog fS:={ mixed:=(by kernel_rfl),f217:=adp Tryz.func250,f266:=adp Tryz.func282,t3:=Tryz.underlying3,a3:=Tryz.isAgg3,z3:=Tryz.sizeOf3,v3:=Tryz.zeroValue3,t5:=Tryz.underlying5,a5:=Tryz.isAgg5,z5:=Tryz.sizeOf5,v5:=Tryz.zeroValue5,t9:=Tryz.underlying9,a9:=Tryz.isAgg9,z9:=Tryz.sizeOf9,v9:=Tryz.zeroValue9 }
end Ixb
def lb:Spec Kd:=Uy
def gQ (F:Nat) (x:B8×Int):Option Int:=Ud x
theorem lD (F:Nat):Ctr TT Tryz.prog 250 (ai TT lb (gQ F)):=Qy (ρ:=Ixb.fS) Ixb.iG Tryz.func250 (by kernel_rfl) (by kernel_rfl) rfl
def vc:Spec Kd:={ params:=[ac8,(.a (.int .u8))],ret:=(.one ac6),pins:=[],pl:={ nt:=8 },rfrz:=[],ts:=[4] }
def aL (F:Nat) (x:B8×Int):Option (Int):=(gQ F x).bind fun v0=>some v0
theorem fT (F:Nat):Ctr TT Tryz.prog 200 (ai TT vc (aL F)) :=
 ar F (code:=aj 200) Tryz.func200 (af ah (lD F)) fun x=>by kernel_rfl
def rn:Spec Kd:={ params:=[(.a (.int .i32))],ret:=(.one ac6),pins:=[],pl:={ nt:=25,cuts:=[(7,[(6,⟨[.tmp 0 (.a (.int .i32)),.tmp 18 ac7],[],[]⟩)])] },rfrz:=[],ts:=[2] }
def bL (F:Nat) (x:(Int)):Option (Int):=if decide (x<0)=true then some (-1) else if decide (x<=127)=true then some 1 else if decide (x<=2047)=true then some 2 else (if decide (55296<=x)=true then some (x,decide (x<=57343),()) else some (x,false,())).bind fun v0=>if v0.2.1=true then some (-1) else if decide (v0.1<=65535)=true then some 3 else if decide (v0.1<=1114111)=true then some 4 else some (-1)
theorem iB (F:Nat):Ctr TT Tryz.prog 131 (ai TT rn (bL F)) :=
 ar F (code:=aj 131) Tryz.func131 ah fun x=>by kernel_rfl
def kR:Spec Kd:={ params:=[(.a (.row 5 .u8)),(.a (.int .i32))],ret:=(.one (.a (.row 5 .u8))),pins:=[],pl:={ nt:=78,orc:={ rv:=[4,8,10,14,24,34,49,57,77],gv:=[] },joins:=[(700025,(.norm,⟨[.tmp 0 (.a (.rowp 1)),.tmp 1 (.a (.int .i32)),.tmp 5 (.a (.int .u32)),.tmp 25 ac7,.box 1 (.row 5 .u8)],[],[.tmpRow 0 1 5 .u8]⟩),[])],cuts:=[(4,[(12,⟨[.tmp 4 (.a (.rowp 256)),.box 256 (.row 5 .u8)],[],[.tmpRow 4 256 5 .u8]⟩)]),(7,[(17,⟨[.tmp 4 (.a (.rowp 256)),.box 256 (.row 5 .u8)],[],[.tmpRow 4 256 5 .u8]⟩)]),(9,[(22,⟨[.tmp 4 (.a (.rowp 256)),.box 256 (.row 5 .u8)],[],[.tmpRow 4 256 5 .u8]⟩)]),(8,[(6,⟨[.tmp 0 (.a (.rowp 1)),.tmp 1 (.a (.int .i32)),.tmp 56 ac7,.box 1 (.row 5 .u8)],[],[.tmpRow 0 1 5 .u8]⟩)]),(6,[(6,⟨[.tmp 0 (.a (.rowp 1)),.tmp 1 (.a (.int .i32)),.tmp 5 (.a (.int .u32)),.tmp 33 ac7,.box 1 (.row 5 .u8)],[],[.tmpRow 0 1 5 .u8]⟩)])] },rfrz:=[],ts:=[4] }
def eG (F:Nat) (x:(List (El .u8))×Int):Option (List (El .u8)):=if decide (IntKind.u32.wrap x.2<=2047)=true then (if decide ((x.1.length + [UInt8.ofNat (ior IntKind.u8 192 (IntKind.u8.wrap (shr IntKind.i32 x.2 6))).toNat,UInt8.ofNat (ior IntKind.u8 128 (pX IntKind.u8 (IntKind.u8.wrap x.2) 63)).toNat].length)*1<=140737488355328)=true then some ((),x.1++[UInt8.ofNat (ior IntKind.u8 192 (IntKind.u8.wrap (shr IntKind.i32 x.2 6))).toNat,UInt8.ofNat (ior IntKind.u8 128 (pX IntKind.u8 (IntKind.u8.wrap x.2) 63)).toNat],()) else none).bind fun v0=>some v0.2.1 else (if decide (IntKind.u32.wrap x.2<55296)=true then some ((),x.2,IntKind.u32.wrap x.2,decide (IntKind.u32.wrap x.2<55296),x.1,()) else (if decide (57343<IntKind.u32.wrap x.2)=true then some ((),x.2,IntKind.u32.wrap x.2,decide (IntKind.u32.wrap x.2<=65535),x.1,()) else some ((),x.2,IntKind.u32.wrap x.2,false,x.1,())).bind fun v1=>some v1).bind fun v2=>if v2.2.2.2.1=true then (if decide ((v2.2.2.2.2.1.length + [UInt8.ofNat (ior IntKind.u8 224 (IntKind.u8.wrap (shr IntKind.i32 v2.2.1 12))).toNat,UInt8.ofNat (ior IntKind.u8 128 (pX IntKind.u8 (IntKind.u8.wrap (shr IntKind.i32 v2.2.1 6)) 63)).toNat,UInt8.ofNat (ior IntKind.u8 128 (pX IntKind.u8 (IntKind.u8.wrap v2.2.1) 63)).toNat].length)*1<=140737488355328)=true then some ((),v2.2.2.2.2.1++[UInt8.ofNat (ior IntKind.u8 224 (IntKind.u8.wrap (shr IntKind.i32 v2.2.1 12))).toNat,UInt8.ofNat (ior IntKind.u8 128 (pX IntKind.u8 (IntKind.u8.wrap (shr IntKind.i32 v2.2.1 6)) 63)).toNat,UInt8.ofNat (ior IntKind.u8 128 (pX IntKind.u8 (IntKind.u8.wrap v2.2.1) 63)).toNat],()) else none).bind fun v3=>some v3.2.1 else (if decide (65535<v2.2.2.1)=true then some ((),v2.2.1,decide (v2.2.2.1<=1114111),v2.2.2.2.2.1,()) else some ((),v2.2.1,false,v2.2.2.2.2.1,())).bind fun v4=>if v4.2.2.1=true then (if decide ((v4.2.2.2.1.length + [UInt8.ofNat (ior IntKind.u8 240 (IntKind.u8.wrap (shr IntKind.i32 v4.2.1 18))).toNat,UInt8.ofNat (ior IntKind.u8 128 (pX IntKind.u8 (IntKind.u8.wrap (shr IntKind.i32 v4.2.1 12)) 63)).toNat,UInt8.ofNat (ior IntKind.u8 128 (pX IntKind.u8 (IntKind.u8.wrap (shr IntKind.i32 v4.2.1 6)) 63)).toNat,UInt8.ofNat (ior IntKind.u8 128 (pX IntKind.u8 (IntKind.u8.wrap v4.2.1) 63)).toNat].length)*1<=140737488355328)=true then some ((),v4.2.2.2.1++[UInt8.ofNat (ior IntKind.u8 240 (IntKind.u8.wrap (shr IntKind.i32 v4.2.1 18))).toNat,UInt8.ofNat (ior IntKind.u8 128 (pX IntKind.u8 (IntKind.u8.wrap (shr IntKind.i32 v4.2.1 12)) 63)).toNat,UInt8.ofNat (ior IntKind.u8 128 (pX IntKind.u8 (IntKind.u8.wrap (shr IntKind.i32 v4.2.1 6)) 63)).toNat,UInt8.ofNat (ior IntKind.u8 128 (pX IntKind.u8 (IntKind.u8.wrap v4.2.1) 63)).toNat],()) else none).bind fun v5=>some v5.2.1 else if decide ((v4.2.2.2.1.length + [UInt8.ofNat 239,UInt8.ofNat 191,UInt8.ofNat 189].length)*1<=140737488355328)=true then some (v4.2.2.2.1++[UInt8.ofNat 239,UInt8.ofNat 191,UInt8.ofNat 189]) else none
theorem kP (F:Nat):Ctr TT Tryz.prog 260 (ai TT kR (eG F)) :=
 ar F (code:=aj 260) Tryz.func260 ah fun x=>by kernel_rfl
def pj:Spec Kd:={ params:=[(.a (.row 5 .u8)),(.a (.int .i32))],ret:=(.one (.a (.row 5 .u8))),pins:=[],pl:={ nt:=16,orc:={ rv:=[4,8,12,15],gv:=[13] } },rfrz:=[],ts:=[4] }
def dz (F:Nat) (x:(List (El .u8))×Int):Option (List (El .u8)):=if decide (IntKind.u32.wrap x.2<=127)=true then if decide ((x.1.length + [UInt8.ofNat (IntKind.u8.wrap x.2).toNat].length)*1<=140737488355328)=true then some (x.1++[UInt8.ofNat (IntKind.u8.wrap x.2).toNat]) else none else (eG F x).bind fun v0=>some v0
theorem jR (F:Nat):Ctr TT Tryz.prog 218 (ai TT pj (dz F)) :=
 ar F (code:=aj 218) Tryz.func218 (af ah (kP F)) fun x=>by kernel_rfl
def nV:Spec Kd:={ params:=[(.pin 170 [(.argp 0),(.row 5 .u8)]),(.a (.int .i32))],ret:=(.tup [ac6,(.a .nili)]),pins:=[[(.argp 0),(.row 5 .u8)]],pl:={ nt:=30,orc:={ rv:=[],gv:=[18] },cuts:=[(3,[(10,⟨[.tmp 0 (.a (.ptr 1 0)),.tmp 6 ac6,.box 1 (.cells 170 [(.argp 1),(.rowp 1000065)]),.box 1000065 (.row 5 .u8)],[1280],[.cellSelf 1 0,.cellRow 1 1 1000065 5 .u8]⟩)])] },rfrz:=[],ts:=[4,5] }
def bP (F:Nat) (x: ac1×Int):Option ((Int×(Unit))×ac1):=(bC F ((),x.1.2.1,())).bind fun v0=>((dz F (v0.2.2.1,x.2)).bind fun v1=>some ((),(↑v0.2.2.1.length:Int),((),(),()),v1,())).bind fun v2=>some ((IntKind.i64.wrap ((↑v2.2.2.2.1.length:Int)-v2.2.1),()),(),v2.2.2.2.1,())
theorem nM (F:Nat):Ctr TT Tryz.prog 258 (ai TT nV (bP F)) :=
 ar F (code:=aj 258) Tryz.func258 (af (af ah (ga F)) (jR F)) fun x=>by kernel_rfl
def lE:Spec Kd:={ params:=[ac8,ac8],ret:=(.one ac7),pins:=[],pl:={ nt:=18,cuts:=[(1,[(13,⟨[.tmp 17 ac7],[],[]⟩)])] },rfrz:=[],ts:=[4] }
def eI (F:Nat) (x:B8×B8):Option (Bool):=(if decide ((↑x.2.length:Int)<=(↑x.1.length:Int))=true then (sub x.1 0 (↑x.2.length:Int)).bind fun v0=>some (decide (v0=x.2),()) else some (false,())).bind fun v1=>some v1.1
theorem lP (F:Nat):Ctr TT Tryz.prog 184 (ai TT lE (eI F)) :=
 ar F (code:=aj 184) Tryz.func184 ah fun x=>by kernel_rfl
def nJ:Spec Kd:={ params:=[ac8,ac8],ret:=(.one ac7),pins:=[],pl:={ nt:=8 },rfrz:=[],ts:=[4] }
def aX (F:Nat) (x:B8×B8):Option (Bool):=(eI F x).bind fun v0=>some v0
theorem j1 (F:Nat):Ctr TT Tryz.prog 216 (ai TT nJ (aX F)) :=
 ar F (code:=aj 216) Tryz.func216 (af ah (lP F)) fun x=>by kernel_rfl
def mM:Spec Kd:={ params:=[(.pin 170 [(.argp 0),(.row 5 .u8)]),ac8],ret:=(.tup [ac6,(.a .nili)]),pins:=[[(.argp 0),(.row 5 .u8)]],pl:={ nt:=19,cuts:=[(2,[(10,⟨[.tmp 0 (.a (.ptr 1 0)),.tmp 1 ac8,.box 1 (.cells 170 [(.argp 1),(.rowp 1000065)]),.box 1000065 (.row 5 .u8)],[],[.cellSelf 1 0,.cellRow 1 1 1000065 5 .u8]⟩)])] },rfrz:=[],ts:=[4,5] }
def fI (F:Nat) (x: ac1×B8):Option ((Int×(Unit))×ac1):=(bC F ((),x.1.2.1,())).bind fun v0=>(if decide ((v0.2.2.1.length+x.2.length)*1<=140737488355328)=true then some ((),x.2,((),(),()),v0.2.2.1++x.2,()) else none).bind fun v1=>some (((↑v1.2.1.length:Int),()),(),v1.2.2.2.1,())
theorem mY (F:Nat):Ctr TT Tryz.prog 128 (ai TT mM (fI F)) :=
 ar F (code:=aj 128) Tryz.func128 (af ah (ga F)) fun x=>by kernel_rfl
def nY:Spec Kd:={ params:=[(.pin 170 [(.argp 0),(.row 5 .u8)]),(.a (.int .u8))],ret:=(.one (.a .nili)),pins:=[[(.argp 0),(.row 5 .u8)]],pl:={ nt:=17,cuts:=[(2,[(11,⟨[.tmp 0 (.a (.ptr 1 0)),.box 1 (.cells 170 [(.argp 1),(.rowp 1000065)]),.box 1000065 (.row 5 .u8)],[],[.cellSelf 1 0,.cellRow 1 1 1000065 5 .u8]⟩)])] },rfrz:=[],ts:=[4] }
def aI (F:Nat) (x: ac1×Int):Option ((Unit)×ac1):=(bC F ((),x.1.2.1,())).bind fun v0=>(if decide ((v0.2.2.1.length + [UInt8.ofNat x.2.toNat].length)*1<=140737488355328)=true then some ((),((),(),()),v0.2.2.1++[UInt8.ofNat x.2.toNat],()) else none).bind fun v1=>some ((),(),v1.2.2.1,())
theorem gk (F:Nat):Ctr TT Tryz.prog 166 (ai TT nY (aI F)) :=
 ar F (code:=aj 166) Tryz.func166 (af ah (ga F)) fun x=>by kernel_rfl
end Go.Vm
