/- Models of functions of the program, and that each keeps its contract: for all arguments of its shape. No condition. -/
import Derived.Test.YtcnigpigmhpakaaGreatDoorKt
import Derived.Test.YtcnigpigmhpakaaGreatDoorV7
namespace Go.Vm
open Go.Proofs
set_option linter.unusedVariables false
namespace Bld
open Go.Proofs Go.Shelf Go.RowKit
theorem Kv : ∃ j,Tryz.prog.info? 78=some j∧j.size=2:=by
 have h:(Tryz.prog.info? 78).map (·.size)=some 2:=by kernel_rfl
 exact Option.map_eq_some_iff.1 h
theorem KB:liesAt Tryz.prog Tryz.prog.depth 78 (2 / Tryz.prog.cellsOf 78) 0 78 1=true:=by kernel_rfl
set_option maxHeartbeats 1000000 in
set_option maxRecDepth 100000 in
theorem E3 (b:Nat) (w:World) (h0:w.cell? ⟨b,0,none⟩=some (.pointer (some ⟨b,0,none⟩))) :
  Calls Tryz.prog 48 #[.pointer (some ⟨b,0,none⟩)] w fun e w'=>e = .returned (.tuple #[])∧w'=w:=by
 obtain ⟨j,hj,_⟩:=Kv
 go_enter Tryz.func48,Tryz.ntmps48
 go_wp2
 rw [Lib.run_neq_ptr_same w _ Tryz.underlying75 hj]
 go_wp2
 go_end0
 exact ⟨rfl,rfl⟩
set_option maxHeartbeats 1000000 in
set_option maxRecDepth 100000 in
theorem BS (b:Nat) (w:World) (h0:w.cell? ⟨b,0,none⟩=some (.pointer none)) (hsh:w.shape? b=some (78,2)) (hfz:w.frozen? ⟨b,0,none⟩=false) :
  Calls Tryz.prog 48 #[.pointer (some ⟨b,0,none⟩)] w fun e w'=>e = .returned (.tuple #[])∧w'=w.setCell ⟨b,0,none⟩ (.pointer (some ⟨b,0,none⟩)):=by
 obtain ⟨j,hj,hjs⟩:=Kv
 go_enter Tryz.func48,Tryz.ntmps48
 go_wp2
 rw [Lib.run_to_unsafe w ⟨b,0,none⟩ Tryz.underlying75 Tryz.underlying103 hj (by rw [hjs]; decide) hsh (Nat.zero_lt_succ 1)]
 simp only [Result.andThen]
 rw [Oper.upon_value]
 go_wp2
 rw [run_callFunc_extern Tryz.func64 (by kernel_rfl) (by kernel_rfl) (by kernel_rfl) (e:=Extern.AbiNoEscape.same) (by kernel_rfl)]
 rw [Lib.run_noEscape]
 simp only [Result.andThen]
 rw [Oper.upon_value]
 go_wp2
 rw [Lib.run_from_unsafe w ⟨b,0,none⟩ Tryz.underlying103 Tryz.underlying75 hj hsh KB]
 simp only [Result.andThen]
 rw [Oper.upon_value]
 go_wp2
 go_end0
 exact ⟨rfl,rfl⟩
def ren:Ren:=⟨fun | 169=>37 | n=>n,fun | 70=>75 | 9=>9 | 0=>0 | 72=>78 | 37=>76 | 127=>91 | 3=>3 | 5=>5 | n=>n,fun | n=>n⟩
theorem lays:Lays.n169 Tryz.prog ren:={ mixed:=(by kernel_rfl),f169:=Tryz.func37.trans (congrArg some (by kernel_rfl)),t0:=Tryz.underlying0,a0:=Tryz.isAgg0,z0:=Tryz.sizeOf0,v0:=Tryz.zeroValue0,t3:=Tryz.underlying3,a3:=Tryz.isAgg3,z3:=Tryz.sizeOf3,v3:=Tryz.zeroValue3,t9:=Tryz.underlying9,a9:=Tryz.isAgg9,z9:=Tryz.sizeOf9,v9:=Tryz.zeroValue9,t37:=Tryz.underlying76,a37:=Tryz.isAgg76,z37:=Tryz.sizeOf76,v37:=Tryz.zeroValue76,t70:=Tryz.underlying75,a70:=Tryz.isAgg75,z70:=Tryz.sizeOf75,v70:=Tryz.zeroValue75,t72:=Tryz.underlying78,a72:=Tryz.isAgg78,z72:=Tryz.sizeOf78,v72:=Tryz.zeroValue78,t127:=Tryz.underlying91,a127:=Tryz.isAgg91,z127:=Tryz.sizeOf91,v127:=Tryz.zeroValue91 }
theorem extra:Builder.Extra Tryz.prog ren:={ sizeBuilder:=(by kernel_rfl),liesBuilder:=(by kernel_rfl),t5:=Tryz.underlying5,a5:=Tryz.isAgg5,z5:=Tryz.sizeOf5,v5:=Tryz.zeroValue5,infoByte:=(by kernel_rfl),cellsByte:=(by kernel_rfl),sizeByte:=(by kernel_rfl),neB5:=(by decide) }
end Bld
noncomputable def kN:Spec Kd:=G8 78 5
noncomputable def cd (F:Nat) (x:Unit×B8×Unit):Option (Unit×(Unit×B8×Unit)):=some ((),x)
theorem gr (F:Nat):Ctr TT Tryz.prog 48 (ak TT kN (cd F)):=G4 Tryz.func48 (by kernel_rfl) (by kernel_rfl) 5 Bld.BS Bld.E3
noncomputable def mi:Spec Kd:=GB 78 5
noncomputable def dU (F:Nat) (x:Unit×B8×Unit):Option (B8×(Unit×Unit×Unit)):=some (x.2.1,((),(),()))
theorem iq (F:Nat):Ctr TT Tryz.prog 37 (ak TT mi (dU F)):=Hi (ρ:=Bld.ren) Bld.lays Bld.extra Tryz.func37 (by kernel_rfl) (by kernel_rfl) rfl
namespace Ixb
open Go.Proofs Go.Shelf Go.RowKit
def eX:Ren:=⟨fun | 217=>80 | 266=>106 | n=>n,fun | 3=>3 | 5=>5 | 9=>9 | n=>n,fun n=>n⟩
theorem fC:Lays.n217 Tryz.prog eX:={ mixed:=(by kernel_rfl),f217:=Tryz.func80.trans (congrArg some (by kernel_rfl)),f266:=Tryz.func106.trans (congrArg some (by kernel_rfl)),t3:=Tryz.underlying3,a3:=Tryz.isAgg3,z3:=Tryz.sizeOf3,v3:=Tryz.zeroValue3,t5:=Tryz.underlying5,a5:=Tryz.isAgg5,z5:=Tryz.sizeOf5,v5:=Tryz.zeroValue5,t9:=Tryz.underlying9,a9:=Tryz.isAgg9,z9:=Tryz.sizeOf9,v9:=Tryz.zeroValue9 }
end Ixb
noncomputable def jq:Spec Kd:=I0
noncomputable def fm (F:Nat) (x:B8×Int):Option Int:=IY x
theorem iY (F:Nat):Ctr TT Tryz.prog 80 (ak TT jq (fm F)):=Hn (ρ:=Ixb.eX) Ixb.fC Tryz.func80 (by kernel_rfl) (by kernel_rfl) rfl
noncomputable def pR:Spec Kd:={ params := [(.a .str),(.a (.int .u8))],ret:=(.one (.a (.int .i64))),pins := [],pl:={ nt:=8 },rfrz := [],ts := [4] }
noncomputable def ez (F:Nat) (x:B8×(Int)):Option (Int):=(fm F x).bind fun v0=>some v0
theorem pT (F:Nat):Ctr TT Tryz.prog 75 (ak TT pR (ez F)) :=
 aW F (code:=aw 75) Tryz.func75 (ag aq (iY F)) fun x=>by kernel_rfl
noncomputable def nF:Spec Kd:={ params := [(.a (.int .i32))],ret:=(.one (.a (.int .i64))),pins := [],pl:={ nt:=25,cuts := [(7,[(6,⟨[.tmp 0 (.a (.int .i32)), .tmp 18 (.a .bool)],[],[]⟩)])] },rfrz := [],ts := [2] }
noncomputable def dv (F:Nat) (x:(Int)):Option (Int):=if decide (x<0)=true then some (-1) else if decide (x≤127)=true then some 1 else if decide (x≤2047)=true then some 2 else (if decide (55296≤x)=true then some (x,decide (x≤57343),()) else some (x,false,())).bind fun v0=>if v0.2.1=true then some (-1) else if decide (v0.1≤65535)=true then some 3 else if decide (v0.1≤1114111)=true then some 4 else some (-1)
theorem nO (F:Nat):Ctr TT Tryz.prog 97 (ak TT nF (dv F)) :=
 aW F (code:=aw 97) Tryz.func97 aq fun x=>by kernel_rfl
noncomputable def iT:Spec Kd:={ params := [(.a (.row 5 .u8)),(.a (.int .i32))],ret:=(.one (.a (.row 5 .u8))),pins := [],pl:={ nt:=78,orc:={ rv := [4,8,10,14,24,34,49,57,77],gv := [] },joins := [(700025,(.norm,⟨[.tmp 0 (.a (.rowp 1)), .tmp 1 (.a (.int .i32)), .tmp 5 (.a (.int .u32)), .tmp 25 (.a .bool), .box 1 (.row 5 .u8)],[],[.tmpRow 0 1 5 .u8]⟩),[])],cuts := [(4,[(12,⟨[.tmp 4 (.a (.rowp 256)), .box 256 (.row 5 .u8)],[],[.tmpRow 4 256 5 .u8]⟩)]),(7,[(17,⟨[.tmp 4 (.a (.rowp 256)), .box 256 (.row 5 .u8)],[],[.tmpRow 4 256 5 .u8]⟩)]),(9,[(22,⟨[.tmp 4 (.a (.rowp 256)), .box 256 (.row 5 .u8)],[],[.tmpRow 4 256 5 .u8]⟩)]),(8,[(6,⟨[.tmp 0 (.a (.rowp 1)), .tmp 1 (.a (.int .i32)), .tmp 56 (.a .bool), .box 1 (.row 5 .u8)],[],[.tmpRow 0 1 5 .u8]⟩)]),(6,[(6,⟨[.tmp 0 (.a (.rowp 1)), .tmp 1 (.a (.int .i32)), .tmp 5 (.a (.int .u32)), .tmp 33 (.a .bool), .box 1 (.row 5 .u8)],[],[.tmpRow 0 1 5 .u8]⟩)])] },rfrz := [],ts := [4] }
noncomputable def dr (F:Nat) (x:(List (El .u8))×(Int)):Option (List (El .u8)):=if decide (IntKind.u32.wrap x.2≤2047)=true then (if decide ((x.1.length + [UInt8.ofNat (ior IntKind.u8 192 (IntKind.u8.wrap (shr IntKind.i32 x.2 6))).toNat,UInt8.ofNat (ior IntKind.u8 128 (mZ IntKind.u8 (IntKind.u8.wrap x.2) 63)).toNat].length) * 1≤140737488355328)=true then some ((),x.1 ++ [UInt8.ofNat (ior IntKind.u8 192 (IntKind.u8.wrap (shr IntKind.i32 x.2 6))).toNat,UInt8.ofNat (ior IntKind.u8 128 (mZ IntKind.u8 (IntKind.u8.wrap x.2) 63)).toNat],()) else none).bind fun v0=>some v0.2.1 else (if decide (IntKind.u32.wrap x.2<55296)=true then some ((),x.2,IntKind.u32.wrap x.2,decide (IntKind.u32.wrap x.2<55296),x.1,()) else (if decide (57343<IntKind.u32.wrap x.2)=true then some ((),x.2,IntKind.u32.wrap x.2,decide (IntKind.u32.wrap x.2≤65535),x.1,()) else some ((),x.2,IntKind.u32.wrap x.2,false,x.1,())).bind fun v1=>some v1).bind fun v2=>if v2.2.2.2.1=true then (if decide ((v2.2.2.2.2.1.length + [UInt8.ofNat (ior IntKind.u8 224 (IntKind.u8.wrap (shr IntKind.i32 v2.2.1 12))).toNat,UInt8.ofNat (ior IntKind.u8 128 (mZ IntKind.u8 (IntKind.u8.wrap (shr IntKind.i32 v2.2.1 6)) 63)).toNat,UInt8.ofNat (ior IntKind.u8 128 (mZ IntKind.u8 (IntKind.u8.wrap v2.2.1) 63)).toNat].length) * 1≤140737488355328)=true then some ((),v2.2.2.2.2.1 ++ [UInt8.ofNat (ior IntKind.u8 224 (IntKind.u8.wrap (shr IntKind.i32 v2.2.1 12))).toNat,UInt8.ofNat (ior IntKind.u8 128 (mZ IntKind.u8 (IntKind.u8.wrap (shr IntKind.i32 v2.2.1 6)) 63)).toNat,UInt8.ofNat (ior IntKind.u8 128 (mZ IntKind.u8 (IntKind.u8.wrap v2.2.1) 63)).toNat],()) else none).bind fun v3=>some v3.2.1 else (if decide (65535<v2.2.2.1)=true then some ((),v2.2.1,decide (v2.2.2.1≤1114111),v2.2.2.2.2.1,()) else some ((),v2.2.1,false,v2.2.2.2.2.1,())).bind fun v4=>if v4.2.2.1=true then (if decide ((v4.2.2.2.1.length + [UInt8.ofNat (ior IntKind.u8 240 (IntKind.u8.wrap (shr IntKind.i32 v4.2.1 18))).toNat,UInt8.ofNat (ior IntKind.u8 128 (mZ IntKind.u8 (IntKind.u8.wrap (shr IntKind.i32 v4.2.1 12)) 63)).toNat,UInt8.ofNat (ior IntKind.u8 128 (mZ IntKind.u8 (IntKind.u8.wrap (shr IntKind.i32 v4.2.1 6)) 63)).toNat,UInt8.ofNat (ior IntKind.u8 128 (mZ IntKind.u8 (IntKind.u8.wrap v4.2.1) 63)).toNat].length) * 1≤140737488355328)=true then some ((),v4.2.2.2.1 ++ [UInt8.ofNat (ior IntKind.u8 240 (IntKind.u8.wrap (shr IntKind.i32 v4.2.1 18))).toNat,UInt8.ofNat (ior IntKind.u8 128 (mZ IntKind.u8 (IntKind.u8.wrap (shr IntKind.i32 v4.2.1 12)) 63)).toNat,UInt8.ofNat (ior IntKind.u8 128 (mZ IntKind.u8 (IntKind.u8.wrap (shr IntKind.i32 v4.2.1 6)) 63)).toNat,UInt8.ofNat (ior IntKind.u8 128 (mZ IntKind.u8 (IntKind.u8.wrap v4.2.1) 63)).toNat],()) else none).bind fun v5=>some v5.2.1 else if decide ((v4.2.2.2.1.length + [UInt8.ofNat 239,UInt8.ofNat 191,UInt8.ofNat 189].length) * 1≤140737488355328)=true then some (v4.2.2.2.1 ++ [UInt8.ofNat 239,UInt8.ofNat 191,UInt8.ofNat 189]) else none
theorem iS (F:Nat):Ctr TT Tryz.prog 88 (ak TT iT (dr F)) :=
 aW F (code:=aw 88) Tryz.func88 aq fun x=>by kernel_rfl
noncomputable def lU:Spec Kd:={ params := [(.a (.row 5 .u8)),(.a (.int .i32))],ret:=(.one (.a (.row 5 .u8))),pins := [],pl:={ nt:=16,orc:={ rv := [4,8,12,15],gv := [13] } },rfrz := [],ts := [4] }
noncomputable def cB (F:Nat) (x:(List (El .u8))×(Int)):Option (List (El .u8)):=if decide (IntKind.u32.wrap x.2≤127)=true then if decide ((x.1.length + [UInt8.ofNat (IntKind.u8.wrap x.2).toNat].length) * 1≤140737488355328)=true then some (x.1 ++ [UInt8.ofNat (IntKind.u8.wrap x.2).toNat]) else none else (dr F x).bind fun v0=>some v0
theorem gW (F:Nat):Ctr TT Tryz.prog 67 (ak TT lU (cB F)) :=
 aW F (code:=aw 67) Tryz.func67 (ag aq (iS F)) fun x=>by kernel_rfl
noncomputable def kE:Spec Kd:={ params := [(.pin 78 [(.argp 0),(.row 5 .u8)]),(.a (.int .i32))],ret:=(.tup [(.a (.int .i64)),(.a .nili)]),pins := [[(.argp 0),(.row 5 .u8)]],pl:={ nt:=30,orc:={ rv := [],gv := [18] },cuts := [(3,[(10,⟨[.tmp 0 (.a (.ptr 1 0)), .tmp 6 (.a (.int .i64)), .box 1 (.cells 78 [(.argp 1),(.rowp 1000065)]), .box 1000065 (.row 5 .u8)],[1280],[.cellSelf 1 0, .cellRow 1 1 1000065 5 .u8]⟩)])] },rfrz := [],ts := [4,5] }
noncomputable def bw (F:Nat) (x:((Unit)×(List (El .u8))×Unit)×(Int)):Option (((Int)×(Unit))×((Unit)×(List (El .u8))×Unit)):=(cd F ((),x.1.2.1,())).bind fun v0=>((cB F (v0.2.2.1,x.2)).bind fun v1=>some ((),(↑v0.2.2.1.length:Int),((),(),()),v1,())).bind fun v2=>some ((IntKind.i64.wrap ((↑v2.2.2.2.1.length:Int) - v2.2.1),()),(),v2.2.2.2.1,())
theorem kS (F:Nat):Ctr TT Tryz.prog 99 (ak TT kE (bw F)) :=
 aW F (code:=aw 99) Tryz.func99 (ag (ag aq (gr F)) (gW F)) fun x=>by kernel_rfl
noncomputable def iZ:Spec Kd:={ params := [(.a .str),(.a .str)],ret:=(.one (.a .bool)),pins := [],pl:={ nt:=18,cuts := [(1,[(13,⟨[.tmp 17 (.a .bool)],[],[]⟩)])] },rfrz := [],ts := [4] }
noncomputable def dF (F:Nat) (x:B8×B8):Option (Bool):=(if decide ((↑x.2.length:Int)≤(↑x.1.length:Int))=true then (sub x.1 0 (↑x.2.length:Int)).bind fun v0=>some (decide (v0=x.2),()) else some (false,())).bind fun v1=>some v1.1
theorem ji (F:Nat):Ctr TT Tryz.prog 101 (ak TT iZ (dF F)) :=
 aW F (code:=aw 101) Tryz.func101 aq fun x=>by kernel_rfl
noncomputable def kA:Spec Kd:={ params := [(.a .str),(.a .str)],ret:=(.one (.a .bool)),pins := [],pl:={ nt:=8 },rfrz := [],ts := [4] }
noncomputable def aS (F:Nat) (x:B8×B8):Option (Bool):=(dF F x).bind fun v0=>some v0
theorem hT (F:Nat):Ctr TT Tryz.prog 74 (ak TT kA (aS F)) :=
 aW F (code:=aw 74) Tryz.func74 (ag aq (ji F)) fun x=>by kernel_rfl
noncomputable def jW:Spec Kd:={ params := [(.pin 78 [(.argp 0),(.row 5 .u8)]),(.a .str)],ret:=(.tup [(.a (.int .i64)),(.a .nili)]),pins := [[(.argp 0),(.row 5 .u8)]],pl:={ nt:=19,cuts := [(2,[(10,⟨[.tmp 0 (.a (.ptr 1 0)), .tmp 1 (.a .str), .box 1 (.cells 78 [(.argp 1),(.rowp 1000065)]), .box 1000065 (.row 5 .u8)],[],[.cellSelf 1 0, .cellRow 1 1 1000065 5 .u8]⟩)])] },rfrz := [],ts := [4,5] }
noncomputable def dX (F:Nat) (x:((Unit)×(List (El .u8))×Unit)×B8):Option (((Int)×(Unit))×((Unit)×(List (El .u8))×Unit)):=(cd F ((),x.1.2.1,())).bind fun v0=>(if decide ((v0.2.2.1.length+x.2.length) * 1≤140737488355328)=true then some ((),x.2,((),(),()),v0.2.2.1 ++ x.2,()) else none).bind fun v1=>some (((↑v1.2.1.length:Int),()),(),v1.2.2.2.1,())
theorem jX (F:Nat):Ctr TT Tryz.prog 36 (ak TT jW (dX F)) :=
 aW F (code:=aw 36) Tryz.func36 (ag aq (gr F)) fun x=>by kernel_rfl
end Go.Vm
