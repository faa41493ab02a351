/- Models of functions of the program, and that each keeps its contract: for all arguments of its shape. No condition. -/
import Derived.Test.YtihpjgcbmipdbaaGreatDoorKt
import Derived.Test.YtihpjgcbmipdbaaGreatDoorFjson
import Derived.Test.YtihpjgcbmipdbaaGreatDoorFbld
import Derived.Test.YtihpjgcbmipdbaaGreatDoorFtrim
namespace Go.Vm
open Go.Proofs
set_option linter.unusedVariables false
noncomputable def xy:Spec Kd:={ params := [(.a .str)],ret:=(.one (.a .bool)),pins := [],pl:={ nt:=15,cuts := [(1,[(7,⟨[.tmp 0 (.a .str), .tmp 9 (.a .bool)],[],[]⟩),(5,⟨[.tmp 14 (.a .bool)],[],[]⟩)])] },rfrz := [],ts := [2] }
noncomputable def gm (F:Nat) (x:B8):Option (Bool):=(if (!decide (x = []))=true then some (x,decide ((↑x.length:Int)≤12),()) else some (x,false,())).bind fun v0=>(if v0.2.1=true then (jm F (v0.1,[97,98,99,100,101,102,103,104,105,106,107,108,109,110,111,112,113,114,115,116,117,118,119,120,121,122,48,49,50,51,52,53,54,55,56,57])).bind fun v1=>some (decide (v1 = []),()) else some (false,())).bind fun v2=>some v2.1
theorem qw (F:Nat):Ctr TT Tryz.prog 142 (ai TT xy (gm F)) :=
 aC F (code:=aq 142) Tryz.func142 (ag al (wC F)) fun x=>by kernel_rfl
noncomputable def Af:Spec Kd:={ params := [(.a .str)],ret:=(.one (.a .str)),pins := [],pl:={ nt:=33,cuts := [(6,[(7,⟨[.tmp 0 (.a .str), .tmp 3 (.a (.int .i64)), .tmp 21 (.a .bool)],[],[]⟩),(7,⟨[.tmp 0 (.a .str), .tmp 3 (.a (.int .i64)), .tmp 28 (.a .bool)],[],[]⟩)])] },rfrz := [],ts := [2] }
noncomputable def k6 (F:Nat) (x:B8):Option B8:=if decide ((↑x.length:Int)<2)=true then some [] else (idx x 1).bind fun v0=>(aR F ([37,98,107,109,112],(↑v0.toNat:Int))).bind fun v1=>if decide (0≤v1)=true then (sub x 0 2).bind fun v2=>some v2 else (aR F (x,125)).bind fun v3=>((idx x 1).bind fun v4=>if (!decide ((↑v4.toNat:Int)=123))=false then some (x,v3,decide (v3<0),()) else some (x,v3,true,())).bind fun v5=>(if v5.2.2.1=false then (sub v5.1 2 v5.2.1).bind fun v6=>(gm F v6).bind fun v7=>some (v5.1,v5.2.1, !v7,()) else some (v5.1,v5.2.1,true,())).bind fun v8=>if v8.2.2.1=true then some [] else (sub v8.1 0 (IntKind.i64.wrap (v8.2.1+1))).bind fun v9=>some v9
theorem zT (F:Nat):Ctr TT Tryz.prog 193 (ai TT Af (k6 F)) :=
 aC F (code:=aq 193) Tryz.func193 (ag (ag al (hP F)) (qw F)) fun x=>by kernel_rfl
noncomputable def zF:Spec Kd:={ params := [(.a .str)],ret:=(.tup [(.a (.row 172 .pc)),(.a .bool)]),pins := [],pl:={ nt:=52,orc:={ rv := [2,4,42,45,51],gv := [] },joins := [(1400033,(.norm,⟨[.tmp 0 (.a .str), .tmp 4 (.a (.rowp 256)), .tmp 6 (.a (.int .i64)), .tmp 8 (.a (.ptr 512 0)), .tmp 13 (.a (.ptr 832 0)), .box 832 .siter, .box 256 (.row 172 .pc), .box 512 (.cells 172 [.bool, .str])],[],[.tmpRow 4 256 172 .pc]⟩),[(.ret,⟨[.tmp 2 (.a (.rowp 128)), .tmp 3 (.a .bool), .box 128 (.row 172 .pc)],[],[.tmpRow 2 128 172 .pc]⟩)])],loops := [(0,⟨[.tmp 0 (.a .str), .tmp 4 (.a (.rowp 256)), .tmp 5 (.a (.int .i64)), .tmp 13 (.a (.ptr 832 0)), .box 832 .siter, .box 256 (.row 172 .pc)],[],[.tmpRow 4 256 172 .pc]⟩,(.exit 0,⟨[.tmp 4 (.a (.rowp 256)), .box 256 (.row 172 .pc)],[],[.tmpRow 4 256 172 .pc]⟩),[(.ret,⟨[.tmp 2 (.a (.rowp 128)), .tmp 3 (.a .bool), .box 128 (.row 172 .pc)],[],[.tmpRow 2 128 172 .pc]⟩)])],cuts := [(11,[(10,⟨[.tmp 0 (.a .str), .tmp 4 (.a (.rowp 256)), .tmp 6 (.a (.int .i64)), .tmp 7 (.a (.int .i32)), .tmp 8 (.a (.ptr 512 0)), .tmp 13 (.a (.ptr 832 0)), .box 832 .siter, .box 256 (.row 172 .pc), .box 512 (.cells 172 [.bool, .str])],[],[.tmpRow 4 256 172 .pc]⟩)])] },rfrz := [],ts := [2,3] }
noncomputable def bD (F:Nat) (v0:(B8×Unit×Int×Unit×(B8×Nat)×List (Bool×B8×Unit)×Unit)):Option ((B8×Unit×Int×Unit×(B8×Nat)×List (Bool×B8×Unit)×Unit) ⊕ (Unit×List (Bool×B8×Unit)×Unit ⊕ Unit×Bool×List (Bool×B8×Unit)×Unit)):=if decide (v0.2.2.2.2.1.2<v0.2.2.2.2.1.1.length)=true then if decide ((↑v0.2.2.2.2.1.2:Int)<v0.2.2.1)=true then some (Sum.inl (v0.1,(),v0.2.2.1,(),(v0.2.2.2.2.1.1,v0.2.2.2.2.1.2+runeLen v0.2.2.2.2.1.1 v0.2.2.2.2.1.2),v0.2.2.2.2.2.1,())) else (iR F (dB v0.2.2.2.2.1.1 v0.2.2.2.2.1.2)).bind fun v1=>if decide (v1=0)=true then some (Sum.inr (Sum.inr ((),false,[],()))) else ((bp F (dB v0.2.2.2.2.1.1 v0.2.2.2.2.1.2)).bind fun v2=>(sub v0.1 (↑v0.2.2.2.2.1.2:Int) (IntKind.i64.wrap ((↑v0.2.2.2.2.1.2:Int)+v2))).bind fun v3=>some (v0.1,(),(↑v0.2.2.2.2.1.2:Int),dB v0.2.2.2.2.1.1 v0.2.2.2.2.1.2,(),(),(v0.2.2.2.2.1.1,v0.2.2.2.2.1.2+runeLen v0.2.2.2.2.1.1 v0.2.2.2.2.1.2),v0.2.2.2.2.2.1,(false,v3,()),())).bind fun v4=>(if decide (v4.2.2.2.1=37)=true then (sub v4.1 v4.2.2.1 (↑v4.1.length:Int)).bind fun v5=>(k6 F v5).bind fun v6=>if decide (v6 = [])=true then some (Sum.inr ((),false,[],())) else some (Sum.inl (v4.1,(),v4.2.2.1,(),(),v4.2.2.2.2.2.2.1,v4.2.2.2.2.2.2.2.1,(true,v6,()),())) else some (Sum.inl (v4.1,(),v4.2.2.1,v4.2.2.2.2))).bind fun v7=>fc v7 (fun v8=>if decide ((v8.2.2.2.2.2.2.1.length + [(v8.2.2.2.2.2.2.2.1.1,v8.2.2.2.2.2.2.2.1.2.1,Unit.unit)].length) * 24≤140737488355328)=true then some (Sum.inl (v8.1,(),IntKind.i64.wrap (v8.2.2.1+(↑v8.2.2.2.2.2.2.2.1.2.1.length:Int)),(),v8.2.2.2.2.2.1,v8.2.2.2.2.2.2.1 ++ [(v8.2.2.2.2.2.2.2.1.1,v8.2.2.2.2.2.2.2.1.2.1,Unit.unit)],())) else none) fun v9=>some (Sum.inr (Sum.inr ((),v9.2.1,v9.2.2.1,()))) else some (Sum.inr (Sum.inl ((),v0.2.2.2.2.2.1,())))
noncomputable def jx (F:Nat) (x:B8):Option ((List (El .pc))×(Bool)):=if decide (60<(↑x.length:Int))=true then some ([],false) else (bh (bD F) F (x,(),0,(),(x,0),[],())).bind fun v10=>fc v10 (fun v11=>some (v11.2.1,true)) fun v12=>some (v12.2.2.1,v12.2.1)
theorem sG (F:Nat):Ctr TT Tryz.prog 127 (ai TT zF (jx F)) :=
 aC F (code:=aq 127) Tryz.func127 (ag (ag (ag al (oH F)) (fP F)) (zT F)) fun x=>by kernel_rfl
noncomputable def uR:Spec Kd:={ params := [(.a .str)],ret:=(.one (.a .bool)),pins := [],pl:={ nt:=11 },rfrz := [],ts := [2] }
noncomputable def jn (F:Nat) (x:B8):Option (Bool):=(jx F x).bind fun v0=>some v0.2
theorem vm (F:Nat):Ctr TT Tryz.prog 201 (ai TT uR (jn F)) :=
 aC F (code:=aq 201) Tryz.func201 (ag al (sG F)) fun x=>by kernel_rfl
noncomputable def uq:Spec Kd:={ params := [(.a .str),(.a .str)],ret:=(.one (.a .str)),pins := [],pl:={ nt:=25 },rfrz := [],ts := [4] }
noncomputable def iC (F:Nat) (x:B8×B8):Option B8:=(ji F x).bind fun (v0:B8×Bool)=>if (!v0.2)=true then some [] else (mj F v0.1).bind fun (v1:B8×Bool)=>if v1.2=true then some v1.1 else some v0.1
theorem uk (F:Nat):Ctr TT Tryz.prog 195 (ai TT uq (iC F)) :=
 aC F (code:=aq 195) Tryz.func195 (ag (ag al (rK F)) (Bd F)) fun x=>by kernel_rfl
noncomputable def vW:Spec Kd:={ params := [(.agg [.bool, .str]),(.agg [(.int .i64), .str,(.int .i64),(.int .i64),(.int .i64),(.int .i64), .str,(.int .i64),(.int .i64),(.int .i64), .str, .str, .str, .str])],ret:=(.one (.a .str)),pins := [],pl:={ nt:=41,ends := [(14,⟨[.tmp 4 (.a .str)],[],[]⟩)] },rfrz := [],ts := [4] }
noncomputable def jq (F:Nat) (x:((Bool)×B8×Unit)×((Int)×B8×(Int)×(Int)×(Int)×(Int)×B8×(Int)×(Int)×(Int)×B8×B8×B8×B8×Unit)):Option B8:=if (!x.1.1)=true then some x.1.2.1 else (idx x.1.2.1 1).bind fun (v0:UInt8)=>if decide ((↑v0.toNat:Int)=98)=true then some x.2.2.2.2.2.2.2.2.2.2.2.2.2.2.1 else if decide ((↑v0.toNat:Int)=107)=true then some x.2.2.1 else if decide ((↑v0.toNat:Int)=109)=true then some x.2.2.2.2.2.2.2.2.2.2.2.2.1 else if decide ((↑v0.toNat:Int)=112)=true then some x.2.2.2.2.2.2.2.2.2.2.2.2.2.1 else if decide ((↑v0.toNat:Int)=37)=true then some [37] else ((sub x.1.2.1 2 (IntKind.i64.wrap ((↑x.1.2.1.length:Int) - 1))).bind fun (v1:B8)=>(iC F (x.2.2.2.2.2.2.2.2.2.2.2.2.2.2.1,v1)).bind fun (v2:B8)=>some (v2,())).bind fun (v3:B8×Unit)=>some v3.1
theorem u5 (F:Nat):Ctr TT Tryz.prog 129 (ai TT vW (jq F)) :=
 aC F (code:=aq 129) Tryz.func129 (ag al (uk F)) fun x=>by kernel_rfl
noncomputable def xC:Spec Kd:={ params := [(.a .str),(.agg [(.int .i64), .str,(.int .i64),(.int .i64),(.int .i64),(.int .i64), .str,(.int .i64),(.int .i64),(.int .i64), .str, .str, .str, .str])],ret:=(.one (.a .str)),pins := [],pl:={ nt:=52,orc:={ rv := [10,46,49],gv := [] },joins := [(1700039,(.norm,⟨[.tmp 10 (.a (.rowp 640)), .tmp 11 (.a (.int .i64)), .tmp 13 (.a (.int .i32)), .tmp 33 (.a (.ptr 2112 0)), .box 2112 .siter, .box 640 (.row 21 .i32)],[1025],[.tmpRow 10 640 21 .i32]⟩),[])],loops := [(2,⟨[.tmp 10 (.a (.rowp 640)), .tmp 11 (.a (.int .i64)), .tmp 33 (.a (.ptr 2112 0)), .box 2112 .siter, .box 640 (.row 21 .i32)],[1025],[.tmpRow 10 640 21 .i32]⟩,(.exit 2,⟨[.tmp 10 (.a (.rowp 640)), .box 640 (.row 21 .i32)],[1025],[.tmpRow 10 640 21 .i32]⟩),[]),(0,⟨[.tmp 3 (.a (.ptr 192 0)), .tmp 7 (.a (.ptr 448 0)), .tmp 21 (.a (.slc .pc)), .tmp 22 (.a (.int .i64)), .tmp 23 (.a (.int .i64)), .box 192 (.cells 35 [(.int .i64), .str,(.int .i64),(.int .i64),(.int .i64),(.int .i64), .str,(.int .i64),(.int .i64),(.int .i64), .str, .str, .str, .str]), .box 448 (.cells 170 [(.argp 448),(.rowp 1028673)]), .box 1028673 (.row 5 .u8)],[1025],[.cellSelf 448 0, .cellRow 448 1 1028673 5 .u8]⟩,(.exit 0,⟨[.tmp 7 (.a (.ptr 448 0)), .box 448 (.cells 170 [(.argp 448),(.rowp 1028673)]), .box 1028673 (.row 5 .u8)],[1025],[.cellSelf 448 0, .cellRow 448 1 1028673 5 .u8]⟩),[])] },rfrz := [],ts := [4] }
noncomputable def gQ (F:Nat) (v1:(Unit ×
      Unit ×
       List (Bool×B8×Unit) ×
        Int ×
         Int ×
          (Int×B8×Int×Int×Int×Int×B8×Int×Int×Int×B8×B8×B8×B8×Unit) ×
           (Unit×Unit×Unit)×B8×Unit)):Option ((Unit ×
      Unit ×
       List (Bool×B8×Unit) ×
        Int ×
         Int ×
          (Int×B8×Int×Int×Int×Int×B8×Int×Int×Int×B8×B8×B8×B8×Unit) ×
           (Unit×Unit×Unit)×B8×Unit) ⊕ (Unit×(Unit×Unit×Unit)×B8×Unit)) :=
 if decide (v1.2.2.2.2.1<v1.2.2.2.1)=true then
       (idx v1.2.2.1 v1.2.2.2.2.1).bind fun (v2:Bool×B8×Unit) =>
        (jq F ((v2.1,v2.2.1,()),v1.2.2.2.2.2.1)).bind fun (v3:B8) =>
         (dY F (((),v1.2.2.2.2.2.2.2.1,()),v3)).bind fun (v4:(Int×Unit)×Unit×B8×Unit) =>
          some (Sum.inl ((),(),v1.2.2.1,v1.2.2.2.1,IntKind.i64.wrap (v1.2.2.2.2.1+1),v1.2.2.2.2.2.1,((),(),()),v4.2.2.1,()))
      else some (Sum.inr ((),((),(),()),v1.2.2.2.2.2.2.2.1,()))
noncomputable def eL (F:Nat) (v7:(Unit×Int×Unit×(B8×Nat)×List Int×Unit)):Option ((Unit×Int×Unit×(B8×Nat)×List Int×Unit) ⊕ (Unit×List Int×Unit)):=if decide (v7.2.2.2.1.2<v7.2.2.2.1.1.length)=true then (iR F (dB v7.2.2.2.1.1 v7.2.2.2.1.2)).bind fun (v8:Int)=>(if decide (v8=0)=true then some ((),v7.2.1,63,(),(v7.2.2.2.1.1,v7.2.2.2.1.2+runeLen v7.2.2.2.1.1 v7.2.2.2.1.2),v7.2.2.2.2.1,()) else some ((),v7.2.1,dB v7.2.2.2.1.1 v7.2.2.2.1.2,(),(v7.2.2.2.1.1,v7.2.2.2.1.2+runeLen v7.2.2.2.1.1 v7.2.2.2.1.2),v7.2.2.2.2.1,())).bind fun (v9:Unit×Int×Int×Unit×(B8×Nat)×List Int×Unit)=>(bp F v9.2.2.1).bind fun (v10:Int)=>if decide (40<IntKind.i64.wrap (v9.2.1+v10))=true then some (Sum.inr ((),v9.2.2.2.2.2.1,())) else if decide ((v9.2.2.2.2.2.1.length + [v9.2.2.1].length) * 4≤140737488355328)=true then some (Sum.inl ((),IntKind.i64.wrap (v9.2.1+v10),(),v9.2.2.2.2.1,v9.2.2.2.2.2.1 ++ [v9.2.2.1],())) else none else some (Sum.inr ((),v7.2.2.2.2.1,()))
noncomputable def iA (F:Nat) (x:B8×((Int)×B8×(Int)×(Int)×(Int)×(Int)×B8×(Int)×(Int)×(Int)×B8×B8×B8×B8×Unit)):Option B8:=(jx F x.1).bind fun (v0:List (Bool×B8×Unit)×Bool)=>if (!v0.2)=true then some [] else (bh (gQ F) F ((),(),v0.1,(↑v0.1.length:Int),0,x.2,((),(),()),[],())).bind fun (v5:Unit×(Unit×Unit×Unit)×B8×Unit)=>(dX F ((),v5.2.2.1,())).bind fun (v6:B8×Unit×Unit×Unit)=>(bh (eL F) F ((),0,(),(v6.1,0),[],())).bind fun (v11:Unit×List Int×Unit)=>some (jH v11.2.1)
theorem xq (F:Nat):Ctr TT Tryz.prog 70 (ai TT xC (iA F)) :=
 aC F (code:=aq 70) Tryz.func70 (ag (ag (ag (ag (ag (ag al (sG F)) (u5 F)) (kj F)) (ix F)) (oH F)) (fP F)) fun x=>by kernel_rfl
end Go.Vm
