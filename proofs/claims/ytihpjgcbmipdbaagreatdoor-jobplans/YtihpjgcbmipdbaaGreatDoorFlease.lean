import Derived.Test.YtihpjgcbmipdbaaGreatDoorFcanon
set_option linter.unusedVariables false
noncomputable section
namespace Go.Vm
open Go.Proofs
def De:Spec Kd:={ params:=[(.agg acC)],ret:=(.one ac7),pins:=[],pl:={ nt:=16,cuts:=[(1,[(8,⟨[.tmp 1 (.a (.ptr 64 0)),.tmp 10 ac7,.box 64 (.cells 35 acC)],[],[]⟩),(5,⟨[.tmp 15 ac7],[],[]⟩)])] },rfrz:=[],ts:=[2] }
def iW (F:Nat) (x: acE):Option (Bool):=(if decide (0<=x.1)=true then some ((),decide (x.1<4),x,()) else some ((),false,x,())).bind fun v0=>(if v0.2.1=true then (mU F v0.2.2.1.2.1).bind fun v1=>some (v1,()) else some (false,())).bind fun v2=>some v2.1
theorem Dj (F:Nat):Ctr TT Tryz.prog 205 (ai TT De (iW F)) :=
 ar F (code:=aj 205) Tryz.func205 (af ah (Ir F)) fun x=>by kernel_rfl
def CF:Spec Kd:={ params:=[ac6],ret:=(.one ac7),pins:=[],pl:={ nt:=9,cuts:=[(1,[(6,⟨[.tmp 8 ac7],[],[]⟩)])] },rfrz:=[],ts:=[2] }
def jm (F:Nat) (x:(Int)):Option (Bool):=(if decide (1<=x)=true then some (decide (x<=1073741824),()) else some (false,())).bind fun v0=>some v0.1
theorem AP (F:Nat):Ctr TT Tryz.prog 206 (ai TT CF (jm F)) :=
 ar F (code:=aj 206) Tryz.func206 ah fun x=>by kernel_rfl
def Gk:Spec Kd:={ params:=[ac6],ret:=(.one ac7),pins:=[],pl:={ nt:=9,cuts:=[(1,[(6,⟨[.tmp 8 ac7],[],[]⟩)])] },rfrz:=[],ts:=[2] }
def lg (F:Nat) (x:(Int)):Option (Bool):=(if decide (0<=x)=true then some (decide (x<=1099511627776),()) else some (false,())).bind fun v0=>some v0.1
theorem Fv (F:Nat):Ctr TT Tryz.prog 207 (ai TT Gk (lg F)) :=
 ar F (code:=aj 207) Tryz.func207 ah fun x=>by kernel_rfl
def Di:Spec Kd:={ params:=[(.agg acC)],ret:=(.one ac7),pins:=[],pl:={ nt:=43,cuts:=[(3,[(8,⟨[.tmp 1 (.a (.ptr 64 0)),.tmp 5 ac8,.tmp 26 ac7,.box 64 (.cells 35 acC)],[],[]⟩),(4,⟨[.tmp 1 (.a (.ptr 64 0)),.tmp 5 ac8,.tmp 30 ac7,.box 64 (.cells 35 acC)],[],[]⟩),(6,⟨[.tmp 1 (.a (.ptr 64 0)),.tmp 36 ac7,.box 64 (.cells 35 acC)],[],[]⟩),(6,⟨[.tmp 42 ac7],[],[]⟩)])] },rfrz:=[],ts:=[2] }
def ic (F:Nat) (x: acE):Option (Bool):=(jw F x.2.2.2.2.2.2.2.2.2.2.2.1).bind fun v0=>(lO F x.2.2.2.2.2.2.2.2.2.2.2.2.1).bind fun v1=>(if (!decide (v0.1=[]))=true then some ((),v1.1,decide (v0.1=x.2.2.2.2.2.2.2.2.2.2.2.1),x,()) else some ((),v1.1,false,x,())).bind fun v2=>(if v2.2.2.1=true then some ((),v2.2.1,!decide (v2.2.1=[]),v2.2.2.2.1,()) else some ((),v2.2.1,false,v2.2.2.2.1,())).bind fun v3=>(if v3.2.2.1=true then some ((),decide (v3.2.1=v3.2.2.2.1.2.2.2.2.2.2.2.2.2.2.2.2.1),v3.2.2.2.1,()) else some ((),false,v3.2.2.2.1,())).bind fun v4=>(if v4.2.1=true then some (decide ((↑v4.2.2.1.2.2.2.2.2.2.2.2.2.2.2.2.2.1.length:Int)<=80),()) else some (false,())).bind fun v5=>some v5.1
theorem Dd (F:Nat):Ctr TT Tryz.prog 208 (ai TT Di (ic F)) :=
 ar F (code:=aj 208) Tryz.func208 (af (af ah (AM F)) (F4 F)) fun x=>by kernel_rfl
def yz:Spec Kd:={ params:=[(.agg acC)],ret:=(.one ac7),pins:=[],pl:={ nt:=13,joins:=[(500005,(.norm,⟨[.tmp 1 (.a (.ptr 64 0)),.tmp 5 ac7,.box 64 (.cells 35 acC)],[],[]⟩),[]),(400005,(.norm,⟨[.tmp 1 (.a (.ptr 64 0)),.tmp 5 ac7,.box 64 (.cells 35 acC)],[],[]⟩),[])] },rfrz:=[],ts:=[2] }
def jG (F:Nat) (x: acE):Option (Bool):=(if decide (x.2.2.2.2.2.2.2.2.2.1=200)=true then some ((),decide (x.2.2.2.2.2.2.2.2.2.1=200),x,()) else (if decide (x.2.2.2.2.2.2.2.2.2.1=201)=true then some ((),decide (x.2.2.2.2.2.2.2.2.2.1=201),x,()) else some ((),decide (x.2.2.2.2.2.2.2.2.2.1=402),x,())).bind fun v0=>some ((),v0.2.1,v0.2.2.1,())).bind fun v1=>if v1.2.1=true then some (decide ((↑v1.2.2.1.2.2.2.2.2.2.2.2.2.2.1.length:Int)<=40)) else some false
theorem yv (F:Nat):Ctr TT Tryz.prog 209 (ai TT yz (jG F)) :=
 ar F (code:=aj 209) Tryz.func209 ah fun x=>by kernel_rfl
def IH:Spec Kd:={ params:=[(.agg acC)],ret:=(.one ac7),pins:=[],pl:={ nt:=92,cuts:=[(7,[(5,⟨[.tmp 78 ac7],[],[]⟩)]),(9,[(5,⟨[.tmp 85 ac7],[],[]⟩)]),(11,[(4,⟨[.tmp 91 ac7],[],[]⟩)]),(4,[(14,⟨[.tmp 1 (.a (.ptr 64 0)),.tmp 3 ac7,.tmp 69 ac7,.box 64 (.cells 35 acC)],[],[]⟩)]),(3,[(8,⟨[.tmp 1 (.a (.ptr 64 0)),.tmp 55 ac7,.box 64 (.cells 35 acC)],[],[]⟩)]),(1,[(9,⟨[.tmp 1 (.a (.ptr 64 0)),.tmp 13 ac7,.box 64 (.cells 35 acC)],[],[]⟩),(6,⟨[.tmp 1 (.a (.ptr 64 0)),.tmp 19 ac7,.box 64 (.cells 35 acC)],[],[]⟩),(5,⟨[.tmp 1 (.a (.ptr 64 0)),.tmp 24 ac7,.box 64 (.cells 35 acC)],[],[]⟩),(5,⟨[.tmp 1 (.a (.ptr 64 0)),.tmp 29 ac7,.box 64 (.cells 35 acC)],[],[]⟩),(6,⟨[.tmp 1 (.a (.ptr 64 0)),.tmp 35 ac7,.box 64 (.cells 35 acC)],[],[]⟩),(6,⟨[.tmp 1 (.a (.ptr 64 0)),.tmp 41 ac7,.box 64 (.cells 35 acC)],[],[]⟩),(6,⟨[.tmp 1 (.a (.ptr 64 0)),.tmp 47 ac7,.box 64 (.cells 35 acC)],[],[]⟩)])] },rfrz:=[],ts:=[2] }
def dJ (F:Nat) (x: acE):Option (Bool):=((iW F x).bind fun v0=>if (!v0)=false then (jm F x.2.2.2.1).bind fun v1=>some ((),!v1,x,()) else some ((),true,x,())).bind fun v2=>(if v2.2.1=false then (jm F v2.2.2.1.2.2.2.2.1).bind fun v3=>some ((),!v3,v2.2.2.1,()) else some ((),true,v2.2.2.1,())).bind fun v4=>(if v4.2.1=false then some ((),decide (v4.2.2.1.2.2.2.2.2.1<0),v4.2.2.1,()) else some ((),true,v4.2.2.1,())).bind fun v5=>(if v5.2.1=false then some ((),decide (5<v5.2.2.1.2.2.2.2.2.1),v5.2.2.1,()) else some ((),true,v5.2.2.1,())).bind fun v6=>(if v6.2.1=false then some ((),!decide ((↑v6.2.2.1.2.2.2.2.2.2.1.length:Int)=32),v6.2.2.1,()) else some ((),true,v6.2.2.1,())).bind fun v7=>(if v7.2.1=false then (lg F v7.2.2.1.2.2.2.2.2.2.2.1).bind fun v8=>some ((),!v8,v7.2.2.1,()) else some ((),true,v7.2.2.1,())).bind fun v9=>(if v9.2.1=false then (lg F v9.2.2.1.2.2.2.2.2.2.2.2.1).bind fun v10=>some ((),!v10,v9.2.2.1,()) else some ((),true,v9.2.2.1,())).bind fun v11=>if v11.2.1=true then some false else (if decide (v11.2.2.1.2.2.2.2.2.2.2.2.2.1=0)=true then some ((),decide (v11.2.2.1.2.2.2.2.2.2.2.2.2.2.1=[]),v11.2.2.1,()) else some ((),false,v11.2.2.1,())).bind fun v12=>(if decide (v12.2.2.1.2.2.2.2.2.2.2.1=0)=true then if decide (v12.2.2.1.2.2.2.2.2.2.2.2.2.2.2.1.length+v12.2.2.1.2.2.2.2.2.2.2.2.2.2.2.2.1.length<=9223372036854775807)=true then if decide ((v12.2.2.1.2.2.2.2.2.2.2.2.2.2.2.1++v12.2.2.1.2.2.2.2.2.2.2.2.2.2.2.2.1).length+v12.2.2.1.2.2.2.2.2.2.2.2.2.2.2.2.2.1.length<=9223372036854775807)=true then some ((),v12.2.1,decide (v12.2.2.1.2.2.2.2.2.2.2.2.2.2.2.1++v12.2.2.1.2.2.2.2.2.2.2.2.2.2.2.2.1++v12.2.2.1.2.2.2.2.2.2.2.2.2.2.2.2.2.1=[]),v12.2.2.1,()) else none else none else some ((),v12.2.1,false,v12.2.2.1,())).bind fun v13=>if decide (v13.2.2.2.1.2.2.1=1)=true then (if v13.2.1=true then (ic F v13.2.2.2.1).bind fun v14=>some (v14,()) else some (false,())).bind fun v15=>some v15.1 else if decide (v13.2.2.2.1.2.2.1=2)=true then (if v13.2.2.1=true then (jG F v13.2.2.2.1).bind fun v16=>some (v16,()) else some (false,())).bind fun v17=>some v17.1 else if decide (v13.2.2.2.1.2.2.1=3)=true then (if v13.2.2.1=true then some (v13.2.1,()) else some (false,())).bind fun v18=>some v18.1 else some false
theorem zE (F:Nat):Ctr TT Tryz.prog 150 (ai TT IH (dJ F)) :=
 ar F (code:=aj 150) Tryz.func150 (af (af (af (af (af ah (Dj F)) (AP F)) (Fv F)) (Dd F)) (yv F)) fun x=>by kernel_rfl
end Go.Vm
namespace Go.Vm
open Go.Proofs
def Gp:Spec Kd:={ params:=[ac6,ac6,ac6],ret:=(.one ac6),pins:=[],pl:={ nt:=12 },rfrz:=[],ts:=[6] }
def eO (F:Nat) (x:Int×Int×Int):Option (Int):=some (if x.2.2<if x.1<x.2.1 then x.2.1 else x.1 then x.2.2 else if x.1<x.2.1 then x.2.1 else x.1)
theorem rC (F:Nat):Ctr TT Tryz.prog 180 (ai TT Gp (eO F)) :=
 ar F (code:=aj 180) Tryz.func180 ah fun x=>by kernel_rfl
def JQ:Spec Kd:={ params:=[ac6],ret:=(.one ac6),pins:=[],pl:={ nt:=5 },rfrz:=[],ts:=[2] }
def kC (F:Nat) (x:(Int)):Option (Int):=(eO F (x,0,1099511627776)).bind fun (v0:Int)=>some v0
theorem wi (F:Nat):Ctr TT Tryz.prog 115 (ai TT JQ (kC F)) :=
 ar F (code:=aj 115) Tryz.func115 (af ah (rC F)) fun x=>by kernel_rfl
def Fz:Spec Kd:={ params:=[ac6],ret:=(.one ac6),pins:=[],pl:={ nt:=5 },rfrz:=[],ts:=[2] }
def oi (F:Nat) (x:(Int)):Option (Int):=(eO F (x,0,1073741824)).bind fun (v0:Int)=>some v0
theorem F9 (F:Nat):Ctr TT Tryz.prog 204 (ai TT Fz (oi F)) :=
 ar F (code:=aj 204) Tryz.func204 (af ah (rC F)) fun x=>by kernel_rfl
def K6:Spec Kd:={ params:=[ac6,ac6],ret:=(.one ac6),pins:=[],pl:={ nt:=11 },rfrz:=[],ts:=[4] }
def oR (F:Nat) (x:Int×Int):Option (Int):=(kC F x.1).bind fun (v0:Int)=>(oi F x.2).bind fun (v1:Int)=>(kC F (IntKind.i64.wrap (v0+v1))).bind fun (v2:Int)=>some v2
theorem AR (F:Nat):Ctr TT Tryz.prog 147 (ai TT K6 (oR F)) :=
 ar F (code:=aj 147) Tryz.func147 (af (af ah (wi F)) (F9 F)) fun x=>by kernel_rfl
def FL:Spec Kd:={ params:=[(.agg acO)],ret:=(.one (.agg acO)),pins:=[],pl:={ nt:=22,ends:=[(1,⟨[.tmp 2 (.a (.ptr 128 0)),.box 128 (.cells 75 acO)],[],[]⟩)] },rfrz:=[],ts:=[22],rc:=[(2,some 75)] }
def kU (F:Nat) (x: acS):Option acS :=((eO F (x.1,1,4)).bind fun (v0:Int)=>(eO F (x.2.1,1,1073741824)).bind fun (v1:Int)=>(eO F (x.2.2.1,1,1073741824)).bind fun (v2:Int)=>(eO F (x.2.2.2.1,1,200)).bind fun (v3:Int)=>(eO F (x.2.2.2.2.1,500,20000)).bind fun (v4:Int)=>(eO F (x.2.2.2.2.2.1,1000,60000)).bind fun (v5:Int)=>some ((),(v0,v1,v2,v3,v4,v5,()),())).bind fun (v6:Unit×acS×Unit)=>some v6.2.1
theorem xT (F:Nat):Ctr TT Tryz.prog 148 (ai TT FL (kU F)) :=
 ar F (code:=aj 148) Tryz.func148 (af ah (rC F)) fun x=>by kernel_rfl
def rA:Spec Kd:={ params:=[ac6,ac6,ac6],ret:=(.one ac6),pins:=[],pl:={ nt:=16 },rfrz:=[],ts:=[6] }
def bm (F:Nat) (x:Int×Int×Int):Option (Int):=if decide (x.1<x.2.1)=true then some x.2.1 else if decide (x.2.2<x.1)=true then some x.2.2 else some x.1
theorem lK (F:Nat):Ctr TT Tryz.prog 116 (ai TT rA (bm F)) :=
 ar F (code:=aj 116) Tryz.func116 ah fun x=>by kernel_rfl
def sF:Spec Kd:={ params:=[ac6],ret:=(.one ac6),pins:=[],pl:={ nt:=5 },rfrz:=[],ts:=[2] }
def cJ (F:Nat) (x:(Int)):Option (Int):=(bm F (x,0,1099511627776)).bind fun (v0:Int)=>some v0
theorem iZ (F:Nat):Ctr TT Tryz.prog 61 (ai TT sF (cJ F)) :=
 ar F (code:=aj 61) Tryz.func61 (af ah (lK F)) fun x=>by kernel_rfl
def qC:Spec Kd:={ params:=[(.agg acO)],ret:=(.one (.agg acO)),pins:=[],pl:={ nt:=28 },rfrz:=[],ts:=[28],rc:=[(2,some 75)] }
def eC (F:Nat) (x: acS):Option acS :=(bm F (x.1,1,4)).bind fun (v0:Int)=>(bm F (x.2.1,1,1073741824)).bind fun (v1:Int)=>(bm F (x.2.2.1,1,1073741824)).bind fun (v2:Int)=>(bm F (x.2.2.2.1,1,200)).bind fun (v3:Int)=>(bm F (x.2.2.2.2.1,500,20000)).bind fun (v4:Int)=>(bm F (x.2.2.2.2.2.1,1000,60000)).bind fun (v5:Int)=>some (v0,v1,v2,v3,v4,v5,())
theorem kM (F:Nat):Ctr TT Tryz.prog 153 (ai TT qC (eC F)) :=
 ar F (code:=aj 153) Tryz.func153 (af ah (lK F)) fun x=>by kernel_rfl
end Go.Vm
namespace Go.Vm
open Go.Proofs
def E1:Spec Kd:={ params:=[(.agg acC),ac6],ret:=(.one ac7),pins:=[],pl:={ nt:=15,ends:=[(1,⟨[.tmp 4 ac7],[],[]⟩)] },rfrz:=[],ts:=[4] }
def om (F:Nat) (x: acE×Int):Option (Bool):=(if decide (x.1.2.2.1=1)=true then (kC F x.2).bind fun (v0:Int)=>some (decide (v0<x.1.2.2.2.2.2.2.2.1),()) else some (false,())).bind fun (v1:Bool×Unit)=>some v1.1
theorem Gb (F:Nat):Ctr TT Tryz.prog 79 (ai TT E1 (om F)) :=
 ar F (code:=aj 79) Tryz.func79 (af ah (wi F)) fun x=>by kernel_rfl
def Hp:Spec Kd:={ params:=[(.agg acC)],ret:=(.one ac7),pins:=[],pl:={ nt:=10,cuts:=[(1,[(7,⟨[.tmp 9 ac7],[],[]⟩)])] },rfrz:=[],ts:=[2] }
def pE (F:Nat) (x: acE):Option (Bool):=(if decide (x.2.2.1=1)=true then (dJ F x).bind fun (v0:Bool)=>some (v0,()) else some (false,())).bind fun (v1:Bool×Unit)=>some v1.1
theorem HU (F:Nat):Ctr TT Tryz.prog 203 (ai TT Hp (pE F)) :=
 ar F (code:=aj 203) Tryz.func203 (af ah (zE F)) fun x=>by kernel_rfl
def C3:Spec Kd:={ params:=[(.agg acC),ac6],ret:=(.one ac6),pins:=[],pl:={ nt:=14 },rfrz:=[],ts:=[4] }
def ib (F:Nat) (x: acE×Int):Option (Int):=(pE F x.1).bind fun (v0:Bool)=>if (!v0)=true then some 1 else if (!decide (x.1.2.2.2.2.1=x.2))=true then some 9 else some 0
theorem mh (F:Nat):Ctr TT Tryz.prog 146 (ai TT C3 (ib F)) :=
 ar F (code:=aj 146) Tryz.func146 (af ah (HU F)) fun x=>by kernel_rfl
def FH:Spec Kd:={ params:=[(.agg acC),ac6],ret:=(.one (.agg acC)),pins:=[],pl:={ nt:=12,cuts:=[(1,[(11,⟨[.tmp 2 (.a (.ptr 128 0)),.tmp 4 (.a (.ptr 256 0)),.box 128 (.cells 35 acC),.box 256 (.cells 35 acC)],[],[]⟩)])] },rfrz:=[],ts:=[12],rc:=[(4,some 35)] }
def od (F:Nat) (x: acE×Int):Option acE :=some (x.1.1,x.1.2.1,x.2,x.1.2.2.2.1,x.1.2.2.2.2.1,x.1.2.2.2.2.2.1,x.1.2.2.2.2.2.2.1,0,x.1.2.2.2.2.2.2.2.2.1,x.1.2.2.2.2.2.2.2.2.2.1,x.1.2.2.2.2.2.2.2.2.2.2.1,[],[],[],())
theorem xF (F:Nat):Ctr TT Tryz.prog 149 (ai TT FH (od F)) :=
 ar F (code:=aj 149) Tryz.func149 ah fun x=>by kernel_rfl
def Gz:Spec Kd:={ params:=[(.agg acC),ac6,ac6,(.agg acO)],ret:=(.tup [(.agg acC),ac6]),pins:=[],pl:={ nt:=33 },rfrz:=[],ts:=[33,34],rc:=[(8,some 35),(9,none)] }
def jH (F:Nat) (x: acE×Int×Int×acS):Option (acE×Int):=(ib F (x.1,x.2.1)).bind fun (v0:Int)=>if (!decide (v0=0))=true then some ((0,[],0,0,0,0,[],0,0,0,[],[],[],[],()),v0) else if decide (x.1.2.2.2.2.2.1=5)=true then some ((0,[],0,0,0,0,[],0,0,0,[],[],[],[],()),10) else (kU F x.2.2.2).bind fun (v1:Int×Int×Int×Int×Int×Int×Unit)=>(oR F (x.2.2.1,v1.2.1)).bind fun (v2:Int)=>some ((x.1.1,x.1.2.1,x.1.2.2.1,x.1.2.2.2.1,x.1.2.2.2.2.1,IntKind.i64.wrap (x.1.2.2.2.2.2.1+1),x.1.2.2.2.2.2.2.1,v2,x.1.2.2.2.2.2.2.2.2),0)
theorem yb (F:Nat):Ctr TT Tryz.prog 81 (ai TT Gz (jH F)) :=
 ar F (code:=aj 81) Tryz.func81 (af (af (af ah (mh F)) (xT F)) (AR F)) fun x=>by kernel_rfl
def B1:Spec Kd:={ params:=[(.agg acC),ac6,ac6,ac8,ac6,(.agg acO)],ret:=(.tup [(.agg acC),ac6]),pins:=[],pl:={ nt:=39,cuts:=[(5,[(13,⟨[.tmp 6 (.a (.ptr 384 0)),.tmp 12 (.a (.ptr 768 0)),.box 384 (.cells 35 acC),.box 768 (.cells 35 acC)],[],[]⟩)])] },rfrz:=[],ts:=[39,40],rc:=[(12,some 35),(13,none)] }
def jj (F:Nat) (x: acE×Int×Int×B8×Int×acS):Option (acE×Int):=(ib F (x.1,x.2.1)).bind fun (v0:Int)=>if (!decide (v0=0))=true then some ((0,[],0,0,0,0,[],0,0,0,[],[],[],[],()),v0) else (od F (x.1,2)).bind fun (v1:Int×B8×Int×Int×Int×Int×B8×Int×Int×Int×B8×B8×B8×B8×Unit)=>((kU F x.2.2.2.2.2).bind fun (v2:Int×Int×Int×Int×Int×Int×Unit)=>(oR F (x.2.2.2.2.1,v2.2.2.1)).bind fun (v3:Int)=>some ((),(),(v1.1,v1.2.1,v1.2.2.1,v1.2.2.2.1,v1.2.2.2.2.1,v1.2.2.2.2.2.1,v1.2.2.2.2.2.2.1,v1.2.2.2.2.2.2.2.1,v3,x.2.2.1,x.2.2.2.1,v1.2.2.2.2.2.2.2.2.2.2.2.1,v1.2.2.2.2.2.2.2.2.2.2.2.2.1,v1.2.2.2.2.2.2.2.2.2.2.2.2.2.1,()),(0,[],0,0,0,0,[],0,0,0,[],[],[],[],()),())).bind fun (v4:Unit×Unit×acE×acE×Unit)=>(dJ F v4.2.2.1).bind fun (v5:Bool)=>if (!v5)=true then some ((0,[],0,0,0,0,[],0,0,0,[],[],[],[],()),1) else some (v4.2.2.1,0)
theorem B3 (F:Nat):Ctr TT Tryz.prog 83 (ai TT B1 (jj F)) :=
 ar F (code:=aj 83) Tryz.func83 (af (af (af (af (af ah (mh F)) (xF F)) (xT F)) (AR F)) (zE F)) fun x=>by kernel_rfl
def FM:Spec Kd:={ params:=[(.agg acC),ac6],ret:=(.tup [(.agg acC),ac6]),pins:=[],pl:={ nt:=16 },rfrz:=[],ts:=[16,17],rc:=[(4,some 35),(5,none)] }
def lC (F:Nat) (x: acE×Int):Option (acE×Int):=(ib F x).bind fun (v0:Int)=>if (!decide (v0=0))=true then some ((0,[],0,0,0,0,[],0,0,0,[],[],[],[],()),v0) else (od F (x.1,3)).bind fun (v1:Int×B8×Int×Int×Int×Int×B8×Int×Int×Int×B8×B8×B8×B8×Unit)=>some (v1,0)
theorem GQ (F:Nat):Ctr TT Tryz.prog 88 (ai TT FM (lC F)) :=
 ar F (code:=aj 88) Tryz.func88 (af (af ah (mh F)) (xF F)) fun x=>by kernel_rfl
def zU:Spec Kd:={ params:=[(.agg acC),ac6,ac6],ret:=(.tup [(.agg acC),ac6]),pins:=[],pl:={ nt:=20 },rfrz:=[],ts:=[20,21],rc:=[(6,some 35),(7,none)] }
def iO (F:Nat) (x: acE×Int×Int):Option (acE×Int):=(ib F (x.1,x.2.1)).bind fun (v0:Int)=>if (!decide (v0=0))=true then some ((0,[],0,0,0,0,[],0,0,0,[],[],[],[],()),v0) else (kC F x.2.2).bind fun (v1:Int)=>some ((x.1.1,x.1.2.1,x.1.2.2.1,x.1.2.2.2.1,x.1.2.2.2.2.1,x.1.2.2.2.2.2.1,x.1.2.2.2.2.2.2.1,v1,x.1.2.2.2.2.2.2.2.2),0)
theorem zM (F:Nat):Ctr TT Tryz.prog 89 (ai TT zU (iO F)) :=
 ar F (code:=aj 89) Tryz.func89 (af (af ah (mh F)) (wi F)) fun x=>by kernel_rfl
end Go.Vm
