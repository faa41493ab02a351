/- Models of functions of the program, and that each keeps its contract: for all arguments of its shape. No condition. -/
import Derived.Test.YtcnigpigmhpakaaGreatDoorKt
import Derived.Test.YtcnigpigmhpakaaGreatDoorFjson
import Derived.Test.YtcnigpigmhpakaaGreatDoorFshp
namespace Go.Vm
open Go.Proofs
set_option linter.unusedVariables false
noncomputable def uT:Spec Kd:={ params := [],ret:=(.one (.a (.slc .str))),pins := [],pl:={ nt:=2 },rfrz := [],ts := [0] }
noncomputable def jc (F:Nat) (x:Unit):Option (List (El .str)):=some [[115,101,110,100],[100,101,108,105,118,101,114],[108,111,115,101],[116,119,105,99,101],[116,105,99,107],[119,111,114,107],[99,114,97,115,104],[115,116,97,114,116],[100,105,115,107],[114,111,116],[98,97,99,107,101,110,100],[115,119,101,101,112],[115,121,110,99],[102,117,115,101]]
theorem oq (F:Nat):Ctr TT Tryz.prog 18 (ak TT uT (jc F)) :=
 aW F (code:=aw 18) Tryz.func18 aq fun x=>by kernel_rfl
noncomputable def wm:Spec Kd:={ params := [(.a (.int .i64))],ret:=(.one (.a (.int .i64))),pins := [],pl:={ nt:=12,joins := [(900008,(.norm,⟨[.tmp 8 (.a .bool)],[],[]⟩),[]),(800008,(.norm,⟨[.tmp 8 (.a .bool)],[],[]⟩),[])] },rfrz := [],ts := [2] }
noncomputable def b8 (F:Nat) (x:(Int)):Option (Int):=if decide (x=9)=true then some 3 else if decide (x=13)=true then some 2 else (if decide (x=7)=true then some (decide (x=7),()) else (if decide (x=11)=true then some (decide (x=11),()) else some (decide (x=12),())).bind fun (v0:Bool×Unit)=>some (v0.1,())).bind fun (v1:Bool×Unit)=>if v1.1=true then some 0 else some 1
theorem pV (F:Nat):Ctr TT Tryz.prog 20 (ak TT wm (b8 F)) :=
 aW F (code:=aw 20) Tryz.func20 aq fun x=>by kernel_rfl
noncomputable def tD:Spec Kd:={ params := [(.a (.int .i64))],ret:=(.tup [(.a .str),(.a .bool)]),pins := [],pl:={ nt:=12,cuts := [(1,[(8,⟨[.tmp 5 (.a .str), .tmp 11 (.a .bool)],[],[]⟩)])] },rfrz := [],ts := [2,3] }
noncomputable def fY (F:Nat) (x:(Int)):Option (B8×(Bool)):=((lJ F x).bind fun (v0:B8)=>if decide (-1000000000000000<x)=true then some (v0,decide (x<1000000000000000),()) else some (v0,false,())).bind fun (v1:B8×Bool×Unit)=>some (v1.1,v1.2.1)
theorem tA (F:Nat):Ctr TT Tryz.prog 19 (ak TT tD (fY F)) :=
 aW F (code:=aw 19) Tryz.func19 (ag aq (uX F)) fun x=>by kernel_rfl
noncomputable def wi:Spec Kd:={ params := [(.a .str)],ret:=(.tup [(.a .str),(.a .bool)]),pins := [],pl:={ nt:=18,cuts := [(2,[(7,⟨[.tmp 11 (.a .str), .tmp 17 (.a .bool)],[],[]⟩)])] },rfrz := [],ts := [2,3] }
noncomputable def jH (F:Nat) (x:B8):Option (B8×(Bool)):=(kJ F x).bind fun (v0:B8×Bool)=>(if v0.2=true then some (v0.1,decide ((↑v0.1.length:Int)≤400),()) else some (v0.1,false,())).bind fun (v1:B8×Bool×Unit)=>some (v1.1,v1.2.1)
theorem wC (F:Nat):Ctr TT Tryz.prog 21 (ak TT wi (jH F)) :=
 aW F (code:=aw 21) Tryz.func21 (ag aq (yj F)) fun x=>by kernel_rfl
noncomputable def kn:Spec Kd:={ params := [(.a (.slc .str)),(.a .str)],ret:=(.one (.a (.int .i64))),pins := [],pl:={ nt:=19,loops := [(0,⟨[.tmp 0 (.a (.slc .str)), .tmp 1 (.a .str), .tmp 7 (.a (.int .i64)), .tmp 8 (.a (.int .i64))],[],[]⟩,(.exit 0,⟨[],[],[]⟩),[(.ret,⟨[.tmp 4 (.a (.int .i64))],[],[]⟩)])] },rfrz := [],ts := [4] }
noncomputable def bz (F:Nat) (v0:(List B8×B8×Int×Int×Unit)):Option ((List B8×B8×Int×Int×Unit) ⊕ (Unit ⊕ Int×Unit)):=if decide (v0.2.2.2.1<v0.2.2.1)=true then (idx v0.1 v0.2.2.2.1).bind fun (v1:B8)=>if decide (v0.2.1=v1)=true then some (Sum.inr (Sum.inr (v0.2.2.2.1,()))) else some (Sum.inl (v0.1,v0.2.1,v0.2.2.1,IntKind.i64.wrap (v0.2.2.2.1+1),())) else some (Sum.inr (Sum.inl ()))
noncomputable def cW (F:Nat) (x:(List (El .str))×B8):Option (Int):=(bS (bz F) F (x.1,x.2,(↑x.1.length:Int),0,())).bind fun (v2:Unit ⊕ Int×Unit)=>eW v2 (fun (v3:Unit)=>some (-1)) fun (v4:Int×Unit)=>some v4.1
theorem kv (F:Nat):Ctr TT Tryz.prog 28 (ak TT kn (cW F)) :=
 aW F (code:=aw 28) Tryz.func28 aq fun x=>by kernel_rfl
noncomputable def uk:Spec Kd:={ params := [(.agg [(.int .i64),(.int .i64),(.int .i64),(.int .i64),(.int .i64),(.int .i64),(.int .i64), .str, .str, .str, .str])],ret:=(.tup [(.a .str),(.a (.int .i64))]),pins := [],pl:={ nt:=130,orc:={ rv := [5,34,58,61,80,83,107,110],gv := [] },joins := [(1800073,(.norm,⟨[.tmp 5 (.a (.rowp 320)), .tmp 6 (.a .bool), .tmp 11 (.a (.ptr 704 0)), .box 320 (.row 9 .str), .box 704 (.cells 23 [(.int .i64),(.int .i64),(.int .i64), .str, .str, .str, .str])],[],[.tmpRow 5 320 9 .str]⟩),[]),(1200057,(.norm,⟨[.tmp 1 (.a (.ptr 64 0)), .tmp 5 (.a (.rowp 320)), .tmp 6 (.a .bool), .tmp 10 (.a .bool), .tmp 41 (.a (.slc .i64)), .tmp 42 (.a (.int .i64)), .tmp 43 (.a (.int .i64)), .box 320 (.row 9 .str), .box 64 (.cells 25 [(.int .i64),(.int .i64),(.int .i64),(.int .i64),(.int .i64),(.int .i64),(.int .i64), .str, .str, .str, .str])],[],[.tmpRow 5 320 9 .str]⟩),[])],loops := [(2,⟨[.tmp 5 (.a (.rowp 320)), .tmp 6 (.a .bool), .tmp 11 (.a (.ptr 704 0)), .tmp 96 (.a (.slc .str)), .tmp 97 (.a (.int .i64)), .tmp 98 (.a (.int .i64)), .box 320 (.row 9 .str), .box 704 (.cells 23 [(.int .i64),(.int .i64),(.int .i64), .str, .str, .str, .str])],[],[.tmpRow 5 320 9 .str]⟩,(.exit 2,⟨[.tmp 5 (.a (.rowp 320)), .tmp 6 (.a .bool), .tmp 11 (.a (.ptr 704 0)), .box 320 (.row 9 .str), .box 704 (.cells 23 [(.int .i64),(.int .i64),(.int .i64), .str, .str, .str, .str])],[],[.tmpRow 5 320 9 .str]⟩),[]),(0,⟨[.tmp 1 (.a (.ptr 64 0)), .tmp 5 (.a (.rowp 320)), .tmp 6 (.a .bool), .tmp 41 (.a (.slc .i64)), .tmp 42 (.a (.int .i64)), .tmp 43 (.a (.int .i64)), .box 320 (.row 9 .str), .box 64 (.cells 25 [(.int .i64),(.int .i64),(.int .i64),(.int .i64),(.int .i64),(.int .i64),(.int .i64), .str, .str, .str, .str])],[],[.tmpRow 5 320 9 .str]⟩,(.exit 0,⟨[.tmp 1 (.a (.ptr 64 0)), .tmp 5 (.a (.rowp 320)), .tmp 6 (.a .bool), .box 320 (.row 9 .str), .box 64 (.cells 25 [(.int .i64),(.int .i64),(.int .i64),(.int .i64),(.int .i64),(.int .i64),(.int .i64), .str, .str, .str, .str])],[],[.tmpRow 5 320 9 .str]⟩),[])],cuts := [(26,[(7,⟨[.tmp 5 (.a (.rowp 320)), .tmp 127 (.a .bool), .box 320 (.row 9 .str)],[],[.tmpRow 5 320 9 .str]⟩)]),(19,[(11,⟨[.tmp 5 (.a (.rowp 320)), .tmp 6 (.a .bool), .tmp 11 (.a (.ptr 704 0)), .tmp 96 (.a (.slc .str)), .tmp 97 (.a (.int .i64)), .tmp 98 (.a (.int .i64)), .box 320 (.row 9 .str), .box 704 (.cells 23 [(.int .i64),(.int .i64),(.int .i64), .str, .str, .str, .str])],[],[.tmpRow 5 320 9 .str]⟩)]),(18,[(8,⟨[.tmp 11 (.a (.ptr 704 0)), .tmp 83 (.a (.rowp 5312)), .tmp 87 (.a .bool), .box 5312 (.row 9 .str), .box 704 (.cells 23 [(.int .i64),(.int .i64),(.int .i64), .str, .str, .str, .str])],[],[.tmpRow 83 5312 9 .str]⟩)]),(2,[(10,⟨[.tmp 1 (.a (.ptr 64 0)), .tmp 4 (.a (.slc .str)), .tmp 28 (.a .bool), .box 64 (.cells 25 [(.int .i64),(.int .i64),(.int .i64),(.int .i64),(.int .i64),(.int .i64),(.int .i64), .str, .str, .str, .str])],[],[]⟩)])] },rfrz := [],ts := [2,3] }
noncomputable def fc (F:Nat) (v3:(Unit ×
        Unit ×
         Bool ×
          List Int ×
           Int ×
            Int×List B8×(Int×Int×Int×Int×Int×Int×Int×B8×B8×B8×B8×Unit)×Unit)):Option ((Unit ×
        Unit ×
         Bool ×
          List Int ×
           Int ×
            Int×List B8×(Int×Int×Int×Int×Int×Int×Int×B8×B8×B8×B8×Unit)×Unit) ⊕ (Unit ×
        Unit ×
         Bool×List B8×(Int×Int×Int×Int×Int×Int×Int×B8×B8×B8×B8×Unit)×Unit)) :=
 if decide (v3.2.2.2.2.2.1<v3.2.2.2.2.1)=true then
         (idx v3.2.2.2.1 v3.2.2.2.2.2.1).bind fun (v4:Int) =>
          (fY F v4).bind fun (v5:B8×Bool) =>
           (b8 F v3.2.2.2.2.2.2.2.1.1).bind fun (v6:Int) =>
            (if decide (v3.2.2.2.2.2.1<v6)=true then
               if decide ((v3.2.2.2.2.2.2.1.length + [v5.1].length) * 16≤140737488355328)=true then
                some ((),(),v3.2.2.1,v5.2,v3.2.2.2.1,v3.2.2.2.2.1,v3.2.2.2.2.2.1,v3.2.2.2.2.2.2.1 ++ [v5.1],v3.2.2.2.2.2.2.2.1,())
               else none
              else some ((),(),v3.2.2.1,decide (v4=0),v3.2.2.2)).bind
             fun
              (v7 :
               Unit ×
                Unit ×
                 Bool ×
                  Bool ×
                   List Int ×
                    Int ×
                     Int ×
                      List B8 ×
                       (Int×Int×Int×Int×Int×Int×Int×B8×B8×B8×B8×Unit)×Unit) =>
             if v7.2.2.1=true then
              some
               (Sum.inl
                ((),(),v7.2.2.2.1,v7.2.2.2.2.1,v7.2.2.2.2.2.1,IntKind.i64.wrap (v7.2.2.2.2.2.2.1+1),v7.2.2.2.2.2.2.2.1,
                  v7.2.2.2.2.2.2.2.2.1,()))
             else
              some
               (Sum.inl
                ((),(),false,v7.2.2.2.2.1,v7.2.2.2.2.2.1,IntKind.i64.wrap (v7.2.2.2.2.2.2.1+1),v7.2.2.2.2.2.2.2.1,v7.2.2.2.2.2.2.2.2.1,
                  ()))
        else some (Sum.inr ((),(),v3.2.2.1,v3.2.2.2.2.2.2.1,v3.2.2.2.2.2.2.2.1,()))
noncomputable def fq (F:Nat) (v11:(Unit ×
              Bool ×
               Unit ×
                List B8 ×
                 Int×Int×List B8×(Int×Int×Int×B8×B8×B8×B8×Unit)×Unit)):Option ((Unit ×
              Bool ×
               Unit ×
                List B8 ×
                 Int×Int×List B8×(Int×Int×Int×B8×B8×B8×B8×Unit)×Unit) ⊕ (Unit×Bool×Unit×List B8×(Int×Int×Int×B8×B8×B8×B8×Unit)×Unit)) :=
 if decide (v11.2.2.2.2.2.1<v11.2.2.2.2.1)=true then
               (idx v11.2.2.2.1 v11.2.2.2.2.2.1).bind fun (v12:B8) =>
                (jH F v12).bind fun (v13:B8×Bool) =>
                 if decide ((v11.2.2.2.2.2.2.1.length + [v13.1].length) * 16≤140737488355328)=true then
                  if v11.2.1=true then
                   some
                    (Sum.inl
                     ((),v13.2,(),v11.2.2.2.1,v11.2.2.2.2.1,IntKind.i64.wrap (v11.2.2.2.2.2.1+1),v11.2.2.2.2.2.2.1 ++ [v13.1],
                       v11.2.2.2.2.2.2.2.1,()))
                  else
                   some
                    (Sum.inl
                     ((),false,(),v11.2.2.2.1,v11.2.2.2.2.1,IntKind.i64.wrap (v11.2.2.2.2.2.1+1),v11.2.2.2.2.2.2.1 ++ [v13.1],
                       v11.2.2.2.2.2.2.2.1,()))
                 else none
              else some (Sum.inr ((),v11.2.1,(),v11.2.2.2.2.2.2.1,v11.2.2.2.2.2.2.2.1,()))
noncomputable def eS (F:Nat) (x:((Int)×(Int)×(Int)×(Int)×(Int)×(Int)×(Int)×B8×B8×B8×B8×Unit)):Option (B8×(Int)):=(jc F ()).bind fun (v0:List B8)=>(if decide (x.1<0)=false then some ((),v0,decide ((↑v0.length:Int)≤x.1),x,()) else some ((),v0,true,x,())).bind fun (v1:Unit×List B8×Bool×(Int×Int×Int×Int×Int×Int×Int×B8×B8×B8×B8×Unit)×Unit)=>if v1.2.2.1=true then some ([],1) else (idx v1.2.1 v1.2.2.2.1.1).bind fun (v2:B8)=>(bS (fc F) F ((),(),true,[v1.2.2.2.1.2.1,v1.2.2.2.1.2.2.1,v1.2.2.2.1.2.2.2.1],(↑[v1.2.2.2.1.2.1,v1.2.2.2.1.2.2.1,v1.2.2.2.1.2.2.2.1].length:Int),0,[v2],v1.2.2.2.1,())).bind fun (v8:Unit×Unit×Bool×List B8×(Int×Int×Int×Int×Int×Int×Int×B8×B8×B8×B8×Unit)×Unit)=>(if decide (v8.2.2.2.2.1.1=0)=true then (fY F v8.2.2.2.2.1.2.2.2.2.2.2.1).bind fun (v9:B8×Bool)=>(if decide ((v8.2.2.2.1.length + [v9.1].length) * 16≤140737488355328)=true then if v8.2.2.1=true then some ((),(),v9.2,v8.2.2.2.1 ++ [v9.1],v8.2.2.2.2.1.2.2.2.2,()) else some ((),(),false,v8.2.2.2.1 ++ [v9.1],v8.2.2.2.2.1.2.2.2.2,()) else none).bind fun (v10:Unit×Unit×Bool×List B8×(Int×Int×Int×B8×B8×B8×B8×Unit)×Unit)=>(bS (fq F) F ((),v10.2.2.1,(),[v10.2.2.2.2.1.2.2.2.1,v10.2.2.2.2.1.2.2.2.2.1,v10.2.2.2.2.1.2.2.2.2.2.1,v10.2.2.2.2.1.2.2.2.2.2.2.1],(↑[v10.2.2.2.2.1.2.2.2.1,v10.2.2.2.2.1.2.2.2.2.1,v10.2.2.2.2.1.2.2.2.2.2.1,v10.2.2.2.2.1.2.2.2.2.2.2.1].length:Int),0,v10.2.2.2.1,v10.2.2.2.2.1,())).bind fun (v14:Unit×Bool×Unit×List B8×(Int×Int×Int×B8×B8×B8×B8×Unit)×Unit)=>some ((),v14.2.1,(),v14.2.2.2.1,(v14.2.2.2.2.1.1,v14.2.2.2.2.1.2.1,0,[],[],[],[],()),()) else some ((),v8.2.2.1,(),v8.2.2.2.1,v8.2.2.2.2.1.2.2.2.2,())).bind fun (v15:Unit×Bool×Unit×List B8×(Int×Int×Int×B8×B8×B8×B8×Unit)×Unit)=>(if (!v15.2.1)=false then some ((), !(decide (v15.2.2.2.2.1.1=0) && (decide (v15.2.2.2.2.1.2.1=0) && (decide (v15.2.2.2.2.1.2.2.1=0) && (decide (v15.2.2.2.2.1.2.2.2.1 = []) && (decide (v15.2.2.2.2.1.2.2.2.2.1 = []) && (decide (v15.2.2.2.2.1.2.2.2.2.2.1 = []) && (decide (v15.2.2.2.2.1.2.2.2.2.2.2.1 = []) && true))))))),v15.2.2.2.1,()) else some ((),true,v15.2.2.2.1,())).bind fun (v16:Unit×Bool×List B8×Unit)=>if v16.2.1=true then some ([],1) else (fE F (v16.2.2.1,[32])).bind fun (v17:B8)=>some (v17,0)
theorem jb (F:Nat):Ctr TT Tryz.prog 9 (ak TT uk (eS F)) :=
 aW F (code:=aw 9) Tryz.func9 (ag (ag (ag (ag (ag aq (oq F)) (tA F)) (pV F)) (wC F)) (u6 F)) fun x=>by kernel_rfl
noncomputable def yM:Spec Kd:={ params := [(.a .str)],ret:=(.one (.a (.row 9 .str))),pins := [],pl:={ nt:=53,orc:={ rv := [2,3,37,43,47,52],gv := [] },bjoins := [(1,(.norm,⟨[.tmp 0 (.a .str), .tmp 3 (.a (.rowp 192)), .tmp 4 (.a (.int .i64)), .tmp 5 (.a .bool), .tmp 6 (.a .bool), .tmp 10 (.a (.int .i64)), .tmp 11 (.a (.int .i64)), .box 192 (.row 9 .str)],[],[.tmpRow 3 192 9 .str]⟩),[])],loops := [(0,⟨[.tmp 0 (.a .str), .tmp 3 (.a (.rowp 192)), .tmp 4 (.a (.int .i64)), .tmp 5 (.a .bool), .tmp 6 (.a .bool), .tmp 10 (.a (.int .i64)), .tmp 11 (.a (.int .i64)), .box 192 (.row 9 .str)],[],[.tmpRow 3 192 9 .str]⟩,(.exit 0,⟨[.tmp 0 (.a .str), .tmp 3 (.a (.rowp 192)), .tmp 4 (.a (.int .i64)), .box 192 (.row 9 .str)],[],[.tmpRow 3 192 9 .str]⟩),[])],cuts := [(13,[(6,⟨[.tmp 0 (.a .str), .tmp 3 (.a (.rowp 192)), .tmp 4 (.a (.int .i64)), .tmp 5 (.a .bool), .tmp 6 (.a .bool), .tmp 7 (.a (.int .i64)), .tmp 10 (.a (.int .i64)), .tmp 11 (.a (.int .i64)), .tmp 36 (.a .bool), .box 192 (.row 9 .str)],[],[.tmpRow 3 192 9 .str]⟩)]),(9,[(5,⟨[.tmp 0 (.a .str), .tmp 3 (.a (.rowp 192)), .tmp 4 (.a (.int .i64)), .tmp 5 (.a .bool), .tmp 6 (.a .bool), .tmp 7 (.a (.int .i64)), .tmp 8 (.a (.int .u8)), .tmp 10 (.a (.int .i64)), .tmp 11 (.a (.int .i64)), .tmp 24 (.a .bool), .box 192 (.row 9 .str)],[],[.tmpRow 3 192 9 .str]⟩)])] },rfrz := [],ts := [2] }
noncomputable def fQ (F:Nat) (v0:(B8×Unit×Int×Bool×Bool×Int×Int×List B8×Unit)):Option ((B8×Unit×Int×Bool×Bool×Int×Int×List B8×Unit) ⊕ (B8×Unit×Int×List B8×Unit)):=if decide (v0.2.2.2.2.2.2.1<v0.2.2.2.2.2.1)=true then ((idx v0.1 v0.2.2.2.2.2.2.1).bind fun (v1:UInt8)=>if v0.2.2.2.2.1=true then some (v0.1,(),v0.2.2.1,v0.2.2.2.1,false,v0.2.2.2.2.2.1,v0.2.2.2.2.2.2.1,v0.2.2.2.2.2.2.2.1,()) else (if v0.2.2.2.1=true then some (v0.1,(),v0.2.2.1,v0.2.2.2.1,v0.2.2.2.2.1,v0.2.2.2.2.2.2.1,(↑v1.toNat:Int),v0.2.2.2.2.2.1,v0.2.2.2.2.2.2.1,decide ((↑v1.toNat:Int)=92),v0.2.2.2.2.2.2.2.1,()) else some (v0.1,(),v0.2.2.1,v0.2.2.2.1,v0.2.2.2.2.1,v0.2.2.2.2.2.2.1,(↑v1.toNat:Int),v0.2.2.2.2.2.1,v0.2.2.2.2.2.2.1,false,v0.2.2.2.2.2.2.2.1,())).bind fun (v2:B8×Unit×Int×Bool×Bool×Int×Int×Int×Int×Bool×List B8×Unit)=>if v2.2.2.2.2.2.2.2.2.2.1=true then some (v2.1,(),v2.2.2.1,v2.2.2.2.1,true,v2.2.2.2.2.2.2.2.1,v2.2.2.2.2.2.2.2.2.1,v2.2.2.2.2.2.2.2.2.2.2.1,()) else if decide (v2.2.2.2.2.2.2.1=34)=true then some (v2.1,(),v2.2.2.1, !v2.2.2.2.1,v2.2.2.2.2.1,v2.2.2.2.2.2.2.2.1,v2.2.2.2.2.2.2.2.2.1,v2.2.2.2.2.2.2.2.2.2.2.1,()) else (if decide (v2.2.2.2.2.2.2.1=32)=true then some (v2.1,(),v2.2.2.1,v2.2.2.2.1,v2.2.2.2.2.1,v2.2.2.2.2.2.1,v2.2.2.2.2.2.2.2.1,v2.2.2.2.2.2.2.2.2.1, !v2.2.2.2.1,v2.2.2.2.2.2.2.2.2.2.2.1,()) else some (v2.1,(),v2.2.2.1,v2.2.2.2.1,v2.2.2.2.2.1,v2.2.2.2.2.2.1,v2.2.2.2.2.2.2.2.1,v2.2.2.2.2.2.2.2.2.1,false,v2.2.2.2.2.2.2.2.2.2.2.1,())).bind fun (v3:B8×Unit×Int×Bool×Bool×Int×Int×Int×Bool×List B8×Unit)=>if v3.2.2.2.2.2.2.2.2.1=true then (sub v3.1 v3.2.2.1 v3.2.2.2.2.2.1).bind fun (v4:B8)=>if decide ((v3.2.2.2.2.2.2.2.2.2.1.length + [v4].length) * 16≤140737488355328)=true then some (v3.1,(),IntKind.i64.wrap (v3.2.2.2.2.2.1+1),v3.2.2.2.1,v3.2.2.2.2.1,v3.2.2.2.2.2.2.1,v3.2.2.2.2.2.2.2.1,v3.2.2.2.2.2.2.2.2.2.1 ++ [v4],()) else none else some (v3.1,(),v3.2.2.1,v3.2.2.2.1,v3.2.2.2.2.1,v3.2.2.2.2.2.2.1,v3.2.2.2.2.2.2.2.1,v3.2.2.2.2.2.2.2.2.2.1,())).bind fun (v5:B8×Unit×Int×Bool×Bool×Int×Int×List B8×Unit)=>some (Sum.inl (v5.1,(),v5.2.2.1,v5.2.2.2.1,v5.2.2.2.2.1,v5.2.2.2.2.2.1,IntKind.i64.wrap (v5.2.2.2.2.2.2.1+1),v5.2.2.2.2.2.2.2.1,())) else some (Sum.inr (v0.1,(),v0.2.2.1,v0.2.2.2.2.2.2.2.1,()))
noncomputable def kO (F:Nat) (x:B8):Option (List (El .str)):=(bS (fQ F) F (x,(),0,false,false,(↑x.length:Int),0,[],())).bind fun (v6:B8×Unit×Int×List B8×Unit)=>(sub v6.1 v6.2.2.1 (↑v6.1.length:Int)).bind fun (v7:B8)=>if decide ((v6.2.2.2.1.length + [v7].length) * 16≤140737488355328)=true then some (v6.2.2.2.1 ++ [v7]) else none
theorem yx (F:Nat):Ctr TT Tryz.prog 27 (ak TT yM (kO F)) :=
 aW F (code:=aw 27) Tryz.func27 aq fun x=>by kernel_rfl
noncomputable def uD:Spec Kd:={ params := [(.a .str)],ret:=(.tup [(.agg [(.int .i64),(.int .i64),(.int .i64),(.int .i64),(.int .i64),(.int .i64),(.int .i64), .str, .str, .str, .str]),(.a (.int .i64))]),pins := [],pl:={ nt:=112,orc:={ rv := [67],gv := [],pr := [18] },joins := [(2500085,(.norm,⟨[.tmp 0 (.a .str), .tmp 2 (.a (.ptr 128 0)), .tmp 11 (.a (.ptr 704 0)), .box 128 (.cells 25 [(.int .i64),(.int .i64),(.int .i64),(.int .i64),(.int .i64),(.int .i64),(.int .i64), .str, .str, .str, .str]), .box 704 (.cells 25 [(.int .i64),(.int .i64),(.int .i64),(.int .i64),(.int .i64),(.int .i64),(.int .i64), .str, .str, .str, .str])],[1088],[]⟩),[]),(600026,(.norm,⟨[.tmp 0 (.a .str), .tmp 2 (.a (.ptr 128 0)), .tmp 4 (.a (.slc .str)), .tmp 5 (.a (.int .i64)), .tmp 6 (.a (.int .i64)), .box 128 (.cells 25 [(.int .i64),(.int .i64),(.int .i64),(.int .i64),(.int .i64),(.int .i64),(.int .i64), .str, .str, .str, .str])],[1088],[]⟩),[])],bjoins := [(2,(.norm,⟨[.tmp 0 (.a .str), .tmp 2 (.a (.ptr 128 0)), .tmp 5 (.a (.int .i64)), .tmp 7 (.a (.ptr 448 0)), .tmp 8 (.a (.ptr 512 0)), .tmp 11 (.a (.ptr 704 0)), .box 128 (.cells 25 [(.int .i64),(.int .i64),(.int .i64),(.int .i64),(.int .i64),(.int .i64),(.int .i64), .str, .str, .str, .str]), .box 448 (.arr 58 6 .i64), .box 512 (.arr 59 6 .str), .box 704 (.cells 25 [(.int .i64),(.int .i64),(.int .i64),(.int .i64),(.int .i64),(.int .i64),(.int .i64), .str, .str, .str, .str])],[1088],[]⟩),[])],loops := [(0,⟨[.tmp 0 (.a .str), .tmp 2 (.a (.ptr 128 0)), .tmp 5 (.a (.int .i64)), .tmp 7 (.a (.ptr 448 0)), .tmp 8 (.a (.ptr 512 0)), .tmp 40 (.a (.slc .str)), .tmp 41 (.a (.int .i64)), .tmp 42 (.a (.int .i64)), .box 128 (.cells 25 [(.int .i64),(.int .i64),(.int .i64),(.int .i64),(.int .i64),(.int .i64),(.int .i64), .str, .str, .str, .str]), .box 448 (.arr 58 6 .i64), .box 512 (.arr 59 6 .str)],[1088],[]⟩,(.exit 0,⟨[.tmp 0 (.a .str), .tmp 2 (.a (.ptr 128 0)), .tmp 5 (.a (.int .i64)), .tmp 7 (.a (.ptr 448 0)), .tmp 8 (.a (.ptr 512 0)), .box 128 (.cells 25 [(.int .i64),(.int .i64),(.int .i64),(.int .i64),(.int .i64),(.int .i64),(.int .i64), .str, .str, .str, .str]), .box 448 (.arr 58 6 .i64), .box 512 (.arr 59 6 .str)],[1088],[]⟩),[])],cuts := [(26,[(7,⟨[.tmp 2 (.a (.ptr 128 0)), .tmp 11 (.a (.ptr 704 0)), .tmp 109 (.a .bool), .box 128 (.cells 25 [(.int .i64),(.int .i64),(.int .i64),(.int .i64),(.int .i64),(.int .i64),(.int .i64), .str, .str, .str, .str]), .box 704 (.cells 25 [(.int .i64),(.int .i64),(.int .i64),(.int .i64),(.int .i64),(.int .i64),(.int .i64), .str, .str, .str, .str])],[1088],[]⟩)]),(24,[(13,⟨[.tmp 0 (.a .str), .tmp 2 (.a (.ptr 128 0)), .tmp 11 (.a (.ptr 704 0)), .box 128 (.cells 25 [(.int .i64),(.int .i64),(.int .i64),(.int .i64),(.int .i64),(.int .i64),(.int .i64), .str, .str, .str, .str]), .box 704 (.cells 25 [(.int .i64),(.int .i64),(.int .i64),(.int .i64),(.int .i64),(.int .i64),(.int .i64), .str, .str, .str, .str])],[1088],[]⟩)]),(6,[(9,⟨[.tmp 0 (.a .str), .tmp 2 (.a (.ptr 128 0)), .tmp 4 (.a (.slc .str)), .tmp 5 (.a (.int .i64)), .tmp 37 (.a .bool), .box 128 (.cells 25 [(.int .i64),(.int .i64),(.int .i64),(.int .i64),(.int .i64),(.int .i64),(.int .i64), .str, .str, .str, .str])],[1088],[]⟩)])],unr:=6 },rfrz := [],ts := [112,113],rc := [(2,some 25),(3,none)] }
noncomputable def gn (F:Nat) (v8:(B8 ×
             Unit ×
              Int ×
               Unit ×
                Unit ×
                 List B8 ×
                  Int ×
                   Int ×
                    (Int×Int×Int×Int×Int×Int×Int×B8×B8×B8×B8×Unit) ×
                     List Int×List B8×Unit)):Option ((B8 ×
             Unit ×
              Int ×
               Unit ×
                Unit ×
                 List B8 ×
                  Int ×
                   Int ×
                    (Int×Int×Int×Int×Int×Int×Int×B8×B8×B8×B8×Unit) ×
                     List Int×List B8×Unit) ⊕ (B8 ×
             Unit ×
              Int ×
               Unit ×
                Unit ×
                 (Int×Int×Int×Int×Int×Int×Int×B8×B8×B8×B8×Unit) ×
                  List Int×List B8×Unit)) :=
 if decide (v8.2.2.2.2.2.2.2.1<v8.2.2.2.2.2.2.1)=true then
              (idx v8.2.2.2.2.2.1 v8.2.2.2.2.2.2.2.1).bind fun (v9:B8) =>
               (jM F v9).bind fun (v10:Int×Bool) =>
                if (decide (0≤v8.2.2.2.2.2.2.2.1) && decide (v8.2.2.2.2.2.2.2.1<6))=true then
                 (sx v8.2.2.2.2.2.2.2.2.2.1 v8.2.2.2.2.2.2.2.1.toNat v10.1).bind fun (v11:List Int) =>
                  (mf F v9).bind fun (v12:B8×Bool) =>
                   if (decide (0≤v8.2.2.2.2.2.2.2.1) && decide (v8.2.2.2.2.2.2.2.1<6))=true then
                    (sx v8.2.2.2.2.2.2.2.2.2.2.1 v8.2.2.2.2.2.2.2.1.toNat v12.1).bind fun (v13:List B8) =>
                     some
                      (Sum.inl
                       (v8.1,(),v8.2.2.1,(),(),v8.2.2.2.2.2.1,v8.2.2.2.2.2.2.1,IntKind.i64.wrap (v8.2.2.2.2.2.2.2.1+1),
                        v8.2.2.2.2.2.2.2.2.1,v11,v13,()))
                   else none
                else none
             else some (Sum.inr (v8.1,(),v8.2.2.1,(),(),v8.2.2.2.2.2.2.2.2.1,v8.2.2.2.2.2.2.2.2.2.1,v8.2.2.2.2.2.2.2.2.2.2.1,()))
noncomputable def eU (F:Nat) (x:B8):Option (((Int)×(Int)×(Int)×(Int)×(Int)×(Int)×(Int)×B8×B8×B8×B8×Unit)×(Int)):=(kO F x).bind fun (v0:List B8)=>(jc F ()).bind fun (v1:List B8)=>(idx v0 0).bind fun (v2:B8)=>(cW F (v1,v2)).bind fun (v3:Int)=>(b8 F v3).bind fun (v4:Int)=>(if decide (v3=0)=true then some (x,(),v0,v3,IntKind.i64.wrap (v4+5),(0,0,0,0,0,0,0,[],[],[],[],()),()) else some (x,(),v0,v3,v4,(0,0,0,0,0,0,0,[],[],[],[],()),())).bind fun (v5:B8×Unit×List B8×Int×Int×(Int×Int×Int×Int×Int×Int×Int×B8×B8×B8×B8×Unit)×Unit)=>(if decide (v5.2.2.2.1<0)=false then some (v5.1,(),v5.2.2.1,v5.2.2.2.1, !decide ((↑v5.2.2.1.length:Int)=IntKind.i64.wrap (v5.2.2.2.2.1+1)),v5.2.2.2.2.2.1,()) else some (v5.1,(),v5.2.2.1,v5.2.2.2.1,true,v5.2.2.2.2.2.1,())).bind fun (v6:B8×Unit×List B8×Int×Bool×(Int×Int×Int×Int×Int×Int×Int×B8×B8×B8×B8×Unit)×Unit)=>if v6.2.2.2.2.1=true then some ((0,0,0,0,0,0,0,[],[],[],[],()),3) else (sub v6.2.2.1 1 (↑v6.2.2.1.length:Int)).bind fun (v7:List B8)=>(bS (gn F) F (v6.1,(),v6.2.2.2.1,(),(),v7,(↑v7.length:Int),0,v6.2.2.2.2.2.1,[0,0,0,0,0,0],[[],[],[],[],[],[]],())).bind fun (v14:B8×Unit×Int×Unit×Unit×(Int×Int×Int×Int×Int×Int×Int×B8×B8×B8×B8×Unit)×List Int×List B8×Unit)=>((b8 F v14.2.2.1).bind fun (v15:Int)=>if decide (0<v15)=true then (jw v14.2.2.2.2.2.2.1 0).bind fun (v16:Int)=>(b8 F v14.2.2.1).bind fun (v17:Int)=>if decide (IntKind.i64.wrap (0+1)<v17)=true then (jw v14.2.2.2.2.2.2.1 1).bind fun (v18:Int)=>(b8 F v14.2.2.1).bind fun (v19:Int)=>if decide (IntKind.i64.wrap (IntKind.i64.wrap (0+1)+1)<v19)=true then (jw v14.2.2.2.2.2.2.1 2).bind fun (v20:Int)=>some (v14.1,(),v14.2.2.1,(),(),(),v14.2.2.2.2.2.1,v14.2.2.2.2.2.2.1,v14.2.2.2.2.2.2.2.1,(v14.2.2.1,v16,v18,v20,0,0,0,[],[],[],[],()),()) else some (v14.1,(),v14.2.2.1,(),(),(),v14.2.2.2.2.2.1,v14.2.2.2.2.2.2.1,v14.2.2.2.2.2.2.2.1,(v14.2.2.1,v16,v18,0,0,0,0,[],[],[],[],()),()) else (b8 F v14.2.2.1).bind fun (v21:Int)=>if decide (IntKind.i64.wrap (IntKind.i64.wrap (0+1)+1)<v21)=true then (jw v14.2.2.2.2.2.2.1 2).bind fun (v22:Int)=>some (v14.1,(),v14.2.2.1,(),(),(),v14.2.2.2.2.2.1,v14.2.2.2.2.2.2.1,v14.2.2.2.2.2.2.2.1,(v14.2.2.1,v16,0,v22,0,0,0,[],[],[],[],()),()) else some (v14.1,(),v14.2.2.1,(),(),(),v14.2.2.2.2.2.1,v14.2.2.2.2.2.2.1,v14.2.2.2.2.2.2.2.1,(v14.2.2.1,v16,0,0,0,0,0,[],[],[],[],()),()) else (b8 F v14.2.2.1).bind fun (v23:Int)=>if decide (IntKind.i64.wrap (0+1)<v23)=true then (jw v14.2.2.2.2.2.2.1 1).bind fun (v24:Int)=>(b8 F v14.2.2.1).bind fun (v25:Int)=>if decide (IntKind.i64.wrap (IntKind.i64.wrap (0+1)+1)<v25)=true then (jw v14.2.2.2.2.2.2.1 2).bind fun (v26:Int)=>some (v14.1,(),v14.2.2.1,(),(),(),v14.2.2.2.2.2.1,v14.2.2.2.2.2.2.1,v14.2.2.2.2.2.2.2.1,(v14.2.2.1,0,v24,v26,0,0,0,[],[],[],[],()),()) else some (v14.1,(),v14.2.2.1,(),(),(),v14.2.2.2.2.2.1,v14.2.2.2.2.2.2.1,v14.2.2.2.2.2.2.2.1,(v14.2.2.1,0,v24,0,0,0,0,[],[],[],[],()),()) else (b8 F v14.2.2.1).bind fun (v27:Int)=>if decide (IntKind.i64.wrap (IntKind.i64.wrap (0+1)+1)<v27)=true then (jw v14.2.2.2.2.2.2.1 2).bind fun (v28:Int)=>some (v14.1,(),v14.2.2.1,(),(),(),v14.2.2.2.2.2.1,v14.2.2.2.2.2.2.1,v14.2.2.2.2.2.2.2.1,(v14.2.2.1,0,0,v28,0,0,0,[],[],[],[],()),()) else some (v14.1,(),v14.2.2.1,(),(),(),v14.2.2.2.2.2.1,v14.2.2.2.2.2.2.1,v14.2.2.2.2.2.2.2.1,(v14.2.2.1,0,0,0,0,0,0,[],[],[],[],()),())).bind fun (v29:B8×Unit×Int×Unit×Unit×Unit×(Int×Int×Int×Int×Int×Int×Int×B8×B8×B8×B8×Unit)×List Int×List B8×(Int×Int×Int×Int×Int×Int×Int×B8×B8×B8×B8×Unit)×Unit)=>(if decide (v29.2.2.1=0)=true then ((jw v29.2.2.2.2.2.2.2.1 1).bind fun (v30:Int)=>(jw v29.2.2.2.2.2.2.2.2.1 2).bind fun (v31:B8)=>(jw v29.2.2.2.2.2.2.2.2.1 3).bind fun (v32:B8)=>(jw v29.2.2.2.2.2.2.2.2.1 4).bind fun (v33:B8)=>(jw v29.2.2.2.2.2.2.2.2.1 5).bind fun (v34:B8)=>some (v29.1,(),(),v29.2.2.2.2.2.2.1,(v29.2.2.2.2.2.2.2.2.2.1.1,v29.2.2.2.2.2.2.2.2.2.1.2.1,v29.2.2.2.2.2.2.2.2.2.1.2.2.1,v29.2.2.2.2.2.2.2.2.2.1.2.2.2.1,0,0,v30,v31,v32,v33,v34,()),())).bind fun (v35:B8×Unit×Unit×(Int×Int×Int×Int×Int×Int×Int×B8×B8×B8×B8×Unit)×(Int×Int×Int×Int×Int×Int×Int×B8×B8×B8×B8×Unit)×Unit)=>some v35 else some (v29.1,(),(),v29.2.2.2.2.2.2.1,v29.2.2.2.2.2.2.2.2.2.1,())).bind fun (v36:B8×Unit×Unit×(Int×Int×Int×Int×Int×Int×Int×B8×B8×B8×B8×Unit)×(Int×Int×Int×Int×Int×Int×Int×B8×B8×B8×B8×Unit)×Unit)=>(eS F v36.2.2.2.2.1).bind fun (v37:B8×Int)=>(if (!decide (v37.2=0))=false then some ((),(), !decide (v37.1=v36.1),v36.2.2.2.1,v36.2.2.2.2.1,()) else some ((),(),true,v36.2.2.2.1,v36.2.2.2.2.1,())).bind fun (v38:Unit×Unit×Bool×(Int×Int×Int×Int×Int×Int×Int×B8×B8×B8×B8×Unit)×(Int×Int×Int×Int×Int×Int×Int×B8×B8×B8×B8×Unit)×Unit)=>if v38.2.2.1=true then some ((0,0,0,0,0,0,0,[],[],[],[],()),3) else some (v38.2.2.2.2.1,0)
theorem jn (F:Nat):Ctr TT Tryz.prog 11 (ak TT uD (eU F)) :=
 aW F (code:=aw 11) Tryz.func11 (ag (ag (ag (ag (ag (ag (ag aq (yx F)) (oq F)) (kv F)) (pV F)) (wb F)) (Ah F)) (jb F)) fun x=>by kernel_rfl
noncomputable def um:Spec Kd:={ params := [(.a (.slc .ac))],ret:=(.tup [(.a .str),(.a (.int .i64))]),pins := [],pl:={ nt:=28,loops := [(0,⟨[.tmp 4 (.a (.ptr 256 0)), .tmp 9 (.a (.slc .ac)), .tmp 10 (.a (.int .i64)), .tmp 11 (.a (.int .i64)), .box 256 (.cells 78 [(.argp 256),(.rowp 1016385)]), .box 1016385 (.row 5 .u8)],[],[.cellSelf 256 0, .cellRow 256 1 1016385 5 .u8]⟩,(.exit 0,⟨[.tmp 4 (.a (.ptr 256 0)), .box 256 (.cells 78 [(.argp 256),(.rowp 1016385)]), .box 1016385 (.row 5 .u8)],[],[.cellSelf 256 0, .cellRow 256 1 1016385 5 .u8]⟩),[(.ret,⟨[.tmp 2 (.a .str), .tmp 3 (.a (.int .i64))],[],[]⟩)])] },rfrz := [],ts := [2,3] }
noncomputable def fg (F:Nat) (v0:(Unit ×
    List (Int×Int×Int×Int×Int×Int×Int×B8×B8×B8×B8×Unit) ×
     Int×Int×(Unit×Unit×Unit)×B8×Unit)):Option ((Unit ×
    List (Int×Int×Int×Int×Int×Int×Int×B8×B8×B8×B8×Unit) ×
     Int×Int×(Unit×Unit×Unit)×B8×Unit) ⊕ (Unit×(Unit×Unit×Unit)×B8×Unit ⊕ B8×Int×Unit)) :=
 if decide (v0.2.2.2.1<v0.2.2.1)=true then
     (idx v0.2.1 v0.2.2.2.1).bind fun (v1:Int×Int×Int×Int×Int×Int×Int×B8×B8×B8×B8×Unit) =>
      (eS F v1).bind fun (v2:B8×Int) =>
       if (!decide (v2.2=0))=true then some (Sum.inr (Sum.inr ([],v2.2,())))
       else
        if decide (v2.1.length + [10].length≤9223372036854775807)=true then
         (dX F (((),v0.2.2.2.2.2.1,()),v2.1 ++ [10])).bind fun (v3:(Int×Unit)×Unit×B8×Unit) =>
          some (Sum.inl ((),v0.2.1,v0.2.2.1,IntKind.i64.wrap (v0.2.2.2.1+1),((),(),()),v3.2.2.1,()))
        else none
    else some (Sum.inr (Sum.inl ((),((),(),()),v0.2.2.2.2.2.1,())))
noncomputable def fI (F:Nat) (x:(List (El .ac))):Option (B8×(Int)):=(bS (fg F) F ((),x,(↑x.length:Int),0,((),(),()),[],())).bind fun (v4:Unit×(Unit×Unit×Unit)×B8×Unit ⊕ B8×Int×Unit)=>eW v4 (fun (v5:Unit×(Unit×Unit×Unit)×B8×Unit)=>(dU F ((),v5.2.2.1,())).bind fun (v6:B8×Unit×Unit×Unit)=>some (v6.1,0)) fun (v7:B8×Int×Unit)=>some (v7.1,v7.2.1)
theorem ur (F:Nat):Ctr TT Tryz.prog 17 (ak TT um (fI F)) :=
 aW F (code:=aw 17) Tryz.func17 (ag (ag (ag aq (jb F)) (jX F)) (iq F)) fun x=>by kernel_rfl
noncomputable def wo:Spec Kd:={ params := [(.a .str)],ret:=(.tup [(.a (.row 25 .ac)),(.a (.int .i64)),(.a (.int .i64))]),pins := [],pl:={ nt:=41,orc:={ rv := [2,5,33,35,38,40],gv := [] },loops := [(0,⟨[.tmp 0 (.a .str), .tmp 5 (.a (.rowp 320)), .tmp 6 (.a (.int .i64)), .box 320 (.row 25 .ac)],[],[.tmpRow 5 320 25 .ac]⟩,(.exit 0,⟨[.tmp 5 (.a (.rowp 320)), .box 320 (.row 25 .ac)],[],[.tmpRow 5 320 25 .ac]⟩),[(.ret,⟨[.tmp 2 (.a (.rowp 128)), .tmp 3 (.a (.int .i64)), .tmp 4 (.a (.int .i64)), .box 128 (.row 25 .ac)],[],[.tmpRow 2 128 25 .ac]⟩)])],cuts := [(7,[(6,⟨[.tmp 5 (.a (.rowp 320)), .tmp 6 (.a (.int .i64)), .tmp 8 (.a .str), .tmp 10 (.a (.ptr 640 0)), .tmp 32 (.a .bool), .box 320 (.row 25 .ac), .box 640 (.cells 25 [(.int .i64),(.int .i64),(.int .i64),(.int .i64),(.int .i64),(.int .i64),(.int .i64), .str, .str, .str, .str])],[],[.tmpRow 5 320 25 .ac]⟩)])] },rfrz := [],ts := [2,3,4] }
noncomputable def eH (F:Nat) (v0:(B8×Unit×Int×List (Int×Int×Int×Int×Int×Int×Int×B8×B8×B8×B8×Unit)×Unit)):Option ((B8×Unit×Int×List (Int×Int×Int×Int×Int×Int×Int×B8×B8×B8×B8×Unit)×Unit) ⊕ (Unit×List (Int×Int×Int×Int×Int×Int×Int×B8×B8×B8×B8×Unit)×Unit ⊕
    Unit×Int×Int×List (Int×Int×Int×Int×Int×Int×Int×B8×B8×B8×B8×Unit)×Unit)) :=
 if (!decide (v0.1 = []))=true then
     (jP F (v0.1,[10])).bind fun (v1:B8×B8×Bool) =>
      (eU F v1.1).bind
       fun (v2:(Int×Int×Int×Int×Int×Int×Int×B8×B8×B8×B8×Unit)×Int) =>
       (if (!v1.2.2)=false then some ((),v0.2.2.1,v1.2.1,(), !decide (v2.2=0),v0.2.2.2.1,v2.1,())
         else some ((),v0.2.2.1,v1.2.1,(),true,v0.2.2.2.1,v2.1,())).bind
        fun
         (v3 :
          Unit ×
           Int ×
            B8 ×
             Unit ×
              Bool ×
               List (Int×Int×Int×Int×Int×Int×Int×B8×B8×B8×B8×Unit) ×
                (Int×Int×Int×Int×Int×Int×Int×B8×B8×B8×B8×Unit)×Unit) =>
        if v3.2.2.2.2.1=true then some (Sum.inr (Sum.inr ((),v3.2.1,3,v3.2.2.2.2.2.1,())))
        else
         if decide ((v3.2.2.2.2.2.1.length + [v3.2.2.2.2.2.2.1].length) * 120≤140737488355328)=true then
          some (Sum.inl (v3.2.2.1,(),IntKind.i64.wrap (v3.2.1+1),v3.2.2.2.2.2.1 ++ [v3.2.2.2.2.2.2.1],()))
         else none
    else some (Sum.inr (Sum.inl ((),v0.2.2.2.1,())))
noncomputable def ix (F:Nat) (x:B8):Option ((List (El .ac))×(Int)×(Int)):=(bS (eH F) F (x,(),1,[],())).bind fun (v4:Unit×List (Int×Int×Int×Int×Int×Int×Int×B8×B8×B8×B8×Unit)×Unit ⊕ Unit×Int×Int×List (Int×Int×Int×Int×Int×Int×Int×B8×B8×B8×B8×Unit)×Unit)=>eW v4 (fun (v5:Unit×List (Int×Int×Int×Int×Int×Int×Int×B8×B8×B8×B8×Unit)×Unit)=>some (v5.2.1,0,0)) fun (v6:Unit×Int×Int×List (Int×Int×Int×Int×Int×Int×Int×B8×B8×B8×B8×Unit)×Unit)=>some (v6.2.2.2.1,v6.2.1,v6.2.2.1)
theorem qi (F:Nat):Ctr TT Tryz.prog 14 (ak TT wo (ix F)) :=
 aW F (code:=aw 14) Tryz.func14 (ag (ag aq (wF F)) (jn F)) fun x=>by kernel_rfl
end Go.Vm
