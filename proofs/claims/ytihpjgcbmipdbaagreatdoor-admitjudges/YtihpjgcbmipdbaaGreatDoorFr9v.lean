import Derived.Test.YtihpjgcbmipdbaaGreatDoorFr9
set_option linter.unusedVariables false
namespace Go.Vm
open Go.Proofs
noncomputable def aq:Spec Kd:={ params := [(.pin 148 aa5)],ret:=(.one (.agg aba)),pins := [aa5],pl:={ nt:=39 },rfrz := [],ts := [39],rc := [(2,some 102)],rco := [.cellSlc 128 4 .str, .cellSlc 128 5 .str] }
noncomputable def ga:Spec Kd:={ params := [(.pin 148 aa5)],ret:=(.one (.agg aba)),pins := [aa5],pl:={ nt:=70,joins := [(1600050,(.norm,⟨[.tmp 0 (.a (.ptr 1 0)), .tmp 2 (.a (.ptr 128 0)), .tmp 3 (.a (.ptr 192 0)), .tmp 4 (.a abm), .box 1 (.cells 148 aa5), .box 128 (.cells 102 aba), .box 192 (.cells 102 [abm, .str, .str,abm,(.slc .str),(.rowp 1012293)]), .box 1012293 (.row 9 .str)],[],[.cellSlc 128 4 .str, .cellSlc 128 5 .str, .cellSlc 192 4 .str, .cellRow 192 5 1012293 9 .str]⟩),[])],loops := [(2,⟨[.tmp 0 (.a (.ptr 1 0)), .tmp 2 (.a (.ptr 128 0)), .tmp 3 (.a (.ptr 192 0)), .tmp 4 (.a abm), .box 1 (.cells 148 aa5), .box 128 (.cells 102 aba), .box 192 (.cells 102 [abm, .str, .str,abm,(.slc .str),(.rowp 1012293)]), .box 1012293 (.row 9 .str)],[],[.cellSlc 128 4 .str, .cellSlc 128 5 .str, .cellSlc 192 4 .str, .cellRow 192 5 1012293 9 .str]⟩,(.exit 2,⟨[.tmp 0 (.a (.ptr 1 0)), .tmp 2 (.a (.ptr 128 0)), .tmp 3 (.a (.ptr 192 0)), .box 1 (.cells 148 aa5), .box 128 (.cells 102 aba), .box 192 (.cells 102 [abm, .str, .str,abm,(.slc .str),(.rowp 1012293)]), .box 1012293 (.row 9 .str)],[],[.cellSlc 128 4 .str, .cellSlc 128 5 .str, .cellSlc 192 4 .str, .cellRow 192 5 1012293 9 .str]⟩),[]),(0,⟨[.tmp 0 (.a (.ptr 1 0)), .tmp 2 (.a (.ptr 128 0)), .tmp 3 (.a (.ptr 192 0)), .box 1 (.cells 148 aa5), .box 128 (.cells 102 aba), .box 192 (.cells 102 [abm, .str, .str,abm,(.slc .str),(.rowp 1012293)]), .box 1012293 (.row 9 .str)],[],[.cellSlc 128 4 .str, .cellSlc 128 5 .str, .cellSlc 192 4 .str, .cellRow 192 5 1012293 9 .str]⟩,(.exit 0,⟨[.tmp 0 (.a (.ptr 1 0)), .tmp 2 (.a (.ptr 128 0)), .tmp 3 (.a (.ptr 192 0)), .box 1 (.cells 148 aa5), .box 128 (.cells 102 aba), .box 192 (.cells 102 [abm, .str, .str,abm,(.slc .str),(.rowp 1012293)]), .box 1012293 (.row 9 .str)],[],[.cellSlc 128 4 .str, .cellSlc 128 5 .str, .cellSlc 192 4 .str, .cellRow 192 5 1012293 9 .str]⟩),[])],ends := [(9,⟨[.tmp 0 (.a (.ptr 1 0)), .tmp 2 (.a (.ptr 128 0)), .tmp 3 (.a (.ptr 192 0)), .box 1 (.cells 148 aa5), .box 128 (.cells 102 aba), .box 192 (.cells 102 [abm, .str, .str,abm,(.slc .str),(.rowp 1012293)]), .box 1012293 (.row 9 .str)],[],[.cellSlc 128 4 .str, .cellSlc 128 5 .str, .cellSlc 192 4 .str, .cellRow 192 5 1012293 9 .str]⟩)],frz := [(7,[1012293]),(18,[1012293])] },rfrz := [],ts := [70],rc := [(2,some 102)],rco := [.cellSlc 128 4 .str, .cellSlc 128 5 .str] }
noncomputable def nI (F:Nat) (R:tyS El aq.params→Option (aq.R El)):Env El:=(eW 107 (ah TT aq R) (eW 227 (ah TT fW (aw F)) (eW 170 (ah TT dO (ak F)) (eW 225 (ah TT gd (aR F)) Ch))))
noncomputable def bT (F:Nat) (R: aa6 →Option (abc×aa6)) (v2:(Unit×
       Unit×
        Unit×
          aa6×
           abb×
            abd×List B8×Unit)):Option ((Unit×
       Unit×
        Unit×
          aa6×
           abb×
            abd×List B8×Unit) ⊕ (Unit×
       Unit×
        Unit×
          aa6×
           abb×
            abd×List B8×Unit)) :=
 if decide (v2.2.2.2.1.2.2.2.1=0)=true then
        ((R (v2.2.2.2.1.1,v2.2.2.2.1.2.1,v2.2.2.2.1.2.2.1,v2.2.2.2.1.2.2.2.1,())).bind
           fun (v3: abb×B8×Int×Int×Int×Unit) =>
           if decide ((v2.2.2.2.2.2.2.1.length + [v3.1.2.1].length) * 16≤140737488355328)=true then
            some
             ((),(),(),(v3.2.1,v3.2.2.1,v3.2.2.2.1,v3.2.2.2.2.1,()),v2.2.2.2.2.1,
               (v2.2.2.2.2.2.1.1,v2.2.2.2.2.2.1.2.1,v2.2.2.2.2.2.1.2.2.1,v2.2.2.2.2.2.1.2.2.2.1,v2.2.2.2.2.2.1.2.2.2.2.1,(),()),
               v2.2.2.2.2.2.2.1 ++ [v3.1.2.1],())
           else none).bind
         fun
          (v4 :
           Unit×
            Unit×
             Unit×
               aa6×
                abb×
                 abd×List B8×Unit) =>
         (aw F ((v4.2.2.2.1.1,v4.2.2.2.1.2.1,v4.2.2.2.1.2.2.1,v4.2.2.2.1.2.2.2.1,()),93)).bind
          fun (v5:Bool×B8×Int×Int×Int×Unit) =>
          if (!v5.1)=true then
           some
            (Sum.inr
             ((),(),(),(v5.2.1,v5.2.2.1,v5.2.2.2.1,v5.2.2.2.2.1,()),v4.2.2.2.2.1,
               (v4.2.2.2.2.2.1.1,v4.2.2.2.2.2.1.2.1,v4.2.2.2.2.2.1.2.2.1,v4.2.2.2.2.2.1.2.2.2.1,v4.2.2.2.2.2.1.2.2.2.2.1,(),()),
               v4.2.2.2.2.2.2.1,()))
          else
           some
            (Sum.inl
             ((),(),(),(v5.2.1,v5.2.2.1,v5.2.2.2.1,v5.2.2.2.2.1,()),v4.2.2.2.2.1,
               (v4.2.2.2.2.2.1.1,v4.2.2.2.2.2.1.2.1,v4.2.2.2.2.2.1.2.2.1,v4.2.2.2.2.2.1.2.2.2.1,v4.2.2.2.2.2.1.2.2.2.2.1,(),()),
               v4.2.2.2.2.2.2.1,()))
       else
        some
         (Sum.inr
          ((),(),(),(v2.2.2.2.1.1,v2.2.2.2.1.2.1,v2.2.2.2.1.2.2.1,v2.2.2.2.1.2.2.2.1,()),v2.2.2.2.2.1,
            (v2.2.2.2.2.2.1.1,v2.2.2.2.2.2.1.2.1,v2.2.2.2.2.2.1.2.2.1,v2.2.2.2.2.2.1.2.2.2.1,v2.2.2.2.2.2.1.2.2.2.2.1,(),()),v2.2.2.2.2.2.2.1,
            ()))
noncomputable def dA (F:Nat) (R: aa6 →Option (abc×aa6)) (v7:(Unit×
        Unit×
         Unit×
          Int×
            aa6×
             abb×
              abd×List B8×Unit)):Option ((Unit×
        Unit×
         Unit×
          Int×
            aa6×
             abb×
              abd×List B8×Unit) ⊕ (Unit×
        Unit×
         Unit×
           aa6×
            abb×
             abd×List B8×Unit)) :=
 if decide (v7.2.2.2.1<(↑v7.2.2.2.2.2.2.2.1.length:Int))=true then
         (if decide (0<v7.2.2.2.1)=true then
            if decide (v7.2.2.2.2.2.2.1.2.1.length + [44].length≤9223372036854775807)=true then
             some
              ((),(),(),v7.2.2.2.1,(v7.2.2.2.2.1.1,v7.2.2.2.2.1.2.1,v7.2.2.2.2.1.2.2.1,v7.2.2.2.2.1.2.2.2.1,()),v7.2.2.2.2.2.1,
                (v7.2.2.2.2.2.2.1.1,v7.2.2.2.2.2.2.1.2.1 ++ [44],v7.2.2.2.2.2.2.1.2.2.1,v7.2.2.2.2.2.2.1.2.2.2.1,v7.2.2.2.2.2.2.1.2.2.2.2.1,
                  (),()),
                v7.2.2.2.2.2.2.2.1,())
            else none
           else
            some
             ((),(),(),v7.2.2.2.1,(v7.2.2.2.2.1.1,v7.2.2.2.2.1.2.1,v7.2.2.2.2.1.2.2.1,v7.2.2.2.2.1.2.2.2.1,()),v7.2.2.2.2.2.1,
               (v7.2.2.2.2.2.2.1.1,v7.2.2.2.2.2.2.1.2.1,v7.2.2.2.2.2.2.1.2.2.1,v7.2.2.2.2.2.2.1.2.2.2.1,v7.2.2.2.2.2.2.1.2.2.2.2.1,(),()),
               v7.2.2.2.2.2.2.2.1,())).bind
          fun
           (v8 :
            Unit×
             Unit×
              Unit×
               Int×
                 aa6×
                  abb×
                   abd×List B8×Unit) =>
          (idx v8.2.2.2.2.2.2.2.1 v8.2.2.2.1).bind fun (v9:B8) =>
           if decide (v8.2.2.2.2.2.2.1.2.1.length+v9.length≤9223372036854775807)=true then
            some
             (Sum.inl
              ((),(),(),IntKind.i64.wrap (v8.2.2.2.1+1),(v8.2.2.2.2.1.1,v8.2.2.2.2.1.2.1,v8.2.2.2.2.1.2.2.1,v8.2.2.2.2.1.2.2.2.1,()),
                v8.2.2.2.2.2.1,
                (v8.2.2.2.2.2.2.1.1,v8.2.2.2.2.2.2.1.2.1 ++ v9,v8.2.2.2.2.2.2.1.2.2.1,v8.2.2.2.2.2.2.1.2.2.2.1,v8.2.2.2.2.2.2.1.2.2.2.2.1,(),
                  ()),
                v8.2.2.2.2.2.2.2.1,()))
           else none
        else
         some
          (Sum.inr
           ((),(),(),(v7.2.2.2.2.1.1,v7.2.2.2.2.1.2.1,v7.2.2.2.2.1.2.2.1,v7.2.2.2.2.1.2.2.2.1,()),v7.2.2.2.2.2.1,
             (v7.2.2.2.2.2.2.1.1,v7.2.2.2.2.2.2.1.2.1,v7.2.2.2.2.2.2.1.2.2.1,v7.2.2.2.2.2.2.1.2.2.2.1,v7.2.2.2.2.2.2.1.2.2.2.2.1,(),()),
             v7.2.2.2.2.2.2.2.1,()))
noncomputable def aQ (F:Nat) (R: aa6 →Option (abc×aa6)) (x: aa6):Option (abc×aa6):=(aR F (x.1,x.2.1,x.2.2.1,x.2.2.2.1,())).bind fun (v0:Unit×B8×Int×Int×Int×Unit)=>(ak F ((v0.2.1,v0.2.2.1,v0.2.2.2.1,v0.2.2.2.2.1,()),93)).bind fun (v1:Bool×B8×Int×Int×Int×Unit)=>if v1.1=true then some ((5,[91,93],[],0,[],[],()),v1.2.1,IntKind.i64.wrap (v1.2.2.1+1),IntKind.i64.wrap (v1.2.2.2.1 - 1),v1.2.2.2.2.1,()) else (aV (bT F R) F ((),(),(),(v1.2.1,v1.2.2.1,v1.2.2.2.1,v1.2.2.2.2.1,()),(0,[],[],0,[],[],()),(5,[],[],0,[],(),()),[],())).bind fun (v6:Unit×Unit×Unit×aa6×abb×abd×List B8×Unit)=>(aV (dA F R) F ((),(),(),0,(v6.2.2.2.1.1,v6.2.2.2.1.2.1,v6.2.2.2.1.2.2.1,v6.2.2.2.1.2.2.2.1,()),v6.2.2.2.2.1,(v6.2.2.2.2.2.1.1,v6.2.2.2.2.2.1.2.1,v6.2.2.2.2.2.1.2.2.1,v6.2.2.2.2.2.1.2.2.2.1,v6.2.2.2.2.2.1.2.2.2.2.1,(),()),v6.2.2.2.2.2.2.1,())).bind fun (v10:Unit×Unit×Unit×aa6×abb×abd×List B8×Unit)=>if decide ([91].length+v10.2.2.2.2.2.1.2.1.length≤9223372036854775807)=true then if decide (([91] ++ v10.2.2.2.2.2.1.2.1).length + [93].length≤9223372036854775807)=true then some ((v10.2.2.2.2.2.1.1,[91] ++ v10.2.2.2.2.2.1.2.1 ++ [93],v10.2.2.2.2.2.1.2.2.1,v10.2.2.2.2.2.1.2.2.2.1,v10.2.2.2.2.2.1.2.2.2.2.1,v10.2.2.2.2.2.2.1,()),v10.2.2.2.1.1,v10.2.2.2.1.2.1,v10.2.2.2.1.2.2.1,v10.2.2.2.1.2.2.2.1,()) else none else none
theorem nw (x: aa6) (F:Nat) (R: aa6 →Option (abc×aa6)):re TT Tryz.prog (nI F R) ga (ao 172) F x=aQ F R x:=by kernel_rfl
theorem nQ (F:Nat) (R: aa6 →Option (abc×aa6)) (hR:Ctr TT Tryz.prog 107 (ah TT aq R)):Ctr TT Tryz.prog 172 (ah TT ga (aQ F R)) :=
 oQ (code:=ao 172) Tryz.func172 (by kernel_rfl) (by kernel_rfl) (by kernel_rfl) (by kernel_rfl) (ag (ag (ag (ag ai (iW F)) (cq F)) (jc F)) hR) hm (by kernel_rfl) (fun x r h=>⟨F,(nw x F R).trans h⟩)
noncomputable def fx:Spec Kd:={ params := [(.pin 148 aa5),(.agg aba)],ret:=(.one (.agg aba)),pins := [aa5],pl:={ nt:=60,joins := [(900026,(.norm,⟨[.tmp 0 (.a (.ptr 1 0)), .tmp 3 (.a (.ptr 192 0)), .tmp 4 (.a (.ptr 256 0)), .tmp 5 (.a .str), .tmp 6 (.a abm), .box 1 (.cells 148 aa5), .box 192 (.cells 102 aba), .box 256 (.cells 102 aba)],[],[.cellSlc 192 4 .str, .cellSlc 192 5 .str, .cellSlc 256 4 .str, .cellSlc 256 5 .str]⟩),[])] },rfrz := [],ts := [60],rc := [(4,some 102)],rco := [.cellSlc 256 4 .str, .cellSlc 256 5 .str] }
noncomputable def mj (F:Nat) (R:tyS El aq.params→Option (aq.R El)):Env El:=(eW 107 (ah TT aq R) (eW 264 (ah TT lX (bU F)) (eW 263 (ah TT kW (cY F)) (eW 173 (ah TT fX (aI F)) (eW 109 (ah TT jy (al F)) (eW 170 (ah TT dO (ak F)) (eW 108 (ah TT fB (au F)) Ch)))))))
noncomputable def aT (F:Nat) (R: aa6 →Option (abc×aa6)) (x: aa6×abc):Option (abc×aa6):=(au F (x.1.1,x.1.2.1,x.1.2.2.1,x.1.2.2.2.1,())).bind fun (v0:Unit×B8×Int×Int×Int×Unit)=>(ak F ((v0.2.1,v0.2.2.1,v0.2.2.2.1,v0.2.2.2.2.1,()),34)).bind fun (v1:Bool×B8×Int×Int×Int×Unit)=>if (!v1.1)=true then (al F ((v1.2.1,v1.2.2.1,v1.2.2.2.1,v1.2.2.2.2.1,()),3)).bind fun (v2:Unit×B8×Int×Int×Int×Unit)=>some (x.2,v2.2.1,v2.2.2.1,v2.2.2.2.1,v2.2.2.2.2.1,()) else (aI F (v1.2.1,v1.2.2.1,v1.2.2.2.1,v1.2.2.2.2.1,())).bind fun (v3:B8×B8×Int×Int×Int×Unit)=>(cY F (x.2.2.2.2.2.1,v3.1)).bind fun (v4:Int×Bool)=>(if v4.2=true then (al F ((v3.2.1,v3.2.2.1,v3.2.2.2.1,v3.2.2.2.2.1,()),7)).bind fun (v5:Unit×B8×Int×Int×Int×Unit)=>some ((),(),(),v3.1,v4.1,(v5.2.1,v5.2.2.1,v5.2.2.2.1,v5.2.2.2.2.1,()),x.2,(0,[],[],0,[],[],()),()) else some ((),(),(),v3.1,v4.1,(v3.2.1,v3.2.2.1,v3.2.2.2.1,v3.2.2.2.2.1,()),x.2,(0,[],[],0,[],[],()),())).bind fun (v6:Unit×Unit×Unit×B8×Int×aa6×abb×abb×Unit)=>(au F (v6.2.2.2.2.2.1.1,v6.2.2.2.2.2.1.2.1,v6.2.2.2.2.2.1.2.2.1,v6.2.2.2.2.2.1.2.2.2.1,())).bind fun (v7:Unit×B8×Int×Int×Int×Unit)=>(ak F ((v7.2.1,v7.2.2.1,v7.2.2.2.1,v7.2.2.2.2.1,()),58)).bind fun (v8:Bool×B8×Int×Int×Int×Unit)=>if (!v8.1)=true then (al F ((v8.2.1,v8.2.2.1,v8.2.2.2.1,v8.2.2.2.2.1,()),3)).bind fun (v9:Unit×B8×Int×Int×Int×Unit)=>some (v6.2.2.2.2.2.2.1,v9.2.1,v9.2.2.1,v9.2.2.2.1,v9.2.2.2.2.1,()) else (R (v8.2.1,IntKind.i64.wrap (v8.2.2.1+1),v8.2.2.2.1,v8.2.2.2.2.1,())).bind fun (v10: abb×B8×Int×Int×Int×Unit)=>(bU F (v6.2.2.2.2.2.2.1.2.2.2.2.1,v6.2.2.2.2.1,v6.2.2.2.1)).bind fun (v11:List B8)=>(bU F (v6.2.2.2.2.2.2.1.2.2.2.2.2.1,v6.2.2.2.2.1,v10.1.2.1)).bind fun (v12:List B8)=>some ((v6.2.2.2.2.2.2.1.1,v6.2.2.2.2.2.2.1.2.1,v6.2.2.2.2.2.2.1.2.2.1,v6.2.2.2.2.2.2.1.2.2.2.1,v11,v12,()),v10.2.1,v10.2.2.1,v10.2.2.2.1,v10.2.2.2.2.1,())
theorem mC (x: aa6×abc) (F:Nat) (R: aa6 →Option (abc×aa6)):re TT Tryz.prog (mj F R) fx (ao 226) F x=aT F R x:=by kernel_rfl
theorem mA (F:Nat) (R: aa6 →Option (abc×aa6)) (hR:Ctr TT Tryz.prog 107 (ah TT aq R)):Ctr TT Tryz.prog 226 (ah TT fx (aT F R)) :=
 oQ (code:=ao 226) Tryz.func226 (by kernel_rfl) (by kernel_rfl) (by kernel_rfl) (by kernel_rfl) (ag (ag (ag (ag (ag (ag (ag ai (ck F)) (cq F)) (bA F)) (iY F)) (qf F)) (s9 F)) hR) hm (by kernel_rfl) (fun x r h=>⟨F,(mC x F R).trans h⟩)
noncomputable def fG:Spec Kd:={ params := [(.pin 148 aa5)],ret:=(.one (.agg aba)),pins := [aa5],pl:={ nt:=73,joins := [(1600045,(.norm,⟨[.tmp 0 (.a (.ptr 1 0)), .tmp 2 (.a (.ptr 128 0)), .tmp 3 (.a (.ptr 192 0)), .tmp 4 (.a abm), .box 1 (.cells 148 aa5), .box 128 (.cells 102 aba), .box 192 (.cells 102 aba)],[],[.cellSlc 128 4 .str, .cellSlc 128 5 .str, .cellSlc 192 4 .str, .cellSlc 192 5 .str]⟩),[])],loops := [(2,⟨[.tmp 0 (.a (.ptr 1 0)), .tmp 2 (.a (.ptr 128 0)), .tmp 3 (.a (.ptr 192 0)), .tmp 4 (.a abm), .box 1 (.cells 148 aa5), .box 128 (.cells 102 aba), .box 192 (.cells 102 aba)],[],[.cellSlc 128 4 .str, .cellSlc 128 5 .str, .cellSlc 192 4 .str, .cellSlc 192 5 .str]⟩,(.exit 2,⟨[.tmp 0 (.a (.ptr 1 0)), .tmp 2 (.a (.ptr 128 0)), .tmp 3 (.a (.ptr 192 0)), .box 1 (.cells 148 aa5), .box 128 (.cells 102 aba), .box 192 (.cells 102 aba)],[],[.cellSlc 128 4 .str, .cellSlc 128 5 .str, .cellSlc 192 4 .str, .cellSlc 192 5 .str]⟩),[]),(0,⟨[.tmp 0 (.a (.ptr 1 0)), .tmp 2 (.a (.ptr 128 0)), .tmp 3 (.a (.ptr 192 0)), .box 1 (.cells 148 aa5), .box 128 (.cells 102 aba), .box 192 (.cells 102 aba)],[],[.cellSlc 128 4 .str, .cellSlc 128 5 .str, .cellSlc 192 4 .str, .cellSlc 192 5 .str]⟩,(.exit 0,⟨[.tmp 0 (.a (.ptr 1 0)), .tmp 2 (.a (.ptr 128 0)), .tmp 3 (.a (.ptr 192 0)), .box 1 (.cells 148 aa5), .box 128 (.cells 102 aba), .box 192 (.cells 102 aba)],[],[.cellSlc 128 4 .str, .cellSlc 128 5 .str, .cellSlc 192 4 .str, .cellSlc 192 5 .str]⟩),[])] },rfrz := [],ts := [73],rc := [(2,some 102)],rco := [.cellSlc 128 4 .str, .cellSlc 128 5 .str] }
noncomputable def mz (F:Nat) (R:tyS El aq.params→Option (aq.R El)):Env El:=(eW 107 (ah TT aq R) (eW 174 (ah TT ir (bq F)) (eW 227 (ah TT fW (aw F)) (eW 226 (ah TT fx (aT F R)) (eW 170 (ah TT dO (ak F)) (eW 225 (ah TT gd (aR F)) Ch))))))
noncomputable def bK (F:Nat) (R: aa6 →Option (abc×aa6)) (v2:(Unit×
       Unit×
        Unit×
          aa6×
           abb×
            abb×Unit)):Option ((Unit×
       Unit×
        Unit×
          aa6×
           abb×
            abb×Unit) ⊕ (Unit×
       Unit×
        Unit×
          aa6×
           abb×
            abb×Unit)) :=
 if decide (v2.2.2.2.1.2.2.2.1=0)=true then
        (aT F R ((v2.2.2.2.1.1,v2.2.2.2.1.2.1,v2.2.2.2.1.2.2.1,v2.2.2.2.1.2.2.2.1,()),v2.2.2.2.2.2.1)).bind
         fun (v3: abb×B8×Int×Int×Int×Unit) =>
         (aw F ((v3.2.1,v3.2.2.1,v3.2.2.2.1,v3.2.2.2.2.1,()),125)).bind
          fun (v4:Bool×B8×Int×Int×Int×Unit) =>
          if (!v4.1)=true then some (Sum.inr ((),(),(),(v4.2.1,v4.2.2.1,v4.2.2.2.1,v4.2.2.2.2.1,()),v2.2.2.2.2.1,v3.1,()))
          else some (Sum.inl ((),(),(),(v4.2.1,v4.2.2.1,v4.2.2.2.1,v4.2.2.2.2.1,()),v2.2.2.2.2.1,v3.1,()))
       else some (Sum.inr ((),v2.2))
noncomputable def cK (F:Nat) (R: aa6 →Option (abc×aa6)) (v6:(Unit×
        Unit×
         Unit×
          Int×
            aa6×
             abb×
              abb×Unit)):Option ((Unit×
        Unit×
         Unit×
          Int×
            aa6×
             abb×
              abb×Unit) ⊕ (Unit×
        Unit×
         Unit×
           aa6×
            abb×
             abb×Unit)) :=
 if decide (v6.2.2.2.1<(↑v6.2.2.2.2.2.2.1.2.2.2.2.1.length:Int))=true then
         (if decide (0<v6.2.2.2.1)=true then
            if decide (v6.2.2.2.2.2.2.1.2.1.length + [44].length≤9223372036854775807)=true then
             some
              ((),(),(),v6.2.2.2.1,(v6.2.2.2.2.1.1,v6.2.2.2.2.1.2.1,v6.2.2.2.2.1.2.2.1,v6.2.2.2.2.1.2.2.2.1,()),v6.2.2.2.2.2.1,
                (v6.2.2.2.2.2.2.1.1,v6.2.2.2.2.2.2.1.2.1 ++ [44],v6.2.2.2.2.2.2.1.2.2.1,v6.2.2.2.2.2.2.1.2.2.2.1,v6.2.2.2.2.2.2.1.2.2.2.2.1,
                  v6.2.2.2.2.2.2.1.2.2.2.2.2.1,()),
                ())
            else none
           else some ((),(),v6.2.2)).bind
          fun
           (v7 :
            Unit×
             Unit×
              Unit×
               Int×
                 aa6×
                  abb×
                   abb×Unit) =>
          (idx v7.2.2.2.2.2.2.1.2.2.2.2.1 v7.2.2.2.1).bind fun (v8:B8) =>
           (bq F v8).bind fun (v9:B8) =>
            if decide (v7.2.2.2.2.2.2.1.2.1.length+v9.length≤9223372036854775807)=true then
             if decide ((v7.2.2.2.2.2.2.1.2.1 ++ v9).length + [58].length≤9223372036854775807)=true then
              (idx v7.2.2.2.2.2.2.1.2.2.2.2.2.1 v7.2.2.2.1).bind fun (v10:B8) =>
               if decide ((v7.2.2.2.2.2.2.1.2.1 ++ v9 ++ [58]).length+v10.length≤9223372036854775807)=true then
                some
                 (Sum.inl
                  ((),(),(),IntKind.i64.wrap (v7.2.2.2.1+1),
                    (v7.2.2.2.2.1.1,v7.2.2.2.2.1.2.1,v7.2.2.2.2.1.2.2.1,v7.2.2.2.2.1.2.2.2.1,()),v7.2.2.2.2.2.1,
                    (v7.2.2.2.2.2.2.1.1,v7.2.2.2.2.2.2.1.2.1 ++ v9 ++ [58] ++ v10,v7.2.2.2.2.2.2.1.2.2.1,v7.2.2.2.2.2.2.1.2.2.2.1,
                      v7.2.2.2.2.2.2.1.2.2.2.2.1,v7.2.2.2.2.2.2.1.2.2.2.2.2.1,()),
                    ()))
               else none
             else none
            else none
        else
         some
          (Sum.inr
           ((),(),(),(v6.2.2.2.2.1.1,v6.2.2.2.2.1.2.1,v6.2.2.2.2.1.2.2.1,v6.2.2.2.2.1.2.2.2.1,()),v6.2.2.2.2.2.1,v6.2.2.2.2.2.2.1,()))
noncomputable def aK (F:Nat) (R: aa6 →Option (abc×aa6)) (x: aa6):Option (abc×aa6):=(aR F (x.1,x.2.1,x.2.2.1,x.2.2.2.1,())).bind fun (v0:Unit×B8×Int×Int×Int×Unit)=>(ak F ((v0.2.1,v0.2.2.1,v0.2.2.2.1,v0.2.2.2.2.1,()),125)).bind fun (v1:Bool×B8×Int×Int×Int×Unit)=>if v1.1=true then some ((6,[123,125],[],0,[],[],()),v1.2.1,IntKind.i64.wrap (v1.2.2.1+1),IntKind.i64.wrap (v1.2.2.2.1 - 1),v1.2.2.2.2.1,()) else (aV (bK F R) F ((),(),(),(v1.2.1,v1.2.2.1,v1.2.2.2.1,v1.2.2.2.2.1,()),(0,[],[],0,[],[],()),(6,[],[],0,[],[],()),())).bind fun (v5:Unit×Unit×Unit×aa6×abb×abb×Unit)=>(aV (cK F R) F ((),(),(),0,(v5.2.2.2.1.1,v5.2.2.2.1.2.1,v5.2.2.2.1.2.2.1,v5.2.2.2.1.2.2.2.1,()),v5.2.2.2.2.1,v5.2.2.2.2.2.1,())).bind fun (v11:Unit×Unit×Unit×aa6×abb×abb×Unit)=>if decide ([123].length+v11.2.2.2.2.2.1.2.1.length≤9223372036854775807)=true then if decide (([123] ++ v11.2.2.2.2.2.1.2.1).length + [125].length≤9223372036854775807)=true then some ((v11.2.2.2.2.2.1.1,[123] ++ v11.2.2.2.2.2.1.2.1 ++ [125],v11.2.2.2.2.2.1.2.2.1,v11.2.2.2.2.2.1.2.2.2.1,v11.2.2.2.2.2.1.2.2.2.2.1,v11.2.2.2.2.2.1.2.2.2.2.2.1,()),v11.2.2.2.1.1,v11.2.2.2.1.2.1,v11.2.2.2.1.2.2.1,v11.2.2.2.1.2.2.2.1,()) else none else none
theorem ml (x: aa6) (F:Nat) (R: aa6 →Option (abc×aa6)):re TT Tryz.prog (mz F R) fG (ao 171) F x=aK F R x:=by kernel_rfl
theorem mu (F:Nat) (R: aa6 →Option (abc×aa6)) (hR:Ctr TT Tryz.prog 107 (ah TT aq R)):Ctr TT Tryz.prog 171 (ah TT fG (aK F R)) :=
 oQ (code:=ao 171) Tryz.func171 (by kernel_rfl) (by kernel_rfl) (by kernel_rfl) (by kernel_rfl) (ag (ag (ag (ag (ag (ag ai (iW F)) (cq F)) (mA F R hR)) (jc F)) (kV F)) hR) hm (by kernel_rfl) (fun x r h=>⟨F,(ml x F R).trans h⟩)
noncomputable def mZ (F:Nat) (R:tyS El aq.params→Option (aq.R El)):Env El:=(eW 107 (ah TT aq R) (eW 176 (ah TT iJ (bh F)) (eW 175 (ah TT jj (ar F)) (eW 174 (ah TT ir (bq F)) (eW 173 (ah TT fX (aI F)) (eW 172 (ah TT ga (aQ F R)) (eW 171 (ah TT fG (aK F R)) (eW 170 (ah TT dO (ak F)) (eW 108 (ah TT fB (au F)) Ch)))))))))
noncomputable def cj (F:Nat) (R: aa6 →Option (abc×aa6)) (x: aa6):Option (abc×aa6):=(au F (x.1,x.2.1,x.2.2.1,x.2.2.2.1,())).bind fun (v0:Unit×B8×Int×Int×Int×Unit)=>if (!decide (v0.2.2.2.2.1=0))=true then some ((0,[],[],0,[],[],()),v0.2.1,v0.2.2.1,v0.2.2.2.1,v0.2.2.2.2.1,()) else (ak F ((v0.2.1,v0.2.2.1,v0.2.2.2.1,v0.2.2.2.2.1,()),123)).bind fun (v1:Bool×B8×Int×Int×Int×Unit)=>if v1.1=true then (aK F R (v1.2.1,v1.2.2.1,v1.2.2.2.1,v1.2.2.2.2.1,())).bind fun (v2: abb×B8×Int×Int×Int×Unit)=>some v2 else (ak F ((v1.2.1,v1.2.2.1,v1.2.2.2.1,v1.2.2.2.2.1,()),91)).bind fun (v3:Bool×B8×Int×Int×Int×Unit)=>if v3.1=true then (aQ F R (v3.2.1,v3.2.2.1,v3.2.2.2.1,v3.2.2.2.2.1,())).bind fun (v4: abb×B8×Int×Int×Int×Unit)=>some v4 else (ak F ((v3.2.1,v3.2.2.1,v3.2.2.2.1,v3.2.2.2.2.1,()),34)).bind fun (v5:Bool×B8×Int×Int×Int×Unit)=>if v5.1=true then (aI F (v5.2.1,v5.2.2.1,v5.2.2.2.1,v5.2.2.2.2.1,())).bind fun (v6:B8×B8×Int×Int×Int×Unit)=>(bq F v6.1).bind fun (v7:B8)=>some ((4,v7,v6.1,0,[],[],()),v6.2.1,v6.2.2.1,v6.2.2.2.1,v6.2.2.2.2.1,()) else (ar F ((v5.2.1,v5.2.2.1,v5.2.2.2.1,v5.2.2.2.2.1,()),[110,117,108,108])).bind fun (v8:Bool×B8×Int×Int×Int×Unit)=>if v8.1=true then some ((1,[110,117,108,108],[],0,[],[],()),v8.2.1,v8.2.2.1,v8.2.2.2.1,v8.2.2.2.2.1,()) else (ar F ((v8.2.1,v8.2.2.1,v8.2.2.2.1,v8.2.2.2.2.1,()),[116,114,117,101])).bind fun (v9:Bool×B8×Int×Int×Int×Unit)=>if v9.1=true then some ((2,[116,114,117,101],[],0,[],[],()),v9.2.1,v9.2.2.1,v9.2.2.2.1,v9.2.2.2.2.1,()) else (ar F ((v9.2.1,v9.2.2.1,v9.2.2.2.1,v9.2.2.2.2.1,()),[102,97,108,115,101])).bind fun (v10:Bool×B8×Int×Int×Int×Unit)=>if v10.1=true then some ((2,[102,97,108,115,101],[],0,[],[],()),v10.2.1,v10.2.2.1,v10.2.2.2.1,v10.2.2.2.2.1,()) else (bh F (v10.2.1,v10.2.2.1,v10.2.2.2.1,v10.2.2.2.2.1,())).bind fun (v11: abb×B8×Int×Int×Int×Unit)=>some v11
noncomputable def aB (F:Nat):Nat→(aa6)→Option (abc×aa6)
 | 0,_=>none
 | d+1,x=>cj F (aB F d) x
noncomputable def fJ (F:Nat) (x: aa6):Option (abc×aa6):=aB F F x
theorem mR (x: aa6) (F:Nat) (R: aa6 →Option (abc×aa6)):re TT Tryz.prog (mZ F R) aq (ao 107) F x=cj F R x:=by kernel_rfl
theorem dR (F:Nat) : ∀ d,Ctr TT Tryz.prog 107 (ah TT aq (aB F d))
 | 0=>wq _ _ _ _ (fun _=>rfl)
 | d+1=>oQ (code:=ao 107) Tryz.func107 (by kernel_rfl) (by kernel_rfl) (by kernel_rfl) (by kernel_rfl) (ag (ag (ag (ag (ag (ag (ag (ag (ag ai (ck F)) (cq F)) (mu F (aB F d) (dR F d))) (nQ F (aB F d) (dR F d))) (iY F)) (kV F)) (nF F)) (mi F)) (dR F d)) hm (by kernel_rfl) (fun x r h=>⟨F,(mR x F (aB F d)).trans h⟩)
theorem mN (F:Nat):Ctr TT Tryz.prog 107 (ah TT aq (fJ F)):=dR F F
noncomputable def ue:Spec Kd:={ params := [(.a .str)],ret:=(.tup [(.agg aba),(.a abm)]),pins := [],pl:={ nt:=37,joins := [(800023,(.norm,⟨[.tmp 2 (.a (.ptr 128 0)), .tmp 4 (.a (.ptr 768 0)), .tmp 5 (.a (.ptr 320 0)), .box 128 (.cells 102 aba), .box 768 (.cells 148 aa5), .box 320 (.cells 102 aba)],[],[.cellSlc 128 4 .str, .cellSlc 128 5 .str, .cellSlc 320 4 .str, .cellSlc 320 5 .str]⟩),[])],frz := [(9,[768])] },rfrz := [],ts := [37,38],rc := [(2,some 102),(3,none)],rco := [.cellSlc 128 4 .str, .cellSlc 128 5 .str] }
noncomputable def ia (F:Nat) (x:B8):Option (abc×Int):=if decide (400<(↑x.length:Int))=true then some ((0,[],[],0,[],[],()),5) else (fJ F (x,0,0,0,())).bind fun (v0: abb×B8×Int×Int×Int×Unit)=>(au F (v0.2.1,v0.2.2.1,v0.2.2.2.1,v0.2.2.2.2.1,())).bind fun (v1:Unit×B8×Int×Int×Int×Unit)=>(if decide (v1.2.2.1<(↑x.length:Int))=true then (al F ((v1.2.1,v1.2.2.1,v1.2.2.2.1,v1.2.2.2.2.1,()),3)).bind fun (v2:Unit×B8×Int×Int×Int×Unit)=>some ((),(),(),(0,[],[],0,[],[],()),(v2.2.1,v2.2.2.1,v2.2.2.2.1,v2.2.2.2.2.1,()),v0.1,()) else some ((),(),(),(0,[],[],0,[],[],()),(v1.2.1,v1.2.2.1,v1.2.2.2.1,v1.2.2.2.2.1,()),v0.1,())).bind fun (v3:Unit×Unit×Unit×abb×aa6×abb×Unit)=>if (!decide (v3.2.2.2.2.1.2.2.2.1=0))=true then some ((0,[],[],0,[],[],()),v3.2.2.2.2.1.2.2.2.1) else some (v3.2.2.2.2.2.1,0)
theorem ug (F:Nat):Ctr TT Tryz.prog 55 (ah TT ue (ia F)) :=
 ay F (code:=ao 55) Tryz.func55 (ag (ag (ag ai (mN F)) (ck F)) (bA F)) fun x=>by kernel_rfl
end Go.Vm
