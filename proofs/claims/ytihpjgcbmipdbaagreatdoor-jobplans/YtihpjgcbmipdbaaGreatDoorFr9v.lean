import Derived.Test.YtihpjgcbmipdbaaGreatDoorFr9
set_option linter.unusedVariables false
noncomputable section
namespace Go.Vm
open Go.Proofs
def aq:Spec Kd:={ params:=[(.pin 148 acF)],ret:=(.one (.agg acK)),pins:=[acF],pl:={ nt:=39 },rfrz:=[],ts:=[39],rc:=[(2,some 102)],rco:=[.cellSlc 128 4 .str,.cellSlc 128 5 .str] }
def gC:Spec Kd:={ params:=[(.pin 148 acF)],ret:=(.one (.agg acK)),pins:=[acF],pl:={ nt:=70,joins:=[(1600050,(.norm,⟨[.tmp 0 (.a (.ptr 1 0)),.tmp 2 (.a (.ptr 128 0)),.tmp 3 (.a (.ptr 192 0)),.tmp 4 ac6,.box 1 (.cells 148 acF),.box 128 (.cells 102 acK),.box 192 (.cells 102 [ac5,.str,.str,ac5,(.slc .str),(.rowp 1012293)]),.box 1012293 (.row 9 .str)],[],[.cellSlc 128 4 .str,.cellSlc 128 5 .str,.cellSlc 192 4 .str,.cellRow 192 5 1012293 9 .str]⟩),[])],loops:=[(2,⟨[.tmp 0 (.a (.ptr 1 0)),.tmp 2 (.a (.ptr 128 0)),.tmp 3 (.a (.ptr 192 0)),.tmp 4 ac6,.box 1 (.cells 148 acF),.box 128 (.cells 102 acK),.box 192 (.cells 102 [ac5,.str,.str,ac5,(.slc .str),(.rowp 1012293)]),.box 1012293 (.row 9 .str)],[],[.cellSlc 128 4 .str,.cellSlc 128 5 .str,.cellSlc 192 4 .str,.cellRow 192 5 1012293 9 .str]⟩,(.exit 2,⟨[.tmp 0 (.a (.ptr 1 0)),.tmp 2 (.a (.ptr 128 0)),.tmp 3 (.a (.ptr 192 0)),.box 1 (.cells 148 acF),.box 128 (.cells 102 acK),.box 192 (.cells 102 [ac5,.str,.str,ac5,(.slc .str),(.rowp 1012293)]),.box 1012293 (.row 9 .str)],[],[.cellSlc 128 4 .str,.cellSlc 128 5 .str,.cellSlc 192 4 .str,.cellRow 192 5 1012293 9 .str]⟩),[]),(0,⟨[.tmp 0 (.a (.ptr 1 0)),.tmp 2 (.a (.ptr 128 0)),.tmp 3 (.a (.ptr 192 0)),.box 1 (.cells 148 acF),.box 128 (.cells 102 acK),.box 192 (.cells 102 [ac5,.str,.str,ac5,(.slc .str),(.rowp 1012293)]),.box 1012293 (.row 9 .str)],[],[.cellSlc 128 4 .str,.cellSlc 128 5 .str,.cellSlc 192 4 .str,.cellRow 192 5 1012293 9 .str]⟩,(.exit 0,⟨[.tmp 0 (.a (.ptr 1 0)),.tmp 2 (.a (.ptr 128 0)),.tmp 3 (.a (.ptr 192 0)),.box 1 (.cells 148 acF),.box 128 (.cells 102 acK),.box 192 (.cells 102 [ac5,.str,.str,ac5,(.slc .str),(.rowp 1012293)]),.box 1012293 (.row 9 .str)],[],[.cellSlc 128 4 .str,.cellSlc 128 5 .str,.cellSlc 192 4 .str,.cellRow 192 5 1012293 9 .str]⟩),[])],ends:=[(9,⟨[.tmp 0 (.a (.ptr 1 0)),.tmp 2 (.a (.ptr 128 0)),.tmp 3 (.a (.ptr 192 0)),.box 1 (.cells 148 acF),.box 128 (.cells 102 acK),.box 192 (.cells 102 [ac5,.str,.str,ac5,(.slc .str),(.rowp 1012293)]),.box 1012293 (.row 9 .str)],[],[.cellSlc 128 4 .str,.cellSlc 128 5 .str,.cellSlc 192 4 .str,.cellRow 192 5 1012293 9 .str]⟩)],frz:=[(7,[1012293]),(18,[1012293])] },rfrz:=[],ts:=[70],rc:=[(2,some 102)],rco:=[.cellSlc 128 4 .str,.cellSlc 128 5 .str] }
def oA (F:Nat) (R:tyS El aq.params->Option (aq.R El)):Env El:=(fq 107 (ai TT aq R) (fq 227 (ai TT gz (ax F)) (fq 170 (ai TT dV (al F)) (fq 225 (ai TT gy (aV F)) CZ))))
def cm (F:Nat) (R: acG ->Option (acN×acG)) (v2:(Unit×
       Unit×
        Unit×
          acG×
           acJ×
            acW×List B8×Unit)):Option ((Unit×
       Unit×
        Unit×
          acG×
           acJ×
            acW×List B8×Unit) ⊕ (Unit×
       Unit×
        Unit×
          acG×
           acJ×
            acW×List B8×Unit)) :=
 if decide (v2.2.2.2.1.2.2.2.1=0)=true then
        ((R (v2.2.2.2.1.1,v2.2.2.2.1.2.1,v2.2.2.2.1.2.2.1,v2.2.2.2.1.2.2.2.1,())).bind
           fun (v3: acJ×B8×Int×Int×Int×Unit) =>
           if decide ((v2.2.2.2.2.2.2.1.length + [v3.1.2.1].length)*16<=140737488355328)=true then
            some
             ((),(),(),(v3.2.1,v3.2.2.1,v3.2.2.2.1,v3.2.2.2.2.1,()),v2.2.2.2.2.1,
               (v2.2.2.2.2.2.1.1,v2.2.2.2.2.2.1.2.1,v2.2.2.2.2.2.1.2.2.1,v2.2.2.2.2.2.1.2.2.2.1,v2.2.2.2.2.2.1.2.2.2.2.1,(),()),
               v2.2.2.2.2.2.2.1++[v3.1.2.1],())
           else none).bind
         fun
          (v4 :
           Unit×
            Unit×
             Unit×
               acG×
                acJ×
                 acW×List B8×Unit) =>
         (ax F ((v4.2.2.2.1.1,v4.2.2.2.1.2.1,v4.2.2.2.1.2.2.1,v4.2.2.2.1.2.2.2.1,()),93)).bind
          fun (v5:Bool×B8×Int×Int×Int×Unit) =>
          if (!v5.1)=true then
           some
            (Sum.inr
             ((),(),(),(v5.2.1,v5.2.2.1,v5.2.2.2.1,v5.2.2.2.2.1,()),v4.2.2.2.2.1,
               (v4.2.2.2.2.2.1.1,v4.2.2.2.2.2.1.2.1,v4.2.2.2.2.2.1.2.2.1,v4.2.2.2.2.2.1.2.2.2.1,v4.2.2.2.2.2.1.2.2.2.2.1,(),()),
               v4.2.2.2.2.2.2.1,()))
          else
           some
            (Sum.inl
             ((),(),(),(v5.2.1,v5.2.2.1,v5.2.2.2.1,v5.2.2.2.2.1,()),v4.2.2.2.2.1,
               (v4.2.2.2.2.2.1.1,v4.2.2.2.2.2.1.2.1,v4.2.2.2.2.2.1.2.2.1,v4.2.2.2.2.2.1.2.2.2.1,v4.2.2.2.2.2.1.2.2.2.2.1,(),()),
               v4.2.2.2.2.2.2.1,()))
       else
        some
         (Sum.inr
          ((),(),(),(v2.2.2.2.1.1,v2.2.2.2.1.2.1,v2.2.2.2.1.2.2.1,v2.2.2.2.1.2.2.2.1,()),v2.2.2.2.2.1,
            (v2.2.2.2.2.2.1.1,v2.2.2.2.2.2.1.2.1,v2.2.2.2.2.2.1.2.2.1,v2.2.2.2.2.2.1.2.2.2.1,v2.2.2.2.2.2.1.2.2.2.2.1,(),()),v2.2.2.2.2.2.2.1,
            ()))
def dL (F:Nat) (R: acG ->Option (acN×acG)) (v7:(Unit×
        Unit×
         Unit×
          Int×
            acG×
             acJ×
              acW×List B8×Unit)):Option ((Unit×
        Unit×
         Unit×
          Int×
            acG×
             acJ×
              acW×List B8×Unit) ⊕ (Unit×
        Unit×
         Unit×
           acG×
            acJ×
             acW×List B8×Unit)) :=
 if decide (v7.2.2.2.1<(↑v7.2.2.2.2.2.2.2.1.length:Int))=true then
         (if decide (0<v7.2.2.2.1)=true then
            if decide (v7.2.2.2.2.2.2.1.2.1.length + [44].length<=9223372036854775807)=true then
             some
              ((),(),(),v7.2.2.2.1,(v7.2.2.2.2.1.1,v7.2.2.2.2.1.2.1,v7.2.2.2.2.1.2.2.1,v7.2.2.2.2.1.2.2.2.1,()),v7.2.2.2.2.2.1,
                (v7.2.2.2.2.2.2.1.1,v7.2.2.2.2.2.2.1.2.1++[44],v7.2.2.2.2.2.2.1.2.2.1,v7.2.2.2.2.2.2.1.2.2.2.1,v7.2.2.2.2.2.2.1.2.2.2.2.1,
                  (),()),
                v7.2.2.2.2.2.2.2.1,())
            else none
           else
            some
             ((),(),(),v7.2.2.2.1,(v7.2.2.2.2.1.1,v7.2.2.2.2.1.2.1,v7.2.2.2.2.1.2.2.1,v7.2.2.2.2.1.2.2.2.1,()),v7.2.2.2.2.2.1,
               (v7.2.2.2.2.2.2.1.1,v7.2.2.2.2.2.2.1.2.1,v7.2.2.2.2.2.2.1.2.2.1,v7.2.2.2.2.2.2.1.2.2.2.1,v7.2.2.2.2.2.2.1.2.2.2.2.1,(),()),
               v7.2.2.2.2.2.2.2.1,())).bind
          fun
           (v8 :
            Unit×
             Unit×
              Unit×
               Int×
                 acG×
                  acJ×
                   acW×List B8×Unit) =>
          (idx v8.2.2.2.2.2.2.2.1 v8.2.2.2.1).bind fun (v9:B8) =>
           if decide (v8.2.2.2.2.2.2.1.2.1.length+v9.length<=9223372036854775807)=true then
            some
             (Sum.inl
              ((),(),(),IntKind.i64.wrap (v8.2.2.2.1+1),(v8.2.2.2.2.1.1,v8.2.2.2.2.1.2.1,v8.2.2.2.2.1.2.2.1,v8.2.2.2.2.1.2.2.2.1,()),
                v8.2.2.2.2.2.1,
                (v8.2.2.2.2.2.2.1.1,v8.2.2.2.2.2.2.1.2.1++v9,v8.2.2.2.2.2.2.1.2.2.1,v8.2.2.2.2.2.2.1.2.2.2.1,v8.2.2.2.2.2.2.1.2.2.2.2.1,(),
                  ()),
                v8.2.2.2.2.2.2.2.1,()))
           else none
        else
         some
          (Sum.inr
           ((),(),(),(v7.2.2.2.2.1.1,v7.2.2.2.2.1.2.1,v7.2.2.2.2.1.2.2.1,v7.2.2.2.2.1.2.2.2.1,()),v7.2.2.2.2.2.1,
             (v7.2.2.2.2.2.2.1.1,v7.2.2.2.2.2.2.1.2.1,v7.2.2.2.2.2.2.1.2.2.1,v7.2.2.2.2.2.2.1.2.2.2.1,v7.2.2.2.2.2.2.1.2.2.2.2.1,(),()),
             v7.2.2.2.2.2.2.2.1,()))
def aW (F:Nat) (R: acG ->Option (acN×acG)) (x: acG):Option (acN×acG):=(aV F (x.1,x.2.1,x.2.2.1,x.2.2.2.1,())).bind fun (v0:Unit×B8×Int×Int×Int×Unit)=>(al F ((v0.2.1,v0.2.2.1,v0.2.2.2.1,v0.2.2.2.2.1,()),93)).bind fun (v1:Bool×B8×Int×Int×Int×Unit)=>if v1.1=true then some ((5,[91,93],[],0,[],[],()),v1.2.1,IntKind.i64.wrap (v1.2.2.1+1),IntKind.i64.wrap (v1.2.2.2.1-1),v1.2.2.2.2.1,()) else (bf (cm F R) F ((),(),(),(v1.2.1,v1.2.2.1,v1.2.2.2.1,v1.2.2.2.2.1,()),(0,[],[],0,[],[],()),(5,[],[],0,[],(),()),[],())).bind fun (v6:Unit×Unit×Unit×acG×acJ×acW×List B8×Unit)=>(bf (dL F R) F ((),(),(),0,(v6.2.2.2.1.1,v6.2.2.2.1.2.1,v6.2.2.2.1.2.2.1,v6.2.2.2.1.2.2.2.1,()),v6.2.2.2.2.1,(v6.2.2.2.2.2.1.1,v6.2.2.2.2.2.1.2.1,v6.2.2.2.2.2.1.2.2.1,v6.2.2.2.2.2.1.2.2.2.1,v6.2.2.2.2.2.1.2.2.2.2.1,(),()),v6.2.2.2.2.2.2.1,())).bind fun (v10:Unit×Unit×Unit×acG×acJ×acW×List B8×Unit)=>if decide ([91].length+v10.2.2.2.2.2.1.2.1.length<=9223372036854775807)=true then if decide (([91]++v10.2.2.2.2.2.1.2.1).length + [93].length<=9223372036854775807)=true then some ((v10.2.2.2.2.2.1.1,[91]++v10.2.2.2.2.2.1.2.1++[93],v10.2.2.2.2.2.1.2.2.1,v10.2.2.2.2.2.1.2.2.2.1,v10.2.2.2.2.2.1.2.2.2.2.1,v10.2.2.2.2.2.2.1,()),v10.2.2.2.1.1,v10.2.2.2.1.2.1,v10.2.2.2.1.2.2.1,v10.2.2.2.1.2.2.2.1,()) else none else none
theorem oU (x: acG) (F:Nat) (R: acG ->Option (acN×acG)):sc TT Tryz.prog (oA F R) gC (aj 172) F x=aW F R x:=by kernel_rfl
theorem oJ (F:Nat) (R: acG ->Option (acN×acG)) (hR:Ctr TT Tryz.prog 107 (ai TT aq R)):Ctr TT Tryz.prog 172 (ai TT gC (aW F R)) :=
 pU (code:=aj 172) Tryz.func172 (by kernel_rfl) (by kernel_rfl) (by kernel_rfl) (by kernel_rfl) (af (af (af (af ah (jx F)) (cF F)) (jy F)) hR) hm (by kernel_rfl) (fun x r h=>⟨F,(oU x F R).trans h⟩)
def fM:Spec Kd:={ params:=[(.pin 148 acF),(.agg acK)],ret:=(.one (.agg acK)),pins:=[acF],pl:={ nt:=60,joins:=[(900026,(.norm,⟨[.tmp 0 (.a (.ptr 1 0)),.tmp 3 (.a (.ptr 192 0)),.tmp 4 (.a (.ptr 256 0)),.tmp 5 ac8,.tmp 6 ac6,.box 1 (.cells 148 acF),.box 192 (.cells 102 acK),.box 256 (.cells 102 acK)],[],[.cellSlc 192 4 .str,.cellSlc 192 5 .str,.cellSlc 256 4 .str,.cellSlc 256 5 .str]⟩),[])] },rfrz:=[],ts:=[60],rc:=[(4,some 102)],rco:=[.cellSlc 256 4 .str,.cellSlc 256 5 .str] }
def nk (F:Nat) (R:tyS El aq.params->Option (aq.R El)):Env El:=(fq 107 (ai TT aq R) (fq 264 (ai TT mV (cj F)) (fq 263 (ai TT lz (dj F)) (fq 173 (ai TT gA (aM F)) (fq 109 (ai TT jP (ao F)) (fq 170 (ai TT dV (al F)) (fq 108 (ai TT fO (av F)) CZ)))))))
def aZ (F:Nat) (R: acG ->Option (acN×acG)) (x: acG×acN):Option (acN×acG):=(av F (x.1.1,x.1.2.1,x.1.2.2.1,x.1.2.2.2.1,())).bind fun (v0:Unit×B8×Int×Int×Int×Unit)=>(al F ((v0.2.1,v0.2.2.1,v0.2.2.2.1,v0.2.2.2.2.1,()),34)).bind fun (v1:Bool×B8×Int×Int×Int×Unit)=>if (!v1.1)=true then (ao F ((v1.2.1,v1.2.2.1,v1.2.2.2.1,v1.2.2.2.2.1,()),3)).bind fun (v2:Unit×B8×Int×Int×Int×Unit)=>some (x.2,v2.2.1,v2.2.2.1,v2.2.2.2.1,v2.2.2.2.2.1,()) else (aM F (v1.2.1,v1.2.2.1,v1.2.2.2.1,v1.2.2.2.2.1,())).bind fun (v3:B8×B8×Int×Int×Int×Unit)=>(dj F (x.2.2.2.2.2.1,v3.1)).bind fun (v4:Int×Bool)=>(if v4.2=true then (ao F ((v3.2.1,v3.2.2.1,v3.2.2.2.1,v3.2.2.2.2.1,()),7)).bind fun (v5:Unit×B8×Int×Int×Int×Unit)=>some ((),(),(),v3.1,v4.1,(v5.2.1,v5.2.2.1,v5.2.2.2.1,v5.2.2.2.2.1,()),x.2,(0,[],[],0,[],[],()),()) else some ((),(),(),v3.1,v4.1,(v3.2.1,v3.2.2.1,v3.2.2.2.1,v3.2.2.2.2.1,()),x.2,(0,[],[],0,[],[],()),())).bind fun (v6:Unit×Unit×Unit×B8×Int×acG×acJ×acJ×Unit)=>(av F (v6.2.2.2.2.2.1.1,v6.2.2.2.2.2.1.2.1,v6.2.2.2.2.2.1.2.2.1,v6.2.2.2.2.2.1.2.2.2.1,())).bind fun (v7:Unit×B8×Int×Int×Int×Unit)=>(al F ((v7.2.1,v7.2.2.1,v7.2.2.2.1,v7.2.2.2.2.1,()),58)).bind fun (v8:Bool×B8×Int×Int×Int×Unit)=>if (!v8.1)=true then (ao F ((v8.2.1,v8.2.2.1,v8.2.2.2.1,v8.2.2.2.2.1,()),3)).bind fun (v9:Unit×B8×Int×Int×Int×Unit)=>some (v6.2.2.2.2.2.2.1,v9.2.1,v9.2.2.1,v9.2.2.2.1,v9.2.2.2.2.1,()) else (R (v8.2.1,IntKind.i64.wrap (v8.2.2.1+1),v8.2.2.2.1,v8.2.2.2.2.1,())).bind fun (v10: acJ×B8×Int×Int×Int×Unit)=>(cj F (v6.2.2.2.2.2.2.1.2.2.2.2.1,v6.2.2.2.2.1,v6.2.2.2.1)).bind fun (v11:List B8)=>(cj F (v6.2.2.2.2.2.2.1.2.2.2.2.2.1,v6.2.2.2.2.1,v10.1.2.1)).bind fun (v12:List B8)=>some ((v6.2.2.2.2.2.2.1.1,v6.2.2.2.2.2.2.1.2.1,v6.2.2.2.2.2.2.1.2.2.1,v6.2.2.2.2.2.2.1.2.2.2.1,v11,v12,()),v10.2.1,v10.2.2.1,v10.2.2.2.1,v10.2.2.2.2.1,())
theorem nr (x: acG×acN) (F:Nat) (R: acG ->Option (acN×acG)):sc TT Tryz.prog (nk F R) fM (aj 226) F x=aZ F R x:=by kernel_rfl
theorem nx (F:Nat) (R: acG ->Option (acN×acG)) (hR:Ctr TT Tryz.prog 107 (ai TT aq R)):Ctr TT Tryz.prog 226 (ai TT fM (aZ F R)) :=
 pU (code:=aj 226) Tryz.func226 (by kernel_rfl) (by kernel_rfl) (by kernel_rfl) (by kernel_rfl) (af (af (af (af (af (af (af ah (cA F)) (cF F)) (bK F)) (js F)) (qK F)) (tY F)) hR) hm (by kernel_rfl) (fun x r h=>⟨F,(nr x F R).trans h⟩)
def fQ:Spec Kd:={ params:=[(.pin 148 acF)],ret:=(.one (.agg acK)),pins:=[acF],pl:={ nt:=73,joins:=[(1600045,(.norm,⟨[.tmp 0 (.a (.ptr 1 0)),.tmp 2 (.a (.ptr 128 0)),.tmp 3 (.a (.ptr 192 0)),.tmp 4 ac6,.box 1 (.cells 148 acF),.box 128 (.cells 102 acK),.box 192 (.cells 102 acK)],[],[.cellSlc 128 4 .str,.cellSlc 128 5 .str,.cellSlc 192 4 .str,.cellSlc 192 5 .str]⟩),[])],loops:=[(2,⟨[.tmp 0 (.a (.ptr 1 0)),.tmp 2 (.a (.ptr 128 0)),.tmp 3 (.a (.ptr 192 0)),.tmp 4 ac6,.box 1 (.cells 148 acF),.box 128 (.cells 102 acK),.box 192 (.cells 102 acK)],[],[.cellSlc 128 4 .str,.cellSlc 128 5 .str,.cellSlc 192 4 .str,.cellSlc 192 5 .str]⟩,(.exit 2,⟨[.tmp 0 (.a (.ptr 1 0)),.tmp 2 (.a (.ptr 128 0)),.tmp 3 (.a (.ptr 192 0)),.box 1 (.cells 148 acF),.box 128 (.cells 102 acK),.box 192 (.cells 102 acK)],[],[.cellSlc 128 4 .str,.cellSlc 128 5 .str,.cellSlc 192 4 .str,.cellSlc 192 5 .str]⟩),[]),(0,⟨[.tmp 0 (.a (.ptr 1 0)),.tmp 2 (.a (.ptr 128 0)),.tmp 3 (.a (.ptr 192 0)),.box 1 (.cells 148 acF),.box 128 (.cells 102 acK),.box 192 (.cells 102 acK)],[],[.cellSlc 128 4 .str,.cellSlc 128 5 .str,.cellSlc 192 4 .str,.cellSlc 192 5 .str]⟩,(.exit 0,⟨[.tmp 0 (.a (.ptr 1 0)),.tmp 2 (.a (.ptr 128 0)),.tmp 3 (.a (.ptr 192 0)),.box 1 (.cells 148 acF),.box 128 (.cells 102 acK),.box 192 (.cells 102 acK)],[],[.cellSlc 128 4 .str,.cellSlc 128 5 .str,.cellSlc 192 4 .str,.cellSlc 192 5 .str]⟩),[])] },rfrz:=[],ts:=[73],rc:=[(2,some 102)],rco:=[.cellSlc 128 4 .str,.cellSlc 128 5 .str] }
def nB (F:Nat) (R:tyS El aq.params->Option (aq.R El)):Env El:=(fq 107 (ai TT aq R) (fq 174 (ai TT iF (bB F)) (fq 227 (ai TT gz (ax F)) (fq 226 (ai TT fM (aZ F R)) (fq 170 (ai TT dV (al F)) (fq 225 (ai TT gy (aV F)) CZ))))))
def bS (F:Nat) (R: acG ->Option (acN×acG)) (v2:(Unit×
       Unit×
        Unit×
          acG×
           acJ×
            acJ×Unit)):Option ((Unit×
       Unit×
        Unit×
          acG×
           acJ×
            acJ×Unit) ⊕ (Unit×
       Unit×
        Unit×
          acG×
           acJ×
            acJ×Unit)) :=
 if decide (v2.2.2.2.1.2.2.2.1=0)=true then
        (aZ F R ((v2.2.2.2.1.1,v2.2.2.2.1.2.1,v2.2.2.2.1.2.2.1,v2.2.2.2.1.2.2.2.1,()),v2.2.2.2.2.2.1)).bind
         fun (v3: acJ×B8×Int×Int×Int×Unit) =>
         (ax F ((v3.2.1,v3.2.2.1,v3.2.2.2.1,v3.2.2.2.2.1,()),125)).bind
          fun (v4:Bool×B8×Int×Int×Int×Unit) =>
          if (!v4.1)=true then some (Sum.inr ((),(),(),(v4.2.1,v4.2.2.1,v4.2.2.2.1,v4.2.2.2.2.1,()),v2.2.2.2.2.1,v3.1,()))
          else some (Sum.inl ((),(),(),(v4.2.1,v4.2.2.1,v4.2.2.2.1,v4.2.2.2.2.1,()),v2.2.2.2.2.1,v3.1,()))
       else some (Sum.inr ((),v2.2))
def cP (F:Nat) (R: acG ->Option (acN×acG)) (v6:(Unit×
        Unit×
         Unit×
          Int×
            acG×
             acJ×
              acJ×Unit)):Option ((Unit×
        Unit×
         Unit×
          Int×
            acG×
             acJ×
              acJ×Unit) ⊕ (Unit×
        Unit×
         Unit×
           acG×
            acJ×
             acJ×Unit)) :=
 if decide (v6.2.2.2.1<(↑v6.2.2.2.2.2.2.1.2.2.2.2.1.length:Int))=true then
         (if decide (0<v6.2.2.2.1)=true then
            if decide (v6.2.2.2.2.2.2.1.2.1.length + [44].length<=9223372036854775807)=true then
             some
              ((),(),(),v6.2.2.2.1,(v6.2.2.2.2.1.1,v6.2.2.2.2.1.2.1,v6.2.2.2.2.1.2.2.1,v6.2.2.2.2.1.2.2.2.1,()),v6.2.2.2.2.2.1,
                (v6.2.2.2.2.2.2.1.1,v6.2.2.2.2.2.2.1.2.1++[44],v6.2.2.2.2.2.2.1.2.2.1,v6.2.2.2.2.2.2.1.2.2.2.1,v6.2.2.2.2.2.2.1.2.2.2.2.1,
                  v6.2.2.2.2.2.2.1.2.2.2.2.2.1,()),
                ())
            else none
           else some ((),(),v6.2.2)).bind
          fun
           (v7 :
            Unit×
             Unit×
              Unit×
               Int×
                 acG×
                  acJ×
                   acJ×Unit) =>
          (idx v7.2.2.2.2.2.2.1.2.2.2.2.1 v7.2.2.2.1).bind fun (v8:B8) =>
           (bB F v8).bind fun (v9:B8) =>
            if decide (v7.2.2.2.2.2.2.1.2.1.length+v9.length<=9223372036854775807)=true then
             if decide ((v7.2.2.2.2.2.2.1.2.1++v9).length + [58].length<=9223372036854775807)=true then
              (idx v7.2.2.2.2.2.2.1.2.2.2.2.2.1 v7.2.2.2.1).bind fun (v10:B8) =>
               if decide ((v7.2.2.2.2.2.2.1.2.1++v9++[58]).length+v10.length<=9223372036854775807)=true then
                some
                 (Sum.inl
                  ((),(),(),IntKind.i64.wrap (v7.2.2.2.1+1),
                    (v7.2.2.2.2.1.1,v7.2.2.2.2.1.2.1,v7.2.2.2.2.1.2.2.1,v7.2.2.2.2.1.2.2.2.1,()),v7.2.2.2.2.2.1,
                    (v7.2.2.2.2.2.2.1.1,v7.2.2.2.2.2.2.1.2.1++v9++[58]++v10,v7.2.2.2.2.2.2.1.2.2.1,v7.2.2.2.2.2.2.1.2.2.2.1,
                      v7.2.2.2.2.2.2.1.2.2.2.2.1,v7.2.2.2.2.2.2.1.2.2.2.2.2.1,()),
                    ()))
               else none
             else none
            else none
        else
         some
          (Sum.inr
           ((),(),(),(v6.2.2.2.2.1.1,v6.2.2.2.2.1.2.1,v6.2.2.2.2.1.2.2.1,v6.2.2.2.2.1.2.2.2.1,()),v6.2.2.2.2.2.1,v6.2.2.2.2.2.2.1,()))
def aO (F:Nat) (R: acG ->Option (acN×acG)) (x: acG):Option (acN×acG):=(aV F (x.1,x.2.1,x.2.2.1,x.2.2.2.1,())).bind fun (v0:Unit×B8×Int×Int×Int×Unit)=>(al F ((v0.2.1,v0.2.2.1,v0.2.2.2.1,v0.2.2.2.2.1,()),125)).bind fun (v1:Bool×B8×Int×Int×Int×Unit)=>if v1.1=true then some ((6,[123,125],[],0,[],[],()),v1.2.1,IntKind.i64.wrap (v1.2.2.1+1),IntKind.i64.wrap (v1.2.2.2.1-1),v1.2.2.2.2.1,()) else (bf (bS F R) F ((),(),(),(v1.2.1,v1.2.2.1,v1.2.2.2.1,v1.2.2.2.2.1,()),(0,[],[],0,[],[],()),(6,[],[],0,[],[],()),())).bind fun (v5:Unit×Unit×Unit×acG×acJ×acJ×Unit)=>(bf (cP F R) F ((),(),(),0,(v5.2.2.2.1.1,v5.2.2.2.1.2.1,v5.2.2.2.1.2.2.1,v5.2.2.2.1.2.2.2.1,()),v5.2.2.2.2.1,v5.2.2.2.2.2.1,())).bind fun (v11:Unit×Unit×Unit×acG×acJ×acJ×Unit)=>if decide ([123].length+v11.2.2.2.2.2.1.2.1.length<=9223372036854775807)=true then if decide (([123]++v11.2.2.2.2.2.1.2.1).length + [125].length<=9223372036854775807)=true then some ((v11.2.2.2.2.2.1.1,[123]++v11.2.2.2.2.2.1.2.1++[125],v11.2.2.2.2.2.1.2.2.1,v11.2.2.2.2.2.1.2.2.2.1,v11.2.2.2.2.2.1.2.2.2.2.1,v11.2.2.2.2.2.1.2.2.2.2.2.1,()),v11.2.2.2.1.1,v11.2.2.2.1.2.1,v11.2.2.2.1.2.2.1,v11.2.2.2.1.2.2.2.1,()) else none else none
theorem nw (x: acG) (F:Nat) (R: acG ->Option (acN×acG)):sc TT Tryz.prog (nB F R) fQ (aj 171) F x=aO F R x:=by kernel_rfl
theorem nq (F:Nat) (R: acG ->Option (acN×acG)) (hR:Ctr TT Tryz.prog 107 (ai TT aq R)):Ctr TT Tryz.prog 171 (ai TT fQ (aO F R)) :=
 pU (code:=aj 171) Tryz.func171 (by kernel_rfl) (by kernel_rfl) (by kernel_rfl) (by kernel_rfl) (af (af (af (af (af (af ah (jx F)) (cF F)) (nx F R hR)) (jy F)) (lH F)) hR) hm (by kernel_rfl) (fun x r h=>⟨F,(nw x F R).trans h⟩)
def og (F:Nat) (R:tyS El aq.params->Option (aq.R El)):Env El:=(fq 107 (ai TT aq R) (fq 176 (ai TT iQ (bp F)) (fq 175 (ai TT jt (au F)) (fq 174 (ai TT iF (bB F)) (fq 173 (ai TT gA (aM F)) (fq 172 (ai TT gC (aW F R)) (fq 171 (ai TT fQ (aO F R)) (fq 170 (ai TT dV (al F)) (fq 108 (ai TT fO (av F)) CZ)))))))))
def cB (F:Nat) (R: acG ->Option (acN×acG)) (x: acG):Option (acN×acG):=(av F (x.1,x.2.1,x.2.2.1,x.2.2.2.1,())).bind fun (v0:Unit×B8×Int×Int×Int×Unit)=>if (!decide (v0.2.2.2.2.1=0))=true then some ((0,[],[],0,[],[],()),v0.2.1,v0.2.2.1,v0.2.2.2.1,v0.2.2.2.2.1,()) else (al F ((v0.2.1,v0.2.2.1,v0.2.2.2.1,v0.2.2.2.2.1,()),123)).bind fun (v1:Bool×B8×Int×Int×Int×Unit)=>if v1.1=true then (aO F R (v1.2.1,v1.2.2.1,v1.2.2.2.1,v1.2.2.2.2.1,())).bind fun (v2: acJ×B8×Int×Int×Int×Unit)=>some v2 else (al F ((v1.2.1,v1.2.2.1,v1.2.2.2.1,v1.2.2.2.2.1,()),91)).bind fun (v3:Bool×B8×Int×Int×Int×Unit)=>if v3.1=true then (aW F R (v3.2.1,v3.2.2.1,v3.2.2.2.1,v3.2.2.2.2.1,())).bind fun (v4: acJ×B8×Int×Int×Int×Unit)=>some v4 else (al F ((v3.2.1,v3.2.2.1,v3.2.2.2.1,v3.2.2.2.2.1,()),34)).bind fun (v5:Bool×B8×Int×Int×Int×Unit)=>if v5.1=true then (aM F (v5.2.1,v5.2.2.1,v5.2.2.2.1,v5.2.2.2.2.1,())).bind fun (v6:B8×B8×Int×Int×Int×Unit)=>(bB F v6.1).bind fun (v7:B8)=>some ((4,v7,v6.1,0,[],[],()),v6.2.1,v6.2.2.1,v6.2.2.2.1,v6.2.2.2.2.1,()) else (au F ((v5.2.1,v5.2.2.1,v5.2.2.2.1,v5.2.2.2.2.1,()),[110,117,108,108])).bind fun (v8:Bool×B8×Int×Int×Int×Unit)=>if v8.1=true then some ((1,[110,117,108,108],[],0,[],[],()),v8.2.1,v8.2.2.1,v8.2.2.2.1,v8.2.2.2.2.1,()) else (au F ((v8.2.1,v8.2.2.1,v8.2.2.2.1,v8.2.2.2.2.1,()),[116,114,117,101])).bind fun (v9:Bool×B8×Int×Int×Int×Unit)=>if v9.1=true then some ((2,[116,114,117,101],[],0,[],[],()),v9.2.1,v9.2.2.1,v9.2.2.2.1,v9.2.2.2.2.1,()) else (au F ((v9.2.1,v9.2.2.1,v9.2.2.2.1,v9.2.2.2.2.1,()),[102,97,108,115,101])).bind fun (v10:Bool×B8×Int×Int×Int×Unit)=>if v10.1=true then some ((2,[102,97,108,115,101],[],0,[],[],()),v10.2.1,v10.2.2.1,v10.2.2.2.1,v10.2.2.2.2.1,()) else (bp F (v10.2.1,v10.2.2.1,v10.2.2.2.1,v10.2.2.2.2.1,())).bind fun (v11: acJ×B8×Int×Int×Int×Unit)=>some v11
def az (F:Nat):Nat->(acG)->Option (acN×acG)
 | 0,_=>none
 | d+1,x=>cB F (az F d) x
def gd (F:Nat) (x: acG):Option (acN×acG):=az F F x
theorem nR (x: acG) (F:Nat) (R: acG ->Option (acN×acG)):sc TT Tryz.prog (og F R) aq (aj 107) F x=cB F R x:=by kernel_rfl
theorem ec (F:Nat):∀ d,Ctr TT Tryz.prog 107 (ai TT aq (az F d))
 | 0=>xE _ _ _ _ (fun _=>rfl)
 | d+1=>pU (code:=aj 107) Tryz.func107 (by kernel_rfl) (by kernel_rfl) (by kernel_rfl) (by kernel_rfl) (af (af (af (af (af (af (af (af (af ah (cA F)) (cF F)) (nq F (az F d) (ec F d))) (oJ F (az F d) (ec F d))) (js F)) (lH F)) (oC F)) (nz F)) (ec F d)) hm (by kernel_rfl) (fun x r h=>⟨F,(nR x F (az F d)).trans h⟩)
theorem nT (F:Nat):Ctr TT Tryz.prog 107 (ai TT aq (gd F)):=ec F F
def vo:Spec Kd:={ params:=[ac8],ret:=(.tup [(.agg acK),ac6]),pins:=[],pl:={ nt:=37,joins:=[(800023,(.norm,⟨[.tmp 2 (.a (.ptr 128 0)),.tmp 4 (.a (.ptr 768 0)),.tmp 5 (.a (.ptr 320 0)),.box 128 (.cells 102 acK),.box 768 (.cells 148 acF),.box 320 (.cells 102 acK)],[],[.cellSlc 128 4 .str,.cellSlc 128 5 .str,.cellSlc 320 4 .str,.cellSlc 320 5 .str]⟩),[])],frz:=[(9,[768])] },rfrz:=[],ts:=[37,38],rc:=[(2,some 102),(3,none)],rco:=[.cellSlc 128 4 .str,.cellSlc 128 5 .str] }
def dG (F:Nat) (x:B8):Option (acN×Int):=if decide (400<(↑x.length:Int))=true then some ((0,[],[],0,[],[],()),5) else (gd F (x,0,0,0,())).bind fun (v0: acJ×B8×Int×Int×Int×Unit)=>(av F (v0.2.1,v0.2.2.1,v0.2.2.2.1,v0.2.2.2.2.1,())).bind fun (v1:Unit×B8×Int×Int×Int×Unit)=>(if decide (v1.2.2.1<(↑x.length:Int))=true then (ao F ((v1.2.1,v1.2.2.1,v1.2.2.2.1,v1.2.2.2.2.1,()),3)).bind fun (v2:Unit×B8×Int×Int×Int×Unit)=>some ((),(),(),(0,[],[],0,[],[],()),(v2.2.1,v2.2.2.1,v2.2.2.2.1,v2.2.2.2.2.1,()),v0.1,()) else some ((),(),(),(0,[],[],0,[],[],()),(v1.2.1,v1.2.2.1,v1.2.2.2.1,v1.2.2.2.2.1,()),v0.1,())).bind fun (v3:Unit×Unit×Unit×acJ×acG×acJ×Unit)=>if (!decide (v3.2.2.2.2.1.2.2.2.1=0))=true then some ((0,[],[],0,[],[],()),v3.2.2.2.2.1.2.2.2.1) else some (v3.2.2.2.2.2.1,0)
theorem nE (F:Nat):Ctr TT Tryz.prog 55 (ai TT vo (dG F)) :=
 ar F (code:=aj 55) Tryz.func55 (af (af (af ah (nT F)) (cA F)) (bK F)) fun x=>by kernel_rfl
end Go.Vm
