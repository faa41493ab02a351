import Derived.Test.YtihpjgcbmipdbaaGreatDoorPr7
import Derived.Test.YtihpjgcbmipdbaaGreatDoorFlaw23
import Derived.Test.YtihpjgcbmipdbaaGreatDoorPm4
import Derived.Test.YtihpjgcbmipdbaaGreatDoorFlaw29
set_option linter.unusedVariables false
set_option linter.unusedSimpArgs false
namespace Go.Vm
open Go.Proofs
open Go.Lib (itoa decDigits)
theorem ID {l:List PhT} (h:qT l=true):l.length<=10 /\ ∀ x∈l,wj x:=by
 unfold qT at h;rw[adi,ac9] at h;refine ⟨h.1,fun p hp => ?_⟩;have:=List.all_eq_true.1 h.2 p hp;simp only[adi,ac9] at this;exact ⟨by omega,by omega⟩
theorem QP (e:EnT):ae (fun F=>eK F ([(0,e)],1)) (jZ e):=by
 have h:=Tf [(0,e)] 1 (by simp);simpa using h
end Go.Vm
namespace Go.Vm
open Go.Proofs
abbrev aPr:By:=[48,49,50,51,52,53,54,55,56,57,97,98,99,100,101,102,48,49,50,51,52,53,54,55,56,57,97,98,99,100,101,102]
def aE:Ent:=⟨0,[107],1,1,2,0,aPr,9,20,0,[],[71,69,84],[47],[]⟩
abbrev aP:List PhT:=[(4,[],200,[111,107],())]
abbrev aJ:JbT:=(3,4,0,[107],1,2,false,0,())
abbrev aC:CfT:=(0,0,0,0,0,0,())
theorem Uo:B6 [107]=true:=by
 unfold B6;rw[if_neg (by decide),tw _ (by decide)]
 kernel_rfl
theorem We:kK [71,69,84]=([71,69,84],true):=by kernel_rfl
theorem Vt:kn [47]=([47],true):=by
 rw[xB (by decide)];have hw:jS (dF []) []=some []:=by rw[JH,jS,DE,if_neg (by simp),if_pos (.inl rfl),jS]
 rw[hw];rfl
theorem V0:iC aE=true:=by
 unfold iC lu zb oI Bc;simp[aE,Uo,We,Vt]
theorem Vx:iC (jd aE 200 [111,107] 5 aC)=true:=by
 have hu:=M5 5 (Ba aC);unfold iC lu zb Bc jd zg;simp[aE,Uo,hu.1,hu.2]
theorem Ul:zP aP=true:=by kernel_rfl
theorem XD:oM [111,107]=some [(false,[111],()),(false,[107],())]:=by kernel_rfl
theorem U7:tH [111,107] aE.t=[111,107]:=by
 unfold tH;rw[if_neg (by decide),XD];show Ib ((bF [111,107]).map (·.1)) [] = _;rw[tw _ (by decide)]
 kernel_rfl
theorem VZ:nC aP aE.t=((2,200,[111,107],0,[],0,0,0,[],[],()),0):=by
 unfold nC;rw[Ul,if_neg (by decide),if_neg (by decide)];show ((doT (4,[],200,[111,107],()) aE.t,0):DoT×Int) = _;unfold doT;rw[if_neg (by decide),if_neg (by decide),if_neg (by decide)];show (((2,200,tH [111,107] aE.t,0,[],0,0,0,[],[],()),0):DoT×Int) = _;rw[U7]
theorem Vr:xl aJ aE aP 5 aC=MM 4 (jd aE 200 [111,107] 5 aC) zCa (3,4,200,[111,107],0,1,()):=by
 have ho:vL aJ aE 5=true:=by decide
 have hk:okP aE aJ.to=0:=by
  unfold okP;rw[V0]
  decide
 have hf:vm aE aJ.to 200 [111,107] 5 aC=(jd aE 200 [111,107] 5 aC,0):=by
  unfold vm;rw[if_pos hk];exact if_pos Vx
 unfold xl;rw[ho,if_neg (by decide),if_neg (by decide),VZ,if_neg (by decide),if_neg (by decide),if_neg (by decide)];show vZ aJ 4 (vm aE aJ.to 200 [111,107] 5 aC) (3,4,200,[111,107],0,1,()) = _;rw[hf];rfl
theorem Sy:xl aJ aE aP 9 aC=AL aJ:=by
 have ho:vL aJ aE 9=false:=by decide
 unfold xl;rw[ho,if_pos rfl]
theorem LK:oL aE:=⟨by decide,by decide,by decide,by decide⟩
theorem Uq:∀ x∈aP,wj x:=fun x hx=>Na ((MS Ul).1 x hx)
theorem Oc:ae (fun F=>gh F ()) true:=by
 have h1:=K4 aJ aE aP 5 aC LK (by decide) Uq;have h2:=K4 aJ aE aP 9 aC LK (by decide) Uq;rw[Vr] at h1;rw[Sy] at h2;unfold gh;refine ae.bind (.of fun F=>rfl) (ae.bind h1 (ae.bind h2 (.of fun F => ?_)));rfl
abbrev CsT:=Int×Int×Int×By×Int×Int×Bool×Int×Int×By×Int×Int×Int×Int×By×Int×Int×Int×By×By×By×By×List PhT×Int×By×Int×Int×Int×Int×Int×Int×Int×Int×Int×Int×Int×Unit
def mkC (j:JbT) (e:Ent) (p:List PhT) (r:RpT) (now:Int) (c:CfT):CsT :=
 (j.1,j.2.1,j.2.2.1,j.2.2.2.1,j.2.2.2.2.1,j.2.2.2.2.2.1,j.2.2.2.2.2.2.1,j.2.2.2.2.2.2.2.1,e.te,e.key,e.st,e.ep,e.tk,e.pt,e.pr,e.le,e.ex,e.su,e.tx,e.me,e.pa,e.bo,p,r.1,r.2.1,r.2.2.1,r.2.2.2.1,r.2.2.2.2.1,r.2.2.2.2.2.1,now,c.1,c.2.1,c.2.2.1,c.2.2.2.1,c.2.2.2.2.1,c.2.2.2.2.2.1,())
theorem O9 (x:CsT):∃ j e p r now c,mkC j e p r now c=x:=by
 obtain ⟨a1,a2,a3,a4,a5,a6,a7,a8,b1,b2,b3,b4,b5,b6,b7,b8,b9,b10,b11,b12,b13,b14,p,r1,r2,r3,r4,r5,r6,now,c1,c2,c3,c4,c5,c6,⟨⟩⟩:=x;exact ⟨(a1,a2,a3,a4,a5,a6,a7,a8,()),⟨b1,b2,b3,b4,b5,b6,b7,b8,b9,b10,b11,b12,b13,b14⟩,p,(r1,r2,r3,r4,r5,r6,()),now,(c1,c2,c3,c4,c5,c6,()),rfl⟩
def Ar (j:JbT) (e:Ent) (p:List PhT) (r:RpT):Bool:=jZ e.t&&(qT p&&(decide (j.ky.length<=100)&&decide (r.2.1.length<=100)))
theorem NL (j:JbT) (e:Ent) (p:List PhT) (r:RpT) (now:Int) (c:CfT):ae (fun F=>fX F (mkC j e p r now c)) (Ar j e p r):=by
 unfold fX Ar;have e1:∀ a:By,decide ((a.length:Int)<=100)=decide (a.length<=100):=fun a=>by rw[decide_eq_decide]; omega
 refine ae.bind (r:=(((),jZ e.t&&qT p,mkC j e p r now c,()):Unit×Bool×CsT×Unit)) ?_ ?_
 ·refine ae.bind (QP e.t) ?_
  cases jZ e.t with
  | true=>exact ae.pos rfl (ae.bind (Mt p) (.ret _))
  | false=>exact ae.neg adj (.ret _)
 cases jZ e.t with
 | false=>exact ae.bind (ae.neg adj (.ret _)) (ae.bind (ae.neg adj (.ret _)) (.of fun F=>rfl))
 | true =>
  cases qT p with
  | false=>exact ae.bind (ae.neg adj (.ret _)) (ae.bind (ae.neg adj (.ret _)) (.of fun F=>rfl))
  | true =>
   refine ae.bind (r:=(((),decide (j.ky.length<=100),mkC j e p r now c,()):Unit×Bool×CsT×Unit)) (ae.pos rfl (.of fun F => ?_)) ?_
   ·show some ((),decide ((j.ky.length:Int)<=100),mkC j e p r now c,()) = _
    rw[e1]
   cases decide (j.ky.length<=100) with
   | false=>exact ae.bind (ae.neg adj (.ret _)) (.of fun F=>rfl)
   | true =>
    refine ae.bind (r:=((decide (r.2.1.length<=100),()):Bool×Unit)) (ae.pos rfl (.of fun F => ?_)) (.of fun F=>rfl);show some (decide ((r.2.1.length:Int)<=100),()) = _;rw[e1]
theorem QT {e:Ent} (h:jZ e.t=true):oL e:=by
 have:=P3 e.t h;exact ⟨this.2.1,this.2.2.1,this.2.2.2,this.1⟩
abbrev PlT.st (x:PlT):Int:=x.2.2.2.1
end Go.Vm
namespace Go.Vm
open Go.Proofs
theorem Jf (j:JbT) (e:Ent) (p:List PhT) (r:RpT) (now:Int) (c:CfT):ae (fun F=>eY F (mkC j e p r now c)) true:=by
 unfold eY;refine ae.bind Oc (ae.neg (by decide) (ae.bind (NL j e p r now c) ?_));cases hs:Ar j e p r with
 | false=>exact ae.pos rfl (.ret _)
 | true =>
  unfold Ar at hs;rw[adi,adi] at hs;obtain ⟨hl,hb⟩:=ID hs.2.1;have he:=QT hs.1;refine ae.neg (by decide) ?_;have h1:=K4 j e p now c he (by omega) hb;have h2:=Td j e p now c he (by omega) hb;have h3:=Vo j e p r now c he (by omega);have h4:=SV j e p r now c he (by omega);generalize xl j e p now c=a at *
  generalize IE j e p r now c=b at *
  refine ae.bind (r:=((true,()):Bool×Unit)) ?_ (.ret _);refine ae.bind h1 (ae.bind h2 (ae.pos (by simp only[decide_true,Bool.and_self]) ?_));refine ae.bind h3 (ae.bind h4 (ae.pos (by simp only[decide_true,Bool.and_self]) ?_));refine ae.bind (.of fun F=>FO F j e now) (ae.bind (.of fun F=>AB F j e now) (ae.pos (by simp) ?_));exact ae.bind (.of fun F=>An F j r) (ae.bind (.of fun F=>xd F j r) (.of fun F=>by simp))
theorem pure_conciergelaw29_JobPlans (x:CsT):∃ F,eY F x=some true:=by
 obtain ⟨j,e,p,r,now,c,rfl⟩:=O9 x;exact (Jf j e p r now c).ex
end Go.Vm
