import Derived.Test.YtihpjgcbmipdbaaGreatDoorPr7
import Derived.Test.YtihpjgcbmipdbaaGreatDoorPg4
import Derived.Test.YtihpjgcbmipdbaaGreatDoorFlaw23
import Derived.Test.YtihpjgcbmipdbaaGreatDoorPm4
import Derived.Test.YtihpjgcbmipdbaaGreatDoorFlaw29
import Derived.Test.YtihpjgcbmipdbaaGreatDoorFstore
import Derived.Test.YtihpjgcbmipdbaaGreatDoorFlaw29p
/- Programs: the wake, and the laws of programs there and back, of any text, of what is next. No condition but on lengths. -/
namespace Go.Vm
open Go.Proofs
open Go.Lib (itoa decDigits)
set_option linter.unusedVariables false
set_option linter.unusedSimpArgs false
/-! ### the same -/
theorem AJ {l:List PhT} (h:l7 l=true):l.length≤10 ∧ ∀ x∈l,wA x:=by
 unfold l7 at h
 rw [Bool.and_eq_true,decide_eq_true_eq] at h
 refine ⟨h.1,fun p hp => ?_⟩
 have:=List.all_eq_true.1 h.2 p hp
 simp only [Bool.and_eq_true,decide_eq_true_eq] at this
 exact ⟨by omega,by omega⟩
theorem Ib (e:EnT):ae (fun F=>cD F ([(0,e)],1)) (fW e):=by
 have h:=Jy [(0,e)] 1 (by simp)
 simpa using h
end Go.Vm
/- Jobs: the wake, small cases, the laws of what a job is made of and of failing. No condition. -/
namespace Go.Vm
open Go.Proofs
set_option linter.unusedVariables false
set_option linter.unusedSimpArgs false
/-! ### the wake -/
abbrev aPr:By := [48,49,50,51,52,53,54,55,56,57,97,98,99,100,101,102,48,49,50,51,52,53,54,55,56,57,97,98,99,100,101,102]
def aE:Ent:=⟨0,[107],1,1,2,0,aPr,9,20,0,[],[71,69,84],[47],[]⟩
abbrev aP:List PhT := [(4,[],200,[111,107],())]
abbrev aJ:JbT:=(3,4,0,[107],1,2,false,0,())
abbrev aC:CfT:=(0,0,0,0,0,0,())
theorem Kf:vL [107]=true:=by
 unfold vL
 rw [if_neg (by decide),oh _ (by decide)]
 kernel_rfl
theorem KY:gT [71,69,84]=([71,69,84],true):=by kernel_rfl
theorem K8:gk [47]=([47],true):=by
 rw [ru (by decide)]
 have hw:fV (bS []) []=some []:=by rw [CF,fV,xq,if_neg (by simp),if_pos (.inl rfl),fV]
 rw [hw]
 rfl
theorem KQ:fL aE=true:=by
 unfold fL gJ ni kx nT
 simp [aE,Kf,KY,K8]
theorem KV:fL (kZ aE 200 [111,107] 5 aC)=true:=by
 have hu:=xj 5 (yu aC)
 unfold fL gJ ni nT kZ vd
 simp [aE,Kf,hu.1,hu.2]
theorem Kq:BC aP=true:=by kernel_rfl
theorem LK:oB [111,107]=some [(false,[111],()),(false,[107],())]:=by kernel_rfl
theorem KA:qR [111,107] aE.t = [111,107]:=by
 unfold qR
 rw [if_neg (by decide),LK]
 show EH ((bt [111,107]).map (·.1)) [] = _
 rw [oh _ (by decide)]
 kernel_rfl
theorem KX:lR aP aE.t=((2,200,[111,107],0,[],0,0,0,[],[],()),0):=by
 unfold lR
 rw [Kq,if_neg (by decide),if_neg (by decide)]
 show ((doT (4,[],200,[111,107],()) aE.t,0):DoT×Int) = _
 unfold doT
 rw [if_neg (by decide),if_neg (by decide),if_neg (by decide)]
 show (((2,200,qR [111,107] aE.t,0,[],0,0,0,[],[],()),0):DoT×Int) = _
 rw [KA]
theorem KG:qL aJ aE aP 5 aC=yQ 4 (kZ aE 200 [111,107] 5 aC) zCa (3,4,200,[111,107],0,1,()):=by
 have ho:lT aJ aE 5=true:=by decide
 have hk:okP aE aJ.to=0:=by
  unfold okP
  rw [KQ]
  decide
 have hf:r9 aE aJ.to 200 [111,107] 5 aC=(kZ aE 200 [111,107] 5 aC,0):=by
  unfold r9
  rw [if_pos hk]
  exact if_pos KV
 unfold qL
 rw [ho,if_neg (by decide),if_neg (by decide),KX,if_neg (by decide),if_neg (by decide),if_neg (by decide)]
 show wC aJ 4 (r9 aE aJ.to 200 [111,107] 5 aC) (3,4,200,[111,107],0,1,()) = _
 rw [hf]
 rfl
theorem JD:qL aJ aE aP 9 aC=Ap aJ:=by
 have ho:lT aJ aE 9=false:=by decide
 unfold qL
 rw [ho,if_pos rfl]
theorem D8:mn aE:=⟨by decide,by decide,by decide,by decide⟩
theorem Kn : ∀ x∈aP,wA x:=fun x hx=>EU ((Fq Kq).1 x hx)
theorem FD:ae (fun F=>dE F ()) true:=by
 have h1:=Cl aJ aE aP 5 aC D8 (by decide) Kn
 have h2:=Cl aJ aE aP 9 aC D8 (by decide) Kn
 rw [KG] at h1
 rw [JD] at h2
 unfold dE
 refine ae.bind (.of fun F=>rfl) (ae.bind h1 (ae.bind h2 (.of fun F => ?_)))
 rfl
/-! ### cases -/
abbrev CsT:=Int×Int×Int×By×Int×Int×Bool×Int×Int×By×Int×Int×Int×Int×By×Int×Int×Int×By×By×By×By×List PhT×Int×By×Int×Int×Int×Int×Int×Int×Int×Int×Int×Int×Int×Unit
def mkC (j:JbT) (e:Ent) (p:List PhT) (r:RpT) (now:Int) (c:CfT):CsT :=
 (j.1,j.2.1,j.2.2.1,j.2.2.2.1,j.2.2.2.2.1,j.2.2.2.2.2.1,j.2.2.2.2.2.2.1,j.2.2.2.2.2.2.2.1,e.te,e.key,e.st,e.ep,e.tk,e.pt,e.pr,e.le,e.ex,e.su,e.tx,e.me,e.pa,e.bo,p,r.1,r.2.1,r.2.2.1,r.2.2.2.1,r.2.2.2.2.1,r.2.2.2.2.2.1,now,c.1,c.2.1,c.2.2.1,c.2.2.2.1,c.2.2.2.2.1,c.2.2.2.2.2.1,())
theorem GL (x:CsT) : ∃ j e p r now c,mkC j e p r now c=x:=by
 obtain ⟨a1,a2,a3,a4,a5,a6,a7,a8,b1,b2,b3,b4,b5,b6,b7,b8,b9,b10,b11,b12,b13,b14,p,r1,r2,r3,r4,r5,r6,now,c1,c2,c3,c4,c5,c6,⟨⟩⟩:=x
 exact ⟨(a1,a2,a3,a4,a5,a6,a7,a8,()),⟨b1,b2,b3,b4,b5,b6,b7,b8,b9,b10,b11,b12,b13,b14⟩,p,(r1,r2,r3,r4,r5,r6,()),now,(c1,c2,c3,c4,c5,c6,()),rfl⟩
def oN (j:JbT) (e:Ent) (p:List PhT) (r:RpT):Bool:=fW e.t && (l7 p && (decide (j.ky.length≤100) && decide (r.2.1.length≤100)))
theorem Eg (j:JbT) (e:Ent) (p:List PhT) (r:RpT) (now:Int) (c:CfT):ae (fun F=>dF F (mkC j e p r now c)) (oN j e p r):=by
 unfold dF oN
 have e1 : ∀ a:By,decide ((a.length:Int)≤100)=decide (a.length≤100):=fun a=>by rw [decide_eq_decide]; omega
 refine ae.bind (r:=(((),fW e.t && l7 p,mkC j e p r now c,()):Unit×Bool×CsT×Unit)) ?_ ?_
 ·refine ae.bind (Ib e.t) ?_
  cases fW e.t with
  | true=>exact ae.pos rfl (ae.bind (Ed p) (.ret _))
  | false=>exact ae.neg Bool.false_ne_true (.ret _)
 cases fW e.t with
 | false=>exact ae.bind (ae.neg Bool.false_ne_true (.ret _)) (ae.bind (ae.neg Bool.false_ne_true (.ret _)) (.of fun F=>rfl))
 | true =>
  cases l7 p with
  | false=>exact ae.bind (ae.neg Bool.false_ne_true (.ret _)) (ae.bind (ae.neg Bool.false_ne_true (.ret _)) (.of fun F=>rfl))
  | true =>
   refine ae.bind (r:=(((),decide (j.ky.length≤100),mkC j e p r now c,()):Unit×Bool×CsT×Unit)) (ae.pos rfl (.of fun F => ?_)) ?_
   ·show some ((),decide ((j.ky.length:Int)≤100),mkC j e p r now c,()) = _
    rw [e1]
   cases decide (j.ky.length≤100) with
   | false=>exact ae.bind (ae.neg Bool.false_ne_true (.ret _)) (.of fun F=>rfl)
   | true =>
    refine ae.bind (r:=((decide (r.2.1.length≤100),()):Bool×Unit)) (ae.pos rfl (.of fun F => ?_)) (.of fun F=>rfl)
    show some (decide ((r.2.1.length:Int)≤100),()) = _
    rw [e1]
theorem HH {e:Ent} (h:fW e.t=true):mn e:=by
 have:=GH e.t h
 exact ⟨this.2.1,this.2.2.1,this.2.2.2,this.1⟩
/-! ### what a job is made of -/
abbrev PlT.st (x:PlT):Int:=x.2.2.2.1
end Go.Vm
/- Jobs: the law of what a plan puts. No condition. -/
namespace Go.Vm
open Go.Proofs
set_option linter.unusedVariables false
set_option linter.unusedSimpArgs false
/-! ### the store's look -/
theorem xl : ∀ a:B8,Op.bytesLess a a=false
 | []=>rfl
 | c :: a=>by unfold Op.bytesLess; simp [xl a]
theorem Gj (e:Ent):ae (fun F=>dK F ([e.t],e.te,e.key)) (0,true):=by
 unfold dK
 have hx:idx [e.t] 0=some e.t:=eE [e.t] 0 e.t rfl
 have ha : ∀ F,dJ F (e.te,e.key,e.te,e.key)=some false:=by
  intro F
  unfold dJ
  simp [xl]
 have hl:ag dW ([e.t],e.te,e.key,0,()) (.inr (0,true,())):=by
  refine ag.fin ?_
  unfold dW
  refine ae.pos rfl (ae.bind (r:=(([e.t],e.te,e.key,0,true,()):List En×Int×By×Int×Bool×Unit)) ?_ ?_)
  ·exact ae.bind (.of fun F=>hx) (ae.bind (.of fun F=>hx) (ae.bind (.of ha) (.ret _)))
  ·refine ae.pos rfl (ae.bind (r:=((0,true,()):Int×Bool×Unit)) ?_ (.ret _))
   refine ae.bind (.of fun F=>hx) (ae.pos (decide_eq_true rfl) (ae.bind (.of fun F=>hx) (.of fun F => ?_)))
   show some (0,decide (e.key=e.key),()) = _
   rw [decide_eq_true rfl]
 exact ae.bind hl.run (.ret _)
theorem KE (e:Ent):ae (fun F=>ed F ([e.t],e.te,e.key)) (e.t,true):=by
 unfold ed
 have hx:idx [e.t] 0=some e.t:=eE [e.t] 0 e.t rfl
 exact ae.bind (Gj e) (ae.neg (by decide) (ae.bind (.of fun F=>hx) (.ret _)))
def uw (e x:Ent):Prop:=x.te=e.te∧x.key=e.key∧x.ep=e.ep∧x.tk=e.tk∧x.pr=e.pr∧fL x=true∧e.st=1∧e.pt≤x.pt
theorem Jr (e x:Ent) (h:uw e x):ae (fun F=>cf F ((200,[e.t],e.ep,()),1,x.t)) (0,200,[e.t],e.ep,()):=by
 obtain ⟨h1,h2,h3,h4,h5,h6,h7,h8⟩:=h
 unfold cf
 have hr:ae (fun F=>cF F (1,x.t)) true:=by
  unfold cF
  have:=uU x
  rw [h6] at this
  exact ae.pos rfl (ae.bind this (.ret _))
 refine ae.bind hr (ae.neg (by decide) ?_)
 have hg:=KE e
 rw [← h1, ← h2] at hg
 refine ae.bind (ae.bind hg (.ret _)) ?_
 refine ae.neg (show ¬ decide ((1:Int)=2)=true by decide) ?_
 refine ae.bind (ae.pos rfl (.ret _)) ?_
 refine ae.pos (by show decide (e.ep=x.ep)=true; rw [h3]; exact decide_eq_true rfl) ?_
 refine ae.bind (ae.pos (by show (!decide (e.st=1))=false; rw [decide_eq_true h7]; rfl) (.ret _)) ?_
 refine ae.bind (ae.pos (by show decide (x.tk<e.tk)=false; rw [h4]; exact decide_eq_false (Int.lt_irrefl _)) (.ret _)) ?_
 exact ae.neg (by show ¬ decide (x.pt<e.pt)=true; rw [decide_eq_true_eq]; omega) (.ret _)
/-! ### what the steps leave may be -/
theorem lL (e:Ent):fL e=true ↔ gJ e.te e.key=true∧nT e=true∧ni e=true:=by
 unfold fL
 rw [Bool.and_eq_true,Bool.and_eq_true,and_assoc]
theorem xd {e:Ent} {tok now:Int} {c:CfT} (h:(nk e tok now c).2=0):uw e (nk e tok now c).1:=by
 unfold nk at h ⊢
 by_cases hk:okP e tok=0
 ·obtain ⟨s1,m1,_⟩:=og hk
  rw [if_pos hk] at h ⊢
  by_cases h5:e.pt=5
  ·rw [if_pos h5] at h; cases h
  ·rw [if_neg h5]
   have hb:=D9 m1
   obtain ⟨a1,a2,a3⟩:=(lL e).1 m1
   have hu:=xj now (pN c)
   refine ⟨rfl,rfl,rfl,rfl,rfl,(lL _).2 ⟨a1,?_,?_⟩,s1,by show e.pt≤e.pt+1; omega⟩
   ·unfold nT at a2 ⊢
    rw [decide_eq_true_eq] at a2 ⊢
    refine ⟨a2.1,a2.2.1,a2.2.2.1,a2.2.2.2.1,?_,?_,a2.2.2.2.2.2.2.1,hu.1,hu.2,a2.2.2.2.2.2.2.2.2.2⟩
    ·show 0≤e.pt+1; omega
    ·show e.pt+1≤5; omega
   ·unfold ni at a3 ⊢
    rw [if_pos s1] at a3
    exact (if_pos s1).trans a3
 ·rw [if_neg hk] at h; exact absurd h hk
theorem GK {e:Ent} {tok now:Int} (h:(uK e tok now).2=0):uw e (uK e tok now).1:=by
 unfold uK at h ⊢
 by_cases hk:okP e tok=0
 ·obtain ⟨s1,m1,_⟩:=og hk
  rw [if_pos hk]
  obtain ⟨a1,a2,a3⟩:=(lL e).1 m1
  have hu:=Br now
  refine ⟨rfl,rfl,rfl,rfl,rfl,(lL _).2 ⟨a1,?_,?_⟩,s1,Int.le_refl _⟩
  ·unfold nT at a2 ⊢
   rw [decide_eq_true_eq] at a2 ⊢
   exact ⟨a2.1,a2.2.1,a2.2.2.1,a2.2.2.2.1,a2.2.2.2.2.1,a2.2.2.2.2.2.1,a2.2.2.2.2.2.2.1,hu.1,hu.2,a2.2.2.2.2.2.2.2.2.2⟩
  ·unfold ni at a3 ⊢
   rw [if_pos s1] at a3
   exact (if_pos s1).trans a3
 ·rw [if_neg hk] at h; exact absurd h hk
theorem FC {e:Ent} {tok:Int} (h:(pq e tok).2=0):uw e (pq e tok).1:=by
 unfold pq at h ⊢
 by_cases hk:okP e tok=0
 ·obtain ⟨s1,m1,_⟩:=og hk
  rw [if_pos hk]
  obtain ⟨a1,a2,a3⟩:=(lL e).1 m1
  obtain ⟨b1,b2,_⟩:=Gl s1 m1
  refine ⟨rfl,rfl,rfl,rfl,rfl,(lL _).2 ⟨a1,?_,?_⟩,s1,Int.le_refl _⟩
  ·unfold nT at a2 ⊢
   rw [decide_eq_true_eq] at a2 ⊢
   exact ⟨a2.1,a2.2.1,a2.2.2.1,a2.2.2.2.1,a2.2.2.2.2.1,a2.2.2.2.2.2.1,a2.2.2.2.2.2.2.1,Int.le_refl _,by show (0:Int)≤1099511627776; decide,a2.2.2.2.2.2.2.2.2.2⟩
  ·unfold ni vd
   simp [b1,b2]
 ·rw [if_neg hk] at h; exact absurd h hk
theorem Hn {e:Ent} {tok s now:Int} {t:By} {c:CfT} (h:(r9 e tok s t now c).2=0):uw e (r9 e tok s t now c).1:=by
 unfold r9 at h ⊢
 by_cases hk:okP e tok=0
 ·obtain ⟨s1,m1,_⟩:=og hk
  rw [if_pos hk] at h ⊢
  split at h
  ·rename_i h1
   rw [if_pos h1]
   exact ⟨rfl,rfl,rfl,rfl,rfl,h1,s1,Int.le_refl _⟩
  ·cases h
 ·rw [if_neg hk] at h; exact absurd h hk
/-! ### plans -/
def zv (j:JbT) (e:Ent) (now:Int) (P:PlT):Prop :=
 (∃ k c a,P=yQ k Ent.zero c a∧k≠3∧k≠4)∨(∃ k x c a,P=yQ k x c a∧(k=3∨k=4)∧lT j e now=true∧uw e x)
theorem uq {j:JbT} {e:Ent} {now k:Int} {x:Ent×Int} {a:AnT} (hk:k=3∨k=4) (ho:lT j e now=true) (hg:x.2=0→uw e x.1):zv j e now (wC j k x a):=by
 unfold wC
 by_cases h:x.2=0
 ·rw [if_pos h]; exact .inr ⟨k,x.1,zCa,a,rfl,hk,ho,hg h⟩
 ·rw [if_neg h]; exact .inl ⟨1,zCa,lp j,rfl,by decide,by decide⟩
theorem I6 (j:JbT) (e:Ent) (p:List PhT) (now:Int) (c:CfT):zv j e now (qL j e p now c):=by
 unfold qL
 by_cases ho:lT j e now=false
 ·rw [if_pos ho]; exact .inl ⟨1,zCa,lp j,rfl,by decide,by decide⟩
 rw [if_neg ho]
 have ho':lT j e now=true:=by simpa using ho
 repeat' split
 ·exact .inl ⟨0,zCa,zAn,rfl,by decide,by decide⟩
 ·exact .inl ⟨1,zCa,lp j,rfl,by decide,by decide⟩
 ·exact .inl ⟨2,_,zAn,rfl,by decide,by decide⟩
 ·exact uq (.inl rfl) ho' xd
 ·exact uq (.inr rfl) ho' Hn
theorem IE (j:JbT) (e:Ent) (p:List PhT) (r:RpT) (now:Int) (c:CfT):zv j e now (A3 j e p r now c):=by
 unfold A3
 by_cases hc:vr j r=false∨r.code<1∨3<r.code
 ·rw [if_pos hc]; exact .inl ⟨0,zCa,zAn,rfl,by decide,by decide⟩
 rw [if_neg hc]
 by_cases ho:lT j e now=false
 ·rw [if_pos ho]; exact .inl ⟨1,zCa,lp j,rfl,by decide,by decide⟩
 rw [if_neg ho]
 have ho':lT j e now=true:=by simpa using ho
 repeat' split
 ·exact uq (.inl rfl) ho' xd
 ·exact uq (.inr rfl) ho' FC
 ·exact uq (.inr rfl) ho' GK
/-! ### the law -/
theorem wT (j:JbT) (e:Ent) (p:List PhT) (r:RpT) (now:Int) (c:CfT) (L:List PlT) (i:Nat) (P:PlT) (hl:L.length=2) (hP:L[i]? = some P) (ok:zv j e now P) :
  ae (fun F=>bC F ((),(),L,2,(i:Int),mkC j e p r now c,e.t,())) (.inl ((),(),L,2,((i+1:Nat):Int),mkC j e p r now c,e.t,())):=by
 have hi:i<2:=by
  rcases Nat.lt_or_ge i L.length with h | h
  ·omega
  ·rw [List.getElem?_eq_none h] at hP; cases hP
 have hx:idx L (i:Int)=some P:=eE _ _ _ hP
 have hw:IntKind.i64.wrap ((i:Int)+1)=((i+1:Nat):Int):=by rw [wrap64 _ (by omega) (by omega)]; omega
 unfold bC
 refine ae.pos (by rw [decide_eq_true_eq]; simp only; omega) ?_
 refine ae.bind (r:=(.inl ((),(),L,2,(i:Int),mkC j e p r now c,e.t,()):(Unit×Unit×List PlT×Int×Int×CsT×En×Unit) ⊕ Bool×Unit)) ?_ (.of fun F=>by rw [← hw]; rfl)
 refine ae.bind (.of fun F=>hx) ?_
 rcases ok with ⟨k,ca,a,rfl,k3,k4⟩ | ⟨k,x,ca,a,rfl,hk,ho,hg⟩
 ·refine ae.bind (ae.pos (by show (!decide (k=3))=true; rw [decide_eq_false k3]; rfl) (.ret _)) ?_
  refine ae.pos (by show (!decide (k=4))=true; rw [decide_eq_false k4]; rfl) ?_
  exact ae.neg (show ¬ (false=true) by decide) (.ret _)
 ·obtain ⟨g1,g2,g3,g4,g5,_⟩:=id hg
  refine ae.bind (r:=(((),(),(),L,2,(i:Int),false,mkC j e p r now c,e.t,yQ k x ca a,()):Unit×Unit×Unit×List PlT×Int×Int×Bool×CsT×En×PlT×Unit)) ?_ ?_
  ·by_cases k3:k=3
   ·exact ae.neg (by show ¬ (!decide (k=3))=true; rw [decide_eq_true k3]; decide) (.ret _)
   ·have k4:k=4:=hk.resolve_left k3
    refine ae.pos (by show (!decide (k=3))=true; rw [decide_eq_false k3]; rfl) (.of fun F => ?_)
    show some ((),(),(),L,2,(i:Int), !decide (k=4),mkC j e p r now c,e.t,yQ k x ca a,()) = _
    rw [decide_eq_true k4]
    rfl
  refine ae.neg Bool.false_ne_true ?_
  refine ae.bind (ae.bind (.of fun F=>(zB F j e now).trans (by rw [ho])) (ae.pos rfl (.ret _))) ?_
  refine ae.bind (ae.pos (by show (!decide (x.te=e.te))=false; rw [decide_eq_true g1]; rfl) (.ret _)) ?_
  refine ae.bind (ae.pos (by show (!decide (x.key=e.key))=false; rw [decide_eq_true g2]; rfl) (.ret _)) ?_
  refine ae.bind (ae.pos (by show (!decide (x.ep=e.ep))=false; rw [decide_eq_true g3]; rfl) (.ret _)) ?_
  refine ae.bind (ae.pos (by show (!decide (x.tk=e.tk))=false; rw [decide_eq_true g4]; rfl) (.ret _)) ?_
  refine ae.bind (ae.pos (by show (!decide (x.pr=e.pr))=false; rw [decide_eq_true g5]; rfl) (ae.bind (Jr e x hg) (.ret _))) ?_
  exact ae.neg Bool.false_ne_true (.ret _)
theorem EJ (j:JbT) (e:Ent) (p:List PhT) (r:RpT) (now:Int) (c:CfT):ae (fun F=>cW F (mkC j e p r now c)) true:=by
 unfold cW
 refine ae.bind FD (ae.neg (by decide) ?_)
 refine ae.bind (r:=(((),(), !(oN j e p r && fL e),mkC j e p r now c,e.t,()):Unit×Unit×Bool×CsT×En×Unit)) ?_ ?_
 ·refine ae.bind (Eg j e p r now c) ?_
  cases oN j e p r with
  | true=>exact ae.pos rfl (ae.bind (uU e) (.ret _))
  | false=>exact ae.neg (by decide) (.ret _)
 cases hs:(oN j e p r && fL e) with
 | false=>exact ae.pos rfl (.ret _)
 | true =>
  rw [Bool.and_eq_true] at hs
  have hs1:=hs.1
  unfold oN at hs1
  rw [Bool.and_eq_true,Bool.and_eq_true] at hs1
  obtain ⟨hl,hb⟩:=AJ hs1.2.1
  have he:=HH hs1.1
  refine ae.neg Bool.false_ne_true ?_
  have h1:=Cl j e p now c he (by omega) hb
  have h2:=KU j e p r now c he (by omega)
  have s1:=I6 j e p now c
  have s2:=IE j e p r now c
  generalize qL j e p now c=a at *
  generalize A3 j e p r now c=b at *
  refine ae.bind (ae.bind h1 (ae.bind h2 (.ret _))) ?_
  have hL:ag bC ((),(),[a,b],2,0,mkC j e p r now c,e.t,()) (.inl ()):=by
   refine ag.step (wT j e p r now c [a,b] 0 a rfl rfl s1) (ag.step (wT j e p r now c [a,b] 1 b rfl rfl s2) (ag.fin (.of fun F => ?_)))
   unfold bC
   exact if_neg (show ¬ decide ((2:Int)<2)=true by decide)
  exact ae.bind hL.run (.ret _)
theorem pure_conciergelaw29_JobPuts (x:CsT) : ∃ F,cW F x=some true:=by
 obtain ⟨j,e,p,r,now,c,rfl⟩:=GL x
 exact (EJ j e p r now c).ex
end Go.Vm
