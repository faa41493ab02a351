import Derived.Test.YtihpjgcbmipdbaaGreatDoorPjob1
import Derived.Test.YtihpjgcbmipdbaaGreatDoorFref21
import Derived.Test.YtihpjgcbmipdbaaGreatDoorPad1
import Derived.Test.YtihpjgcbmipdbaaGreatDoorFadmit
import Derived.Test.YtihpjgcbmipdbaaGreatDoorPj2
import Derived.Test.YtihpjgcbmipdbaaGreatDoorPh2
import Derived.Test.YtihpjgcbmipdbaaGreatDoorPrt
import Derived.Test.YtihpjgcbmipdbaaGreatDoorPg7
import Derived.Test.YtihpjgcbmipdbaaGreatDoorPr8
import Derived.Test.YtihpjgcbmipdbaaGreatDoorFlaw23
import Derived.Test.YtihpjgcbmipdbaaGreatDoorFlaw28
/- Leases: the program's answer and the document's are the plain one. No condition. -/
namespace Go.Vm
open Go.Proofs
set_option linter.unusedVariables false
set_option linter.unusedSimpArgs false
theorem Ho (F:Nat) (n lo hi:Int) (h:lo≤hi):kH F (n,lo,hi)=some (brT n lo hi):=by
 unfold kH brT
 by_cases h1:n<lo
 ·have h2 : ¬ hi<lo:=by omega
  simp [h1,h2]
 ·simp [h1]
theorem IG (F:Nat) (n lo hi:Int):eH F (n,lo,hi)=some (brT n lo hi):=by
 unfold eH brT
 by_cases h1:n<lo
 ·simp [h1]
 ·by_cases h2:hi<n <;> simp [h1,h2]
theorem DN (F:Nat) (n:Int):lh F n=some (oA n):=by
 unfold lh
 rw [Ho F n 0 1099511627776 (by decide)]
 rfl
theorem Jj (F:Nat) (n:Int):dF F n=some (oA n):=by
 unfold dF
 rw [IG]
 rfl
end Go.Vm
/- Requests looked at first: the program's answer and the document's are the plain one. No condition but on lengths. -/
namespace Go.Vm
open Go.Proofs
set_option linter.unusedVariables false
set_option linter.unusedSimpArgs false
theorem F2 {p:By} (h:(dz p).2=true):(dz p).1.length≤60:=by
 cases p with
 | nil=>cases h
 | cons c t =>
  by_cases hc:59<t.length∨c≠47
  ·rw [iK hc] at h; cases h
  ·have h1 : ¬ 59<t.length:=fun x=>hc (.inl x)
   have h2:c=47:=by
    by_cases e:c=47
    ·exact e
    ·exact absurd (.inr e) hc
   subst h2
   rw [ic h1] at h ⊢
   cases hw:dI (aT t) [] with
   | none=>rw [hw] at h; cases h
   | some l =>
    rw [hw] at h
    show (xG l).1.length≤60
    change (xG l).2=true at h
    unfold xG at h ⊢
    by_cases h3:60<(if dN l = [] then [47] else dN l).length
    ·rw [if_pos h3] at h; cases h
    ·rw [if_neg h3]
     show (if dN l = [] then [47] else dN l).length≤60
     omega
theorem Kb (l:List RlT) (m s:By) (hl:l.length≤1000000) (hb : ∀ r∈l,yp r) (hs:s.length≤900):ae (fun F=>fY F (l,m,s)) (match iL l m s with
  | none=>(([],false):List PhT×Bool)
  | some p=>(p,true)):=by
 unfold fY iL
 refine ae.bind (M8 l m s hl hb (by omega)) ?_
 by_cases hf:dM l m s<0
 ·rw [if_pos hf]
  exact ae.pos (decide_eq_true hf) (.ret _)
 ·rw [if_neg hf]
  obtain ⟨h1,_⟩:=wN l m s
  have hi:(dM l m s).toNat<l.length:=by omega
  have hg:l[(dM l m s).toNat]? = some l[(dM l m s).toNat]:=List.getElem?_eq_getElem hi
  have hx:idx l (dM l m s)=some l[(dM l m s).toNat]:=by
   have:=aV l (dM l m s).toNat _ hg
   rwa [show (((dM l m s).toNat:Nat):Int)=dM l m s by omega] at this
  rw [hg]
  exact ae.neg (by rw [decide_eq_true_eq]; exact hf) (ae.bind (.of fun F=>hx) (.ret _))
theorem wu {l:List RlT} {m s:By} {p:List PhT} (hb : ∀ r∈l,yp r) (h:iL l m s=some p):p.length≤100000:=by
 unfold iL at h
 split at h
 ·cases h
 ·obtain ⟨r,hr,rfl⟩:=Option.map_eq_some_iff.1 h
  exact (hb r (List.mem_of_getElem? hr)).2.2.1
theorem FM (r:Rq) (l:List RlT) (hbo:r.bo.length≤1000) (hl:l.length≤1000000) (hb : ∀ r∈l,yp r):ae (fun F=>dU F (r,l)) (nz r l):=by
 unfold dU nz
 by_cases h1:80<r.bo.length
 ·rw [if_pos h1]
  exact ae.pos (by rw [decide_eq_true_eq]; show (80:Int)<(r.bo.length:Int); omega) (.ret _)
 rw [if_neg h1]
 refine ae.neg (by rw [decide_eq_true_eq]; show ¬ (80:Int)<(r.bo.length:Int); omega) ?_
 refine ae.bind (K2 r.bo hbo) ?_
 have hq:ae (fun F=>gd F (r.1,r.2.1,r.2.2.1,r.2.2.2.1,r.2.2.2.2.1,r.2.2.2.2.2.1,eY r.bo,())) (rq4 r (eY r.bo)):=Np r.1 r.2.1 r.2.2.1 r.2.2.2.1 r.2.2.2.2.1 r.2.2.2.2.2.1 (eY r.bo)
 refine ae.bind (r:=((l,(),(),(r.1,r.2.1,r.2.2.1,r.2.2.2.1,r.2.2.2.2.1,r.2.2.2.2.2.1,eY r.bo,()),(0,0,0,[],[],[],[],()),()):List RlT×Unit×Unit×Rq×Rq×Unit)) ?_ ?_
 ·unfold eY
  by_cases h2:(jq r.bo).2=0
  ·rw [if_pos h2]; exact ae.pos (decide_eq_true h2) (.ret _)
  ·rw [if_neg h2]; exact ae.neg (by rw [decide_eq_true_eq]; exact h2) (.ret _)
 have hok:=Ij (r:=r) (b:=eY r.bo)
 generalize rq4 r (eY r.bo)=q at hq hok ⊢
 refine ae.bind hq ?_
 obtain ⟨x,ok⟩:=q
 cases ok with
 | false=>exact ae.pos rfl (.ret _)
 | true =>
  rw [if_neg (show ¬ ((x,true):Rq×Bool).2=false by simp)]
  refine ae.neg (by simp) ?_
  obtain ⟨_,p1,e1⟩:=hok rfl
  have hpl:=F2 p1
  have hx:x.pa=(dz r.pa).1:=by
   have e2:x = _:=e1
   rw [e2]
  have hp:=Kb l x.me x.pa hl hb (by rw [hx]; omega)
  cases hc:iL l x.me x.pa with
  | none =>
   rw [hc] at hp
   exact ae.bind (ae.bind hp (.ret _)) (ae.pos rfl (.ret _))
  | some p =>
   rw [hc] at hp
   have hpb:=wu hb hc
   refine ae.bind (ae.bind hp (.ret _)) (ae.neg (by simp) ?_)
   exact ae.pos (by rw [decide_eq_true_eq]; show (0+p.length) * 48≤140737488355328; omega) (.ret _)
theorem GN (r:Rq) (l:List RlT):(∃ s:Int,s≠0∧nz r l=(tK,[],s))∨(r.bo.length≤80 ∧ ∃ x m s p,x.bo=eY r.bo∧iL l m s=some p∧nz r l=(x,p,0)):=by
 unfold nz
 by_cases h1:80<r.bo.length
 ·rw [if_pos h1]; exact .inl ⟨413,by decide,rfl⟩
 rw [if_neg h1]
 by_cases h2:(rq4 r (eY r.bo)).2=false
 ·rw [if_pos h2]; exact .inl ⟨400,by decide,rfl⟩
 rw [if_neg h2]
 obtain ⟨_,_,e1⟩:=Ij (r:=r) (b:=eY r.bo) (by simpa using h2)
 cases hc:iL l (rq4 r (eY r.bo)).1.me (rq4 r (eY r.bo)).1.pa with
 | none=>exact .inl ⟨400,by decide,rfl⟩
 | some p=>exact .inr ⟨by omega,_,_,_,p,by rw [e1],hc,rfl⟩
theorem H8 (r:Rq) (l:List RlT) (hc:(decide ((nz r l).2.2=0) && !decide ((nz r l).1.bo=r.bo))=true):(jq r.bo).2=0:=by
 rw [Bool.and_eq_true,decide_eq_true_eq] at hc
 rcases GN r l with ⟨s,hs,h⟩ | ⟨_,x,m,s,p,hx,hp,h⟩
 ·rw [h] at hc; exact absurd hc.1 hs
 ·rw [h] at hc
  by_cases h0:(jq r.bo).2=0
  ·exact h0
  ·exfalso
   have:eY r.bo=r.bo:=by unfold eY; rw [if_neg h0]
   have hc2:=hc.2
   change (!decide (x.bo=r.bo))=true at hc2
   rw [hx,this,decide_eq_true rfl] at hc2
   cases hc2
/-! ### the program of an entry; when to come again -/
theorem GZ (l:List RlT) (e:EnT) (hl:l.length≤1000000) (hb : ∀ r∈l,yp r) (hs:e.path.length≤900):ae (fun F=>iy F (l,e)) ((iL l e.method e.path).getD []):=by
 unfold iy
 have hp:=Kb l e.method e.path hl hb hs
 cases hc:iL l e.method e.path with
 | none =>
  rw [hc] at hp
  exact ae.bind (ae.bind hp (.ret _)) (ae.pos rfl (.ret _))
 | some p =>
  rw [hc] at hp
  have hpb:=wu hb hc
  exact ae.bind (ae.bind hp (.ret _)) (ae.pos (by rw [decide_eq_true_eq]; show (0+p.length) * 48≤140737488355328; omega) (.ret _))
theorem DL (l:List RlT) (e:EnT) (hl:l.length≤1000000) (hb : ∀ r∈l,vE r) (hs:e.path.length≤900):ae (fun F=>dO F (l,e)) ((iL l e.method e.path).getD []):=by
 unfold dO
 refine ae.bind (LY l e.method e.path hl hb hs) ?_
 unfold iL
 by_cases hf:dM l e.method e.path<0
 ·rw [if_pos hf]
  exact ae.pos (decide_eq_true hf) (.ret _)
 ·rw [if_neg hf]
  obtain ⟨h1,_⟩:=wN l e.method e.path
  have hi:(dM l e.method e.path).toNat<l.length:=by omega
  have hg:l[(dM l e.method e.path).toNat]? = some l[(dM l e.method e.path).toNat]:=List.getElem?_eq_getElem hi
  have hxx:idx l (dM l e.method e.path)=some l[(dM l e.method e.path).toNat]:=by
   have:=aV l (dM l e.method e.path).toNat _ hg
   rwa [show (((dM l e.method e.path).toNat:Nat):Int)=dM l e.method e.path by omega] at this
  rw [hg]
  exact ae.neg (by rw [decide_eq_true_eq]; exact hf) (ae.bind (.of fun F=>hxx) (.ret _))
def ue (now until':Int):Int:=if oA until' - oA now<1 then 1 else oA until' - oA now
theorem Cb (F:Nat) (a b:Int):im F (a,b)=some (ue a b):=by
 have h1:=sC a
 have h2:=sC b
 unfold im r9 ue
 simp only [DN,Option.bind_some]
 rw [wrap64 _ (by omega) (by omega)]
 by_cases c:oA b - oA a<0
 ·rw [if_pos c,if_pos (by decide),if_pos (by omega)]
 ·rw [if_neg c]
theorem GU (F:Nat) (a b:Int):eJ F (a,b)=some (ue a b):=by
 have h1:=sC a
 have h2:=sC b
 unfold eJ ue
 simp only [Jj,Option.bind_some]
 rw [wrap64 _ (by omega) (by omega)]
 by_cases c:oA b - oA a<1
 ·rw [if_pos (decide_eq_true c),if_pos c]
 ·rw [if_neg (by rw [decide_eq_true_eq]; exact c),if_neg c]
end Go.Vm
/- Signs of a text: how many, and whether all are of some sorts (cut out of the texts of sign). No condition but on lengths. -/
namespace Go.Vm
open Go.Lib (decodeL decodeN decodeL_N decode_N decodeN_shape decodeL_le)
set_option linter.unusedVariables false
set_option linter.unusedSimpArgs false
end Go.Vm
/- Phrases: small entries; what is let out is right; the law of fills. No condition but on lengths. -/
namespace Go.Vm
open Go.Proofs
open Go.Lib (decodeL decodeN decodeL_N decode_N decodeN_shape decodeL_le)
set_option linter.unusedVariables false
set_option linter.unusedSimpArgs false
/-! ### small entries -/
def jD (e:EnT):Bool:=decide (e.key.length≤100) && decide (e.2.2.2.2.2.2.1.length≤100) && decide (e.2.2.2.2.2.2.2.2.2.2.1.length≤100) && decide (e.method.length≤100) && decide (e.path.length≤100) && decide (e.body.length≤100)
theorem xp (l:List (Int×EnT)) (hl:l.length≤1000000) : ∀ (n i:Nat),i+n=l.length→af b8 (l,(l.length:Int),(i:Int),()) (if (l.drop i).all (fun r=>jD r.2)=true then .inl () else .inr (false,()))
 | 0,i,h=>by
  refine af.fin (.of fun F => ?_)
  unfold b8
  rw [if_neg (by rw [decide_eq_true_eq]; simp only; omega),List.drop_eq_nil_of_le (by omega)]
  rfl
 | n+1,i,h=>by
  have hi:i<l.length:=by omega
  have hx:idx l (i:Int)=some l[i]:=aV _ _ _ (List.getElem?_eq_getElem hi)
  have hw:IntKind.i64.wrap ((i:Int)+1)=((i+1:Nat):Int):=by rw [wrap64 _ (by omega) (by omega)]; omega
  have ih:=xp l hl n (i+1) (by omega)
  rw [List.drop_eq_getElem_cons hi,List.all_cons]
  generalize l[i]=m at *
  obtain ⟨k,te,key,st,ep,tok,po,pr,le,ex,sta,tx,me,pa,bo,u⟩:=m
  have body : ∀ F,b8 F (l,(l.length:Int),(i:Int),())=some (if jD (te,key,st,ep,tok,po,pr,le,ex,sta,tx,me,pa,bo,u)=true then .inl (l,(l.length:Int),((i+1:Nat):Int),()) else .inr (.inr (false,()))):=by
   intro F
   unfold b8 jD
   rw [if_pos (by rw [decide_eq_true_eq]; simp only; omega)]
   have e1 : ∀ a:By,(100:Int)<(a.length:Int) ↔ ¬ a.length≤100:=fun a=>by omega
   simp only [hx,Option.bind_some,e1]
   by_cases a1:key.length≤100
   ·by_cases a2:pr.length≤100
    ·by_cases a3:tx.length≤100
     ·by_cases a4:me.length≤100
      ·by_cases a5:pa.length≤100
       ·by_cases a6:bo.length≤100
        ·simp [a1,a2,a3,a4,a5,a6,hw]
        ·simp [a1,a2,a3,a4,a5,a6,hw]
       ·simp [a1,a2,a3,a4,a5,hw]
      ·simp [a1,a2,a3,a4,hw]
     ·simp [a1,a2,a3,hw]
    ·simp [a1,a2,hw]
   ·simp [a1,hw]
  by_cases hc:jD (te,key,st,ep,tok,po,pr,le,ex,sta,tx,me,pa,bo,u)=true
  ·rw [hc,Bool.true_and]
   exact af.step (.of fun F=>(body F).trans (by rw [if_pos hc])) ih
  ·have hc':jD (te,key,st,ep,tok,po,pr,le,ex,sta,tx,me,pa,bo,u)=false:=by simpa using hc
   rw [hc',Bool.false_and]
   exact af.fin (.of fun F=>(body F).trans (by rw [if_neg hc]; rfl))
theorem KS (l:List (Int×EnT)) (most:Int) (hl:l.length≤1000000):ae (fun F=>cZ F (l,most)) (decide ((l.length:Int)≤most) && l.all fun r=>jD r.2):=by
 unfold cZ
 by_cases hm:most<(l.length:Int)
 ·rw [decide_eq_false (p:=(l.length:Int)≤most) (by omega),Bool.false_and]
  exact ae.pos (decide_eq_true hm) (.ret _)
 rw [decide_eq_true (p:=(l.length:Int)≤most) (by omega),Bool.true_and]
 refine ae.neg (by rw [decide_eq_true_eq]; exact hm) ?_
 have h:=xp l hl l.length 0 (by omega)
 rw [List.drop_zero] at h
 refine ae.bind h.run ?_
 by_cases ha:(l.all fun r=>jD r.2)=true
 ·rw [if_pos ha,ha]; exact .ret _
 ·have ha':(l.all fun r=>jD r.2)=false:=by simpa using ha
  rw [if_neg ha,ha']; exact .ret _
/-! ### what is let out is right -/
end Go.Vm
/- Programs: what is to be done next, and how many calls are ahead: the program's answer and the document's are the plain one. No condition but on lengths. -/
namespace Go.Vm
open Go.Proofs
set_option linter.unusedVariables false
set_option linter.unusedSimpArgs false
/-! ### needs -/
end Go.Vm
/- Programs: the wake, and the laws of programs there and back, of any text, of what is next. No condition but on lengths. -/
namespace Go.Vm
open Go.Proofs
open Go.Lib (itoa decDigits)
set_option linter.unusedVariables false
set_option linter.unusedSimpArgs false
/-! ### the same -/
theorem vj (l:List PhT) (hl:l.length≤1000000) : ∀ (n i:Nat),i+n=l.length→af dP (l,l,(l.length:Int),(i:Int),()) (.inl ())
 | 0,i,h=>by
  refine af.fin (.of fun F => ?_)
  unfold dP
  rw [if_neg (by rw [decide_eq_true_eq]; simp only; omega)]
 | n+1,i,h=>by
  have hi:i<l.length:=by omega
  have hx:idx l (i:Int)=some l[i]:=aV _ _ _ (List.getElem?_eq_getElem hi)
  have hw:IntKind.i64.wrap ((i:Int)+1)=((i+1:Nat):Int):=by rw [wrap64 _ (by omega) (by omega)]; omega
  refine af.step (.of fun F => ?_) (vj l hl n (i+1) (by omega))
  unfold dP
  rw [if_pos (by rw [decide_eq_true_eq]; simp only; omega)]
  simp only [hx,Option.bind_some,decide_true,Bool.and_self,Bool.not_true,Bool.false_eq_true,if_false,hw]
theorem JU (l:List PhT) (hl:l.length≤1000000):ae (fun F=>eV F (l,l)) true:=by
 unfold eV
 refine ae.neg (by simp) ?_
 exact ae.bind (vj l hl l.length 0 (by omega)).run (.ret _)
/-! ### the wake -/
theorem Ie (e:EnT):ae (fun F=>cZ F ([(0,e)],1)) (jD e):=by
 have h:=KS [(0,e)] 1 (by simp)
 simpa using h
end Go.Vm
/- Requests looked at first: the wake and the three laws. No condition but on lengths. -/
namespace Go.Vm
open Go.Proofs
set_option linter.unusedVariables false
set_option linter.unusedSimpArgs false
/-! ### the wake -/
theorem Cm:ae (fun F=>dr F []) lJ:=by
 unfold dr
 have h0:=vW [] (by decide)
 have e0:sq []=([],false):=by kernel_rfl
 rw [e0] at h0
 have hsp:=vW NB (of_decide_eq_true (by kernel_rfl))
 rw [← zh,yv lJ F0,zh] at hsp
 have hst:ae (fun F=>eZ F ()) NB := .of fun F=>rfl
 exact ae.bind h0 (ae.neg (by decide) (ae.bind hst (ae.bind hsp (.ret _))))
abbrev jwB:By := [123,32,34,115,117,109,34,58,32,53,32,125]
abbrev jw1:Rq:=(0,0,0,[107],[112,111,115,116],[47,112,97,121,47],jwB,())
abbrev jw2:Rq:=(0,0,0,[107],[112,117,116],[47,112,97,121],[],())
theorem Iy:yd [107]=true:=by
 unfold yd
 rw [if_neg (by decide),vp _ (by decide)]
 kernel_rfl
theorem KM:cL [112,111,115,116]=(jB,true):=by kernel_rfl
theorem NA:cL [112,117,116]=(vG,true):=by kernel_rfl
theorem Dr:iJ fO=(fO,true):=by
 have h1:gu fO=some fO:=l8 fO (by decide)
 rw [jN h1,uq fO 60 (by decide) (by decide) (zY fO (by decide))]
 rfl
theorem I4:dz [47,112,97,121,47]=(47 :: fO,true):=by
 rw [ic (by decide)]
 have e:aT [112,97,121,47] = [fO,[]]:=by decide
 have hw:dI (aT [112,97,121,47]) []=some [fO]:=by
  rw [e,dI,Dr,if_neg (by simp),if_neg (by decide),if_neg (by decide),dI,yF,if_neg (by simp),if_pos (.inl rfl),dI]
  rfl
 rw [hw]
 rfl
theorem Kw:dz [47,112,97,121]=(47 :: fO,true):=by
 rw [ic (by decide)]
 have e:aT [112,97,121] = [fO]:=by decide
 have hw:dI (aT [112,97,121]) []=some [fO]:=by
  rw [e,dI,Dr,if_neg (by simp),if_neg (by decide),if_neg (by decide),dI]
  rfl
 rw [hw]
 rfl
theorem LX:fM 8 (.obj [([115,117,109], .int 5,())])=wkB:=by kernel_rfl
theorem KO:jq jwB=(wkB,0):=by
 have h:rY jwB = .ok (.obj [([115,117,109], .int 5,())]):=by kernel_rfl
 unfold jq
 rw [h]
 show (fM 8 (.obj [([115,117,109], .int 5,())]),(0:Int)) = _
 rw [LX]
theorem all_nil:(match rY [] with | .ok _=>true | .error _=>false)=false:=by kernel_rfl
theorem MB:(jq []).2≠0:=by
 have h0:=all_nil
 unfold jq
 cases h:rY [] with
 | ok v=>rw [h] at h0; cases h0
 | error e =>
  have:=Ae h (by decide)
  simpa using this
theorem Lc:nz jw1 lJ=((0,0,0,[107],jB,47 :: fO,wkB,()),s7,0):=by
 have hb:eY jwB=wkB:=by unfold eY; rw [KO]; rfl
 have hq:rq4 jw1 wkB=((0,0,0,[107],jB,47 :: fO,wkB,()),true):=by
  unfold rq4 rqG wC
  simp [Iy,KM,I4]
 have hb':eY jw1.bo=wkB:=hb
 have hp:iL lJ (((0,0,0,[107],jB,47 :: fO,wkB,()),true):Rq×Bool).1.me (((0,0,0,[107],jB,47 :: fO,wkB,()),true):Rq×Bool).1.pa=some s7:=by
  show iL lJ jB (47 :: fO)=some s7
  unfold iL
  rw [IY,if_neg (by decide)]
  rfl
 unfold nz
 rw [if_neg (by decide),hb',hq,if_neg (by decide),hp]
theorem Mh:(nz jw2 lJ).2.2=400:=by
 have hb:eY [] = []:=by unfold eY; rw [if_neg MB]
 have hq:rq4 jw2 []=((0,0,0,[107],vG,47 :: fO,[],()),true):=by
  unfold rq4 rqG wC
  simp [Iy,NA,Kw]
 have hb':eY jw2.bo = []:=hb
 have hp:iL lJ (((0,0,0,[107],vG,47 :: fO,[],()),true):Rq×Bool).1.me (((0,0,0,[107],vG,47 :: fO,[],()),true):Rq×Bool).1.pa=none:=by
  show iL lJ vG (47 :: fO)=none
  unfold iL
  rw [Ip,if_pos (by decide)]
 unfold nz
 rw [if_neg (by decide),hb',hq,if_neg (by decide),hp]
theorem Mr : ∀ r∈lJ,yp r:=fun r hr=>(KW r hr).r
theorem yP:ae (fun F=>dq F ()) true:=by
 have h1:=FM jw1 lJ (by decide) (by decide) Mr
 have h2:=FM jw2 lJ (by decide) (by decide) Mr
 rw [Lc] at h1
 have e2:=Mh
 generalize nz jw2 lJ=q at *
 unfold dq
 refine ae.bind (ae.bind Cm (ae.bind h1 (.ret _))) (ae.bind (ae.bind Cm (ae.bind h2 (.ret _))) ?_)
 refine ae.bind (ae.pos rfl (.ret _)) (ae.bind (ae.pos (by kernel_rfl) (.ret _)) (ae.bind (ae.pos (by kernel_rfl) (.ret _)) (ae.bind (ae.pos (by show decide (q.2.2=400)=true; exact decide_eq_true e2) (ae.bind (.of fun F=>Cb F 5 9) (.ret _))) (.of fun F => ?_))))
 rfl
/-! ### judged as the document says -/
def AK (r:Rq) (l:List RlT) (n m:Nat):Bool:=decide (r.key.length≤100) && decide (r.me.length≤100) && decide (r.pa.length≤n) && decide (r.bo.length≤m) && rG l
abbrev AlS:=List RlT×Unit×Unit×Int×Unit×Rq×Rq×Rq×Unit
theorem Bx (r:Rq) (l:List RlT):ae (fun F=>cS F (r,l)) true:=by
 unfold cS
 refine ae.bind yP (ae.neg (by decide) ?_)
 have dn : ∀ (n:Nat) (a:By),decide ((n:Int)<(a.length:Int)) = !decide (a.length≤n):=fun n a=>by rw [← decide_not,decide_eq_decide]; omega
 refine ae.bind (r:=((l,(), !(decide (r.key.length≤100) && decide (r.me.length≤100)),r,()):List RlT×Unit×Bool×Rq×Unit)) ?_ ?_
 ·show ae (fun F=>if decide (((100:Nat):Int)<(r.key.length:Int))=false then some (l,(),decide (((100:Nat):Int)<(r.me.length:Int)),r,()) else some (l,(),true,r,())) _
  rw [dn,dn]
  cases decide (r.key.length≤100) with
  | true=>exact ae.pos rfl (.ret _)
  | false=>exact ae.neg (by decide) (.ret _)
 refine ae.bind (r:=((l,(), !(decide (r.key.length≤100) && decide (r.me.length≤100) && decide (r.pa.length≤58)),r,()):List RlT×Unit×Bool×Rq×Unit)) ?_ ?_
 ·cases (decide (r.key.length≤100) && decide (r.me.length≤100)) with
  | true =>
   refine ae.pos rfl (.of fun F => ?_)
   show some (l,(),decide (((58:Nat):Int)<(r.pa.length:Int)),r,()) = _
   rw [dn]
   rfl
  | false=>exact ae.neg (by simp) (.ret _)
 refine ae.bind (r:=((l,(), !(decide (r.key.length≤100) && decide (r.me.length≤100) && decide (r.pa.length≤58) && decide (r.bo.length≤78)),r,()):List RlT×Unit×Bool×Rq×Unit)) ?_ ?_
 ·cases (decide (r.key.length≤100) && decide (r.me.length≤100) && decide (r.pa.length≤58)) with
  | true =>
   refine ae.pos rfl (.of fun F => ?_)
   show some (l,(),decide (((78:Nat):Int)<(r.bo.length:Int)),r,()) = _
   rw [dn]
   rfl
  | false=>exact ae.neg (by simp) (.ret _)
 refine ae.bind (r:=((l,(), !AK r l 58 78,r,()):List RlT×Unit×Bool×Rq×Unit)) ?_ ?_
 ·unfold AK
  cases (decide (r.key.length≤100) && decide (r.me.length≤100) && decide (r.pa.length≤58) && decide (r.bo.length≤78)) with
  | true=>exact ae.pos rfl (ae.bind (Ca l) (.ret _))
  | false=>exact ae.neg (by simp) (.ret _)
 cases hs:AK r l 58 78 with
 | false=>exact ae.pos rfl (.ret _)
 | true =>
  unfold AK at hs
  simp only [Bool.and_eq_true,decide_eq_true_eq] at hs
  obtain ⟨⟨⟨_,hpa⟩,hbo⟩,hsm⟩:=hs
  obtain ⟨hl,hb⟩:=xy hsm
  have hbr : ∀ r∈l,yp r:=fun r hr=>(hb r hr).r
  refine ae.neg Bool.false_ne_true ?_
  have h1:=FM r l (by omega) (by omega) hbr
  have hf:(decide ((nz r l).2.2=0) && !decide ((nz r l).1.bo=r.bo))=true→(jq r.bo).2=0:=H8 r l
  have htw:=fun b hb'=>Kc r l b hpa hbo hb'
  have h2 : ∀ b,(b=true→(jq r.bo).2=0)→ae (fun F=>dU F (p9 r b,l)) (nz r l):=by
   intro b hb'
   have:=FM (p9 r b) l (by
    show (if b=true then 32 :: (r.bo ++ [32]) else r.bo).length≤1000
    split
    ·rw [List.length_cons,List.length_append,List.length_singleton]; omega
    ·omega) (by omega) hbr
   rw [htw b hb'] at this
   exact this
  generalize nz r l=q at *
  refine ae.bind (ae.bind h1 (.ret _)) ?_
  refine ae.bind (vd r.me) ?_
  refine ae.bind (r:=((l,(),(),q.2.2,(),r,q.1,(r.1,r.2.1,r.2.2.1,r.key,(if (cL r.me).2=true then (cL r.me).1 else r.me),r.pa,r.bo,()),()):AlS)) ?_ ?_
  ·by_cases hm:(cL r.me).2=true
   ·rw [if_pos hm,if_pos hm]; exact .ret _
   ·rw [if_neg hm,if_neg hm]; exact .ret _
  refine ae.pos (by rw [decide_eq_true_eq]; show r.pa.length+2≤9223372036854775807; omega) ?_
  refine ae.bind (so r.pa) ?_
  generalize hme:(if (cL r.me).2=true then (cL r.me).1 else r.me)=me2
  refine ae.bind (r:=((l,(),(),q.2.2,(), !(dz r.pa).2,r,q.1,(r.1,r.2.1,r.2.2.1,r.key,me2,r.pa ++ [47,46],r.bo,()),()):List RlT×Unit×Unit×Int×Unit×Bool×Rq×Rq×Rq×Unit)) ?_ ?_
  ·cases hp:(dz r.pa).2 with
   | true =>
    have:=F2 hp
    refine ae.pos rfl (.of fun F => ?_)
    show some (l,(),(),q.2.2,(),decide ((60:Int)<((dz r.pa).1.length:Int)),r,q.1,_,()) = _
    rw [decide_eq_false (by omega)]
    rfl
   | false=>exact ae.neg (by decide) (.ret _)
  refine ae.bind (r:=((l,(),(),q.2.2,(),r,q.1,(r.1,r.2.1,r.2.2.1,r.key,me2,(if (dz r.pa).2=true then r.pa ++ [47,46] else r.pa),r.bo,()),()):AlS)) ?_ ?_
  ·cases hp:(dz r.pa).2 with
   | true=>exact ae.neg (by show ¬ (!true)=true; decide) (.ret _)
   | false=>exact ae.pos rfl (.ret _)
  generalize hpp:(if (dz r.pa).2=true then r.pa ++ [47,46] else r.pa)=pa2
  have h2' : ∀ b,(b=true→(jq r.bo).2=0)→ae (fun F=>dU F ((r.1,r.2.1,r.2.2.1,r.key,me2,pa2,(if b=true then 32 :: (r.bo ++ [32]) else r.bo),()),l)) q:=by
   intro b hb'
   have:=h2 b hb'
   unfold p9 at this
   rw [hme,hpp] at this
   exact this
  refine ae.bind (r:=((l,(),(),q.2.2,(),decide (q.2.2=0) && !decide (q.1.bo=r.bo),r,q.1,(r.1,r.2.1,r.2.2.1,r.key,me2,pa2,r.bo,()),()):List RlT×Unit×Unit×Int×Unit×Bool×Rq×Rq×Rq×Unit)) ?_ ?_
  ·by_cases h0:q.2.2=0
   ·rw [decide_eq_true h0,Bool.true_and]; exact ae.pos rfl (.ret _)
   ·rw [decide_eq_false h0,Bool.false_and]; exact ae.neg Bool.false_ne_true (.ret _)
  generalize (decide (q.2.2=0) && !decide (q.1.bo=r.bo))=b at *
  refine ae.bind (r:=((l,(),q.2.2,(),q.1,(r.1,r.2.1,r.2.2.1,r.key,me2,pa2,(if b=true then 32 :: (r.bo ++ [32]) else r.bo),()),()):List RlT×Unit×Int×Unit×Rq×Rq×Unit)) ?_ ?_
  ·cases b with
   | true =>
    refine ae.pos rfl (ae.pos (by rw [decide_eq_true_eq]; show 1+r.bo.length≤9223372036854775807; omega) (ae.pos (by rw [decide_eq_true_eq]; show (([32]:By) ++ r.bo).length+1≤9223372036854775807; rw [List.length_append,List.length_singleton]; omega) (.of fun F => ?_)))
    rfl
   | false=>exact ae.neg Bool.false_ne_true (.ret _)
  refine ae.bind (ae.bind (h2' b hf) (.ret _)) ?_
  exact ae.bind (r:=((true,()):Bool×Unit)) (ae.pos (by simp) (.of fun F=>by simp)) (.ret _)
theorem pure_conciergelaw28_AdmitAlike (r:Rq) (l:List RlT) : ∃ F,cS F (r,l)=some true:=(Bx r l).ex
/-! ### programs, and when -/
theorem vq (l:List RlT) (e:EnT) (a b:Int):ae (fun F=>bW F (l,e,[a,b])) true:=by
 unfold bW
 refine ae.bind yP (ae.neg (by decide) ?_)
 refine ae.bind (r:=((l,(),(), !(jD e && rG l),e,[a,b],()):List RlT×Unit×Unit×Bool×EnT×List Int×Unit)) ?_ ?_
 ·refine ae.bind (Ie e) ?_
  cases jD e with
  | true=>exact ae.pos rfl (ae.bind (Ca l) (.ret _))
  | false=>exact ae.neg (by decide) (.ret _)
 cases hs:(jD e && rG l) with
 | false=>exact ae.pos rfl (.ret _)
 | true =>
  rw [Bool.and_eq_true] at hs
  obtain ⟨hl,hb⟩:=xy hs.2
  have hbr : ∀ r∈l,yp r:=fun r hr=>(hb r hr).r
  have hpa:e.path.length≤100:=by
   have:=hs.1
   unfold jD at this
   simp only [Bool.and_eq_true,decide_eq_true_eq] at this
   exact this.1.2
  refine ae.neg Bool.false_ne_true ?_
  refine ae.bind (r:=a) (.of fun F=>rfl) (ae.bind (r:=b) (.of fun F=>rfl) ?_)
  refine ae.bind (.of fun F=>Cb F a b) ?_
  have hpl:((iL l e.method e.path).getD []).length≤1000000:=by
   cases hc:iL l e.method e.path with
   | none=>exact Nat.zero_le _
   | some p=>have:=wu hbr hc; show p.length≤1000000; omega
  refine ae.bind (r:=((true,()):Bool×Unit)) ?_ (.ret _)
  refine ae.bind (GZ l e (by omega) hbr (by omega)) (ae.bind (DL l e (by omega) hb (by omega)) (ae.bind (JU _ hpl) (ae.pos rfl ?_)))
  refine ae.bind (r:=a) (.of fun F=>rfl) (ae.bind (r:=b) (.of fun F=>rfl) (ae.bind (.of fun F=>GU F a b) (ae.pos (by simp) (.of fun F => ?_))))
  have:1≤ue a b:=by unfold ue; split <;> omega
  rw [decide_eq_true this]
theorem pure_conciergelaw28_AdmitPrograms (l:List RlT) (e:EnT) (a b:Int) : ∃ F,bW F (l,e,[a,b])=some true:=(vq l e a b).ex
end Go.Vm
