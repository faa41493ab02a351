import Derived.Test.YtihpjgcbmipdbaaGreatDoorPg4
import Derived.Test.YtihpjgcbmipdbaaGreatDoorFlaw29
import Derived.Test.YtihpjgcbmipdbaaGreatDoorPk1
import Derived.Test.YtihpjgcbmipdbaaGreatDoorFprog2
import Derived.Test.YtihpjgcbmipdbaaGreatDoorFjob
/- Programs: what the program prints and parses is the plain one. No condition but on lengths. -/
namespace Go.Vm
open Go.Proofs
open Go.Lib (decDigits itoa)
set_option linter.unusedVariables false
set_option linter.unusedSimpArgs false
theorem G1 {s:By} (h:nmP s=true):s.length≤12:=by
 unfold nmP at h
 simp only [Bool.and_eq_true,decide_eq_true_eq] at h
 exact h.2
theorem xD {s:By} (h:pI s=true):s.length≤60:=by
 unfold pI uZ at h
 simp only [Bool.and_eq_true,decide_eq_true_eq] at h
 exact h.2.1
end Go.Vm
/- Programs: the document's functions are the plain ones. No condition but on lengths. -/
namespace Go.Vm
open Go.Proofs
open Go.Lib (decDigits itoa)
set_option linter.unusedVariables false
set_option linter.unusedSimpArgs false
/-! ### phases -/
end Go.Vm
/- Programs: what the document parses is the plain one; small programs. No condition but on lengths. -/
namespace Go.Vm
open Go.Proofs
open Go.Lib (decDigits itoa)
set_option linter.unusedVariables false
set_option linter.unusedSimpArgs false
/-! ### words, numbers -/
end Go.Vm
/- Phrases: small entries; what is let out is right; the law of fills. No condition but on lengths. -/
namespace Go.Vm
open Go.Proofs
open Go.Lib (decodeL decodeN decodeL_N decode_N decodeN_shape decodeL_le)
set_option linter.unusedVariables false
set_option linter.unusedSimpArgs false
/-! ### small entries -/
def fW (e:EnT):Bool:=decide (e.key.length≤100) && decide (e.2.2.2.2.2.2.1.length≤100) && decide (e.2.2.2.2.2.2.2.2.2.2.1.length≤100) && decide (e.method.length≤100) && decide (e.path.length≤100) && decide (e.body.length≤100)
theorem GH (e:EnT) (h:fW e=true):e.key.length≤1000∧e.method.length≤1000∧e.path.length≤1000∧e.body.length≤1000:=by
 unfold fW at h
 simp only [Bool.and_eq_true,decide_eq_true_eq] at h
 omega
theorem uh (l:List (Int×EnT)) (hl:l.length≤1000000) : ∀ (n i:Nat),i+n=l.length→ag bP (l,(l.length:Int),(i:Int),()) (if (l.drop i).all (fun r=>fW r.2)=true then .inl () else .inr (false,()))
 | 0,i,h=>by
  refine ag.fin (.of fun F => ?_)
  unfold bP
  rw [if_neg (by rw [decide_eq_true_eq]; simp only; omega),List.drop_eq_nil_of_le (by omega)]
  rfl
 | n+1,i,h=>by
  have hi:i<l.length:=by omega
  have hx:idx l (i:Int)=some l[i]:=eE _ _ _ (List.getElem?_eq_getElem hi)
  have hw:IntKind.i64.wrap ((i:Int)+1)=((i+1:Nat):Int):=by rw [wrap64 _ (by omega) (by omega)]; omega
  have ih:=uh l hl n (i+1) (by omega)
  rw [List.drop_eq_getElem_cons hi,List.all_cons]
  generalize l[i]=m at *
  obtain ⟨k,te,key,st,ep,tok,po,pr,le,ex,sta,tx,me,pa,bo,u⟩:=m
  have body : ∀ F,bP F (l,(l.length:Int),(i:Int),())=some (if fW (te,key,st,ep,tok,po,pr,le,ex,sta,tx,me,pa,bo,u)=true then .inl (l,(l.length:Int),((i+1:Nat):Int),()) else .inr (.inr (false,()))):=by
   intro F
   unfold bP fW
   rw [if_pos (by rw [decide_eq_true_eq]; simp only; omega)]
   have e1 : ∀ a:By,(100:Int)<(a.length:Int) ↔ ¬ a.length≤100:=fun a=>by omega
   simp only [hx,Option.bind_some,e1]
   by_cases a1:key.length≤100
   ·by_cases a2:pr.length≤100
    ·by_cases a3:tx.length≤100
     ·by_cases a4:me.length≤100
      ·by_cases a5:pa.length≤100
       ·by_cases a6:bo.length≤100
        ·simp [a1,a2,a3,a4,a5,a6,hw]
        ·simp [a1,a2,a3,a4,a5,a6,hw]
       ·simp [a1,a2,a3,a4,a5,hw]
      ·simp [a1,a2,a3,a4,hw]
     ·simp [a1,a2,a3,hw]
    ·simp [a1,a2,hw]
   ·simp [a1,hw]
  by_cases hc:fW (te,key,st,ep,tok,po,pr,le,ex,sta,tx,me,pa,bo,u)=true
  ·rw [hc,Bool.true_and]
   exact ag.step (.of fun F=>(body F).trans (by rw [if_pos hc])) ih
  ·have hc':fW (te,key,st,ep,tok,po,pr,le,ex,sta,tx,me,pa,bo,u)=false:=by simpa using hc
   rw [hc',Bool.false_and]
   exact ag.fin (.of fun F=>(body F).trans (by rw [if_neg hc]; rfl))
theorem Jy (l:List (Int×EnT)) (most:Int) (hl:l.length≤1000000):ae (fun F=>cD F (l,most)) (decide ((l.length:Int)≤most) && l.all fun r=>fW r.2):=by
 unfold cD
 by_cases hm:most<(l.length:Int)
 ·rw [decide_eq_false (p:=(l.length:Int)≤most) (by omega),Bool.false_and]
  exact ae.pos (decide_eq_true hm) (.ret _)
 rw [decide_eq_true (p:=(l.length:Int)≤most) (by omega),Bool.true_and]
 refine ae.neg (by rw [decide_eq_true_eq]; exact hm) ?_
 have h:=uh l hl l.length 0 (by omega)
 rw [List.drop_zero] at h
 refine ae.bind h.run ?_
 by_cases ha:(l.all fun r=>fW r.2)=true
 ·rw [if_pos ha,ha]; exact .ret _
 ·have ha':(l.all fun r=>fW r.2)=false:=by simpa using ha
  rw [if_neg ha,ha']; exact .ret _
/-! ### what is let out is right -/
end Go.Vm
/- Programs: what is to be done next, and how many calls are ahead: the program's answer and the document's are the plain one. No condition but on lengths. -/
namespace Go.Vm
open Go.Proofs
set_option linter.unusedVariables false
set_option linter.unusedSimpArgs false
/-! ### needs -/
theorem Jl (body name:By) (n:Int) (hb:body.length≤1000):ae (fun F=>j9 F (body,name,n)) (D3 body name n):=by
 unfold j9 D3
 refine ae.bind (DS body name hb) ?_
 have h4:=tQ body name
 generalize firstM name (s7 (vP body))=v at h4
 obtain ⟨f,ok⟩:=v
 simp only at h4 ⊢
 refine ae.bind (HS f (by omega)) (.of fun F => ?_)
 cases ok with
 | false=>rfl
 | true =>
  by_cases c1:uV (vP f)=3
  ·by_cases c2:1≤Ht (vP f) <;> simp [c1,c2]
  ·simp [c1]
theorem Ia (x:Int):decide (cR x∈([1,2,3]:List Int))=decide (1≤cR x∧cR x≤3):=by
 rw [Bool.eq_iff_iff,decide_eq_true_eq,decide_eq_true_eq]
 simp only [List.mem_cons,List.not_mem_nil,or_false]
 omega
theorem IM (s:By) (hs:s.length≤100000):ae (fun F=>jj F (s,[1,2,3])) (((bt s).map (·.1)).all fun x=>decide (1≤cR x∧cR x≤3)):=by
 have:=CM s [1,2,3] (by decide)
 unfold Ah at this
 simp only [Ia] at this
 exact this
theorem BF (F:Nat) (ok:Bool) (why:By) (h:why.length≤2000):gK F (ok,why)=some (w7 ok why):=by
 unfold gK w7
 cases ok with
 | true=>rfl
 | false =>
  show (if decide (([114,101,102,117,115,101,100,32]:By).length+why.length≤9223372036854775807)=true then _ else none) = _
  rw [if_pos (by rw [decide_eq_true_eq]; simp only [List.length_cons,List.length_nil]; omega)]
  rfl
/-! ### next -/
theorem K0 (p:List PhT) (e:EnT) (hl:p.length≤1000000) (hb : ∀ x∈p,wA x) (he:e.key.length≤1000∧e.method.length≤1000∧e.path.length≤1000∧e.body.length≤1000):ae (fun F=>lk F (p,e)) (lR p e):=by
 unfold lk lR
 refine ae.bind (Lo p hl hb) ?_
 by_cases hm:BC p=true
 case neg =>
  have hm':BC p=false:=by simpa using hm
  rw [hm',if_pos rfl]
  exact ae.pos rfl (.ret _)
 rw [hm,if_neg (show ¬ (true=false) by decide)]
 refine ae.neg (by decide) ?_
 refine ae.bind (r:=((p,(),(),decide (e.pt<0∨(p.length:Int)≤e.pt),e,zDo,()):List PhT×Unit×Unit×Bool×EnT×DoT×Unit)) (.of fun F => ?_) ?_
 ·show (if decide (e.pt<0)=false then some (p,(),(),decide ((p.length:Int)≤e.pt),e,zDo,()) else some (p,(),(),true,e,zDo,())) = _
  by_cases c1:e.pt<0
  ·rw [if_neg (by rw [decide_eq_true c1]; decide),decide_eq_true (.inl c1)]
  ·rw [if_pos (decide_eq_false c1)]
   have:decide (e.pt<0∨(p.length:Int)≤e.pt)=decide ((p.length:Int)≤e.pt):=by rw [decide_eq_decide]; exact ⟨fun h=>h.resolve_left c1, .inr⟩
   rw [this]
 by_cases hc:e.pt<0∨(p.length:Int)≤e.pt
 ·rw [if_pos hc]
  exact ae.pos (decide_eq_true hc) (.ret _)
 rw [if_neg hc]
 refine ae.neg (by rw [decide_eq_true_eq]; exact hc) ?_
 have hi:e.pt.toNat<p.length:=by omega
 have hg:p[e.pt.toNat]? = some p[e.pt.toNat]:=List.getElem?_eq_getElem hi
 have hx:idx p e.pt=some p[e.pt.toNat]:=by
  have:=eE p e.pt.toNat _ hg
  rwa [show ((e.pt.toNat:Nat):Int)=e.pt by omega] at this
 obtain ⟨hbn,hbt⟩:=hb p[e.pt.toNat] (List.getElem_mem hi)
 rw [hg]
 generalize p[e.pt.toNat]=x at *
 refine ae.bind (.of fun F=>hx) ?_
 show ae _ ((doT x e,0):DoT×Int)
 unfold doT
 by_cases k1:x.1=1
 ·rw [if_pos k1]
  refine ae.pos (decide_eq_true k1) ?_
  refine ae.bind (r:=(((),0,w7 (GC e.body x.2.2.1) Kr,()):Unit×Int×DoT×Unit)) ?_ (.ret _)
  refine ae.bind (Ae e.body (by omega)) ?_
  unfold GC
  by_cases c:((bt e.body).length:Int)≤x.2.2.1
  ·rw [decide_eq_true c,Bool.true_and]
   exact ae.pos rfl (ae.bind (IM e.body (by omega)) (ae.bind (.of fun F=>BF F _ _ (by decide)) (.ret _)))
  ·rw [decide_eq_false c,Bool.false_and]
   exact ae.neg (by decide) (ae.bind (.of fun F=>BF F _ _ (by decide)) (.ret _))
 rw [if_neg k1]
 refine ae.neg (by rw [decide_eq_true_eq]; exact k1) ?_
 by_cases k2:x.1=2
 ·rw [if_pos k2]
  refine ae.pos (decide_eq_true k2) ?_
  refine ae.bind (r:=(((),0,w7 (D3 e.body x.2.1 x.2.2.1) (Kg ++ 32 :: x.2.1),()):Unit×Int×DoT×Unit)) ?_ (.ret _)
  refine ae.bind (Jl e.body x.2.1 x.2.2.1 (by omega)) ?_
  refine ae.pos (by rw [decide_eq_true_eq]; simp only [List.length_cons,List.length_nil]; omega) ?_
  exact ae.bind (.of fun F=>BF F _ _ (by simp only [List.length_append,List.length_cons,List.length_nil]; omega)) (.ret _)
 rw [if_neg k2]
 refine ae.neg (by rw [decide_eq_true_eq]; exact k2) ?_
 by_cases k3:x.1=3
 ·rw [if_pos k3]
  refine ae.pos (decide_eq_true k3) ?_
  refine ae.bind (r:=(((),(),zDo,(e.1,e.key,e.ep,e.pt,e.tk,x.2.1,qR x.2.2.2.1 e,()),()):Unit×Unit×DoT×(Int×By×Int×Int×Int×By×By×Unit)×Unit)) ?_ (.ret _)
  exact ae.bind (Gm x.2.2.2.1 e hbt he) (.ret _)
 rw [if_neg k3]
 refine ae.neg (by rw [decide_eq_true_eq]; exact k3) ?_
 refine ae.bind (r:=(((),0,(2,x.2.2.1,qR x.2.2.2.1 e,0,[],0,0,0,[],[],()),()):Unit×Int×DoT×Unit)) ?_ (.ret _)
 exact ae.bind (Gm x.2.2.2.1 e hbt he) (.ret _)
theorem uT (p:List PhT) (pt:Int) (hl:p.length≤1000000) : ∀ (k i:Nat),i+k=p.length→ag gx (pt,(iI p (min i pt.toNat):Int),p,(p.length:Int),(i:Int),()) (rY p pt,())
 | 0,i,h=>by
  have e:iI p (min i pt.toNat)=iI p pt.toNat:=by
   rcases Nat.le_total i pt.toNat with c | c
   ·rw [Nat.min_eq_left c,Da (show p.length≤pt.toNat by omega),show i=p.length by omega]
   ·rw [Nat.min_eq_right c]
  refine ag.fin (.of fun F => ?_)
  unfold gx
  rw [if_neg (by rw [decide_eq_true_eq]; simp only; omega),e]
  rfl
 | k+1,i,h=>by
  have hi:i<p.length:=by omega
  have hg:p[i]? = some p[i]:=List.getElem?_eq_getElem hi
  have hx:idx p (i:Int)=some p[i]:=eE _ _ _ hg
  have hw:IntKind.i64.wrap ((i:Int)+1)=((i+1:Nat):Int):=by rw [wrap64 _ (by omega) (by omega)]; omega
  have ih:=uT p pt hl k (i+1) (by omega)
  have hcl:=Fe p (min i pt.toNat)
  refine ag.step (.of fun F => ?_) ih
  unfold gx
  rw [if_pos (by rw [decide_eq_true_eq]; simp only; omega)]
  simp only [hx,Option.bind_some]
  by_cases c1:(i:Int)<pt
  ·have m1:min i pt.toNat=i:=by omega
   have m2:min (i+1) pt.toNat=i+1:=by omega
   have hcs:=A0 hg
   rw [m1] at hcl ⊢
   rw [m2,hcs]
   have hw2:IntKind.i64.wrap ((iI p i:Int)+1)=((iI p i+1:Nat):Int):=by rw [wrap64 _ (by omega) (by omega)]; omega
   by_cases c2:(p[i]).1=3
   ·simp [c1,c2,hw,hw2]
   ·simp [c1,c2,hw]
  ·have m1:min i pt.toNat=pt.toNat:=by omega
   have m2:min (i+1) pt.toNat=pt.toNat:=by omega
   rw [m1,m2]
   simp [c1,hw]
theorem JX (p:List PhT) (pt:Int) (hl:p.length≤1000000):ae (fun F=>jZ F (p,pt)) (rY p pt):=by
 unfold jZ
 have h:=uT p pt hl p.length 0 (by omega)
 rw [Nat.zero_min] at h
 exact ae.bind h.run (.ret _)
end Go.Vm
/- Jobs: the program's answer and the document's are the plain one. No condition but on lengths. -/
namespace Go.Vm
open Go.Proofs
set_option linter.unusedVariables false
set_option linter.unusedSimpArgs false
theorem zB (F:Nat) (j:JbT) (e:Ent) (now:Int):iM F (j,e.t,now)=some (lT j e now):=by
 unfold iM
 show _=some ((decide (j.2.2.1=e.t.1) && (decide (j.2.2.2.1=e.t.2.1) && (decide (j.2.2.2.2.1=e.t.2.2.2.1) && decide (j.2.2.2.2.2.1=e.t.2.2.2.2.1)))) && Dq e now)
 by_cases h1:j.2.2.1=e.t.1 <;> by_cases h2:j.2.2.2.1=e.t.2.1 <;> by_cases h3:j.2.2.2.2.1=e.t.2.2.2.1 <;> by_cases h4:j.2.2.2.2.2.1=e.t.2.2.2.2.1 <;> simp [h1,h2,h3,h4,IX]
theorem yw (F:Nat) (j:JbT) (r:RpT):mY F (j,r)=some (vr j r):=by
 unfold mY
 show _=some (j.2.2.2.2.2.2.1 && (decide (j.2.2.1=r.1) && (decide (j.2.2.2.1=r.2.1) && (decide (j.2.2.2.2.1=r.2.2.1) && (decide (j.2.2.2.2.2.2.2.1=r.2.2.2.1) && decide (j.2.2.2.2.2.1=r.2.2.2.2.1))))))
 have c : ∀ {a b:Int},decide (a=b)=decide (b=a):=fun {a b}=>by rw [decide_eq_decide]; exact eq_comm
 have c2 : ∀ {a b:By},decide (a=b)=decide (b=a):=fun {a b}=>by rw [decide_eq_decide]; exact eq_comm
 rw [c (a:=j.2.2.1),c2 (a:=j.2.2.2.1),c (a:=j.2.2.2.2.1),c (a:=j.2.2.2.2.2.2.2.1),c (a:=j.2.2.2.2.2.1)]
 cases h:j.2.2.2.2.2.2.1 with
 | true=>simp [h]
 | false=>simp [h]
theorem put_eq (F:Nat) (j:JbT) (k:Int) (x:Ent×Int) (a:AnT):gR F (j,k,x.1.t,x.2,a)=some (wC j k x a):=by
 unfold gR wC
 by_cases h:x.2=0
 ·rw [if_pos h]
  exact (if_neg (by simp [h])).trans rfl
 ·rw [if_neg h]
  exact (if_pos (by simp [h])).trans rfl
def mn (e:Ent):Prop:=e.me.length≤1000∧e.pa.length≤1000∧e.bo.length≤1000∧e.key.length≤1000
theorem Dx (e:Ent) (h:mn e):ae (fun F=>bU F e.t) (fL e):=xF e (by have:=h.1; omega) (by have:=h.2.1; omega) (by have:=h.2.2.1; omega)
theorem DP (e:Ent) (tok now:Int) (c:CfT) (h:mn e):ae (fun F=>fP F (e.t,tok,now,c)) ((nk e tok now c).1.t,(nk e tok now c).2):=by
 obtain ⟨N,hN⟩:=Dx e h
 exact ⟨N,fun F hF=>Jk F e tok now c (hN F hF)⟩
theorem Hv (e:Ent) (tok status:Int) (text:B8) (now:Int) (c:CfT) (h:mn e):ae (fun F=>fG F (e.t,tok,status,text,now,c)) ((r9 e tok status text now c).1.t,(r9 e tok status text now c).2):=by
 obtain ⟨N,hN⟩:=Dx e h
 obtain ⟨N',hN'⟩:=xF (kZ e status text now c) (Nat.zero_le _) (Nat.zero_le _) (Nat.zero_le _)
 exact ⟨max N N',fun F hF=>Fs F e tok status text now c (hN F (by omega)) (hN' F (by omega))⟩
theorem Lc (e:Ent) (tok:Int) (h:mn e):ae (fun F=>ix F (e.t,tok)) ((pq e tok).1.t,(pq e tok).2):=by
 obtain ⟨N,hN⟩:=Dx e h
 exact ⟨N,fun F hF=>GG F e tok (hN F hF)⟩
theorem xc (e:Ent) (tok now:Int) (h:mn e):ae (fun F=>eW F (e.t,tok,now)) ((uK e tok now).1.t,(uK e tok now).2):=by
 obtain ⟨N,hN⟩:=Dx e h
 exact ⟨N,fun F hF=>BL F e tok now (hN F hF)⟩
theorem Cl (j:JbT) (e:Ent) (p:List PhT) (now:Int) (c:CfT) (h:mn e) (hl:p.length≤1000000) (hb : ∀ x∈p,wA x):ae (fun F=>iS F (j,e.t,p,now,c)) (qL j e p now c):=by
 unfold iS qL
 refine ae.bind (.of fun F=>zB F j e now) ?_
 cases ho:lT j e now with
 | false=>exact ae.pos rfl (.of fun F=>rfl)
 | true =>
  rw [if_neg (show ¬ (true=false) by decide)]
  refine ae.neg (by decide) ?_
  by_cases hw:j.wa=true
  ·rw [if_pos hw]; exact ae.pos hw (.of fun F=>rfl)
  rw [if_neg hw]
  refine ae.neg hw ?_
  refine ae.bind (K0 p e.t hl hb ⟨h.2.2.2,h.1,h.2.1,h.2.2.1⟩) ?_
  generalize lR p e.t=d
  by_cases hk:d.2=0
  case neg=>rw [if_pos hk]; exact ae.pos (by simp [hk]) (.of fun F=>rfl)
  rw [if_neg (by simp [hk])]
  refine ae.neg (by simp [hk]) ?_
  by_cases k3:d.1.1=3
  ·rw [if_pos k3]; exact ae.pos (decide_eq_true k3) (.of fun F=>rfl)
  rw [if_neg k3]
  refine ae.neg (by rw [decide_eq_true_eq]; exact k3) ?_
  by_cases k1:d.1.1=1
  ·rw [if_pos k1]
   refine ae.pos (decide_eq_true k1) (ae.bind (ae.bind (DP e j.to now c h) (.ret _)) ?_)
   exact ae.bind (.of fun F=>put_eq F j 3 (nk e j.to now c) zAn) (.ret _)
  ·rw [if_neg k1]
   refine ae.neg (by rw [decide_eq_true_eq]; exact k1) (ae.bind (ae.bind (Hv e j.to d.1.2.1 d.1.2.2.1 now c h) (.ret _)) ?_)
   refine ae.bind (.of fun F=>rfl) ?_
   exact ae.bind (.of fun F=>put_eq F j 4 (r9 e j.to d.1.2.1 d.1.2.2.1 now c) (j.cl,j.se,d.1.2.1,d.1.2.2.1,0,e.ep,())) (.ret _)
theorem KU (j:JbT) (e:Ent) (p:List PhT) (r:RpT) (now:Int) (c:CfT) (h:mn e) (hl:p.length≤1000000):ae (fun F=>mT F (j,e.t,p,r,now,c)) (A3 j e p r now c):=by
 unfold mT A3
 by_cases hc:vr j r=false∨r.code<1∨3<r.code
 ·rw [if_pos hc]
  cases hm:vr j r with
  | false =>
   refine ae.bind (ae.bind (.of fun F=>(yw F j r).trans (by rw [hm])) (ae.neg (by decide) (.ret _))) ?_
   exact ae.bind (ae.neg (by simp) (.ret _)) (ae.pos rfl (.of fun F=>rfl))
  | true =>
   refine ae.bind (ae.bind (.of fun F=>(yw F j r).trans (by rw [hm])) (ae.pos rfl (.ret _))) ?_
   rcases hc with hc | hc | hc
   ·rw [hm] at hc; cases hc
   ·exact ae.bind (ae.neg (by show ¬ decide (r.code<1)=false; rw [decide_eq_true hc]; decide) (.ret _)) (ae.pos rfl (.of fun F=>rfl))
   ·by_cases h1:r.code<1
    ·exact ae.bind (ae.neg (by show ¬ decide (r.code<1)=false; rw [decide_eq_true h1]; decide) (.ret _)) (ae.pos rfl (.of fun F=>rfl))
    ·exact ae.bind (ae.pos (by show decide (r.code<1)=false; exact decide_eq_false h1) (.ret _)) (ae.pos (decide_eq_true hc) (.of fun F=>rfl))
 ·rw [if_neg hc]
  have hm:vr j r=true:=by
   cases hm:vr j r with
   | true=>rfl
   | false=>exact absurd (.inl hm) hc
  have h1 : ¬ r.code<1:=fun x=>hc (.inr (.inl x))
  have h3 : ¬ 3<r.code:=fun x=>hc (.inr (.inr x))
  refine ae.bind (ae.bind (.of fun F=>(yw F j r).trans (by rw [hm])) (ae.pos rfl (.ret _))) ?_
  refine ae.bind (ae.pos (by show decide (r.code<1)=false; exact decide_eq_false h1) (.ret _)) (ae.neg (by show ¬ decide (3<r.code)=true; rw [decide_eq_true_eq]; exact h3) ?_)
  refine ae.bind (.of fun F=>zB F j e now) ?_
  cases ho:lT j e now with
  | false=>exact ae.pos rfl (.of fun F=>rfl)
  | true =>
   rw [if_neg (show ¬ (true=false) by decide)]
   refine ae.neg (by decide) ?_
   by_cases k1:r.code=1
   ·rw [if_pos k1]
    refine ae.pos (decide_eq_true k1) (ae.bind (ae.bind (DP e j.to now c h) (.ret _)) ?_)
    exact ae.bind (.of fun F=>put_eq F j 3 (nk e j.to now c) zAn) (.ret _)
   rw [if_neg k1]
   refine ae.neg (by rw [decide_eq_true_eq]; exact k1) ?_
   have hfail:r.code=2→rY p e.pt=0 → _:=fun a b=>(⟨a,b⟩:r.code=2∧rY p e.pt=0)
   by_cases k2:r.code=2
   ·refine ae.bind (ae.pos (decide_eq_true k2) (ae.bind (JX p e.pt hl) (.ret _))) ?_
    by_cases kc:rY p e.pt=0
    ·rw [if_pos ⟨k2,kc⟩]
     refine ae.pos (decide_eq_true kc) (ae.bind (ae.bind (Lc e j.to h) (.ret _)) ?_)
     refine ae.bind (.of fun F=>rfl) ?_
     exact ae.bind (.of fun F=>put_eq F j 4 (pq e j.to) (lp j)) (.ret _)
    ·rw [if_neg (fun x=>kc x.2)]
     refine ae.neg (by rw [decide_eq_true_eq]; exact kc) (ae.bind (ae.bind (xc e j.to now h) (.ret _)) ?_)
     refine ae.bind (.of fun F=>rfl) ?_
     exact ae.bind (.of fun F=>put_eq F j 4 (uK e j.to now) (lp j)) (.ret _)
   ·rw [if_neg (fun x=>k2 x.1)]
    refine ae.bind (ae.neg (by rw [decide_eq_true_eq]; exact k2) (.ret _)) ?_
    refine ae.neg Bool.false_ne_true (ae.bind (ae.bind (xc e j.to now h) (.ret _)) ?_)
    refine ae.bind (.of fun F=>rfl) ?_
    exact ae.bind (.of fun F=>put_eq F j 4 (uK e j.to now) (lp j)) (.ret _)
end Go.Vm
