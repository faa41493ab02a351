/- Programs: what is to be done next, and how many calls are ahead: the program's answer and the document's are the plain one. No condition but on lengths. -/
import Derived.Test.YtihpjgcbmipdbaaGreatDoorPg4
import Derived.Test.YtihpjgcbmipdbaaGreatDoorPh8
import Derived.Test.YtihpjgcbmipdbaaGreatDoorFprog2
import Derived.Test.YtihpjgcbmipdbaaGreatDoorFref23b
namespace Go.Vm
open Go.Proofs
set_option linter.unusedVariables false
set_option linter.unusedSimpArgs false
/-! ### needs -/
theorem JE (body name:By) (n:Int) (hb:body.length≤1000):ae (fun F=>kZ F (body,name,n)) (wV body name n):=by
 unfold kZ wV
 refine ae.bind (Ef body name hb) ?_
 have h4:=vX body name
 generalize firstM name (iS (vP body))=v at h4
 obtain ⟨f,ok⟩:=v
 simp only at h4 ⊢
 refine ae.bind (Ii f (by omega)) (.of fun F => ?_)
 cases ok with
 | false=>rfl
 | true =>
  by_cases c1:lF (vP f)=3
  ·by_cases c2:1≤wH (vP f) <;> simp [c1,c2]
  ·simp [c1]
theorem xc (name:By) (n:Int) (V:V9) (l:List Me) (hl:l.length≤1000) (hn:V.2.2.2.2.1=l.map (·.1)) (hi : ∀ (i:Nat) (h:i<l.length),V.2.2.2.2.2.1[i]? = some (bG 7 l[i].2.1)) (h7 : ∀ m∈l,(bG 7 m.2.1).length≤400) :
  ∀ (k i:Nat),i+k=l.length→af cX (name,n,(),(i:Int),V,()) (if (firstM name (l.drop i)).2=true then .inr ((decide (lF (vP (firstM name (l.drop i)).1)=3) && (decide (1≤wH (vP (firstM name (l.drop i)).1)) && decide (wH (vP (firstM name (l.drop i)).1)≤n))),()) else .inl ())
 | 0,i,h=>by
  refine af.fin (.of fun F => ?_)
  unfold cX
  rw [if_neg (by rw [decide_eq_true_eq]; simp only [hn,List.length_map]; omega),List.drop_eq_nil_of_le (by omega)]
  rfl
 | k+1,i,h=>by
  have hil:i<l.length:=by omega
  have hx:idx V.2.2.2.2.1 (i:Int)=some l[i].1:=by rw [hn]; exact bn _ _ _ (by simp [hil])
  have hx3:idx V.2.2.2.2.2.1 (i:Int)=some (bG 7 l[i].2.1):=bn _ _ _ (hi i hil)
  have hw:IntKind.i64.wrap ((i:Int)+1)=((i+1:Nat):Int):=by rw [wrap64 _ (by omega) (by omega)]; omega
  have ih:=xc name n V l hl hn hi h7 k (i+1) (by omega)
  have h4:=h7 l[i] (List.getElem_mem hil)
  rw [List.drop_eq_getElem_cons hil]
  generalize l[i]=m at *
  unfold firstM
  by_cases hc:m.1=name
  ·rw [if_pos hc]
   have ho:=D7 (bG 7 m.2.1) (by omega)
   obtain ⟨q1,_,q3,_⟩:=pR (bG 7 m.2.1)
   refine af.fin ?_
   unfold cX
   refine ae.pos (by rw [decide_eq_true_eq]; simp only [hn,List.length_map]; omega) ?_
   refine ae.bind (.of fun F=>hx) (ae.pos (decide_eq_true hc) ?_)
   refine ae.bind (r:=((n,(),(ofP (bG 7 m.2.1)).1,()):Int×Unit×V9×Unit)) (ae.bind (.of fun F=>hx3) (ae.bind ho (.ret _))) (.of fun F => ?_)
   rw [if_pos rfl]
   simp only [q1,q3]
   by_cases c1:lF (vP (bG 7 m.2.1))=3
   ·by_cases c2:1≤wH (vP (bG 7 m.2.1))
    ·simp [c1,c2]
     rw [q3]
    ·simp [c1,c2]
   ·simp [c1]
  ·rw [if_neg hc]
   refine af.step ?_ ih
   unfold cX
   refine ae.pos (by rw [decide_eq_true_eq]; simp only [hn,List.length_map]; omega) ?_
   refine ae.bind (.of fun F=>hx) (ae.neg (by rw [decide_eq_true_eq]; exact hc) (.of fun F=>by simp only [hw]))
theorem JY (body name:By) (n:Int) (hb:body.length≤1000):ae (fun F=>eW F (body,name,n)) (wV body name n):=by
 unfold eW wV
 refine ae.bind (D7 body hb) ?_
 obtain ⟨_,_,_,q4,q5⟩:=pR body
 have hv:=Bp body
 have hnames:(ofP body).1.2.2.2.2.1=(iS (vP body)).map (·.1):=q4.trans (wa _)
 have hitems : ∀ (i:Nat) (h:i<(iS (vP body)).length),(ofP body).1.2.2.2.2.2.1[i]? = some (bG 7 (iS (vP body))[i].2.1):=by
  rw [q5]
  cases hc:vP body with
  | obj l =>
   intro i h
   have h':i<l.length:=h
   show (l.map fun m=>JN 8 m.2.1)[i]? = some (bG 7 l[i].2.1)
   rw [List.getElem?_map,List.getElem?_eq_getElem h']
   rfl
  | _=>intro i h; exact absurd h (Nat.not_lt_zero _)
 have hll:(iS (vP body)).length≤1000 ∧ ∀ m∈iS (vP body),(bG 7 m.2.1).length≤400:=by
  cases hc:vP body with
  | obj l =>
   obtain ⟨_,h2,h3⟩:=pI hv hc
   exact ⟨by show l.length≤1000; omega,fun m hm=>(h3 m hm).2⟩
  | _=>exact ⟨Nat.zero_le _,fun m hm=>by cases hm⟩
 have hL:=xc name n (ofP body).1 (iS (vP body)) hll.1 hnames hitems hll.2 (iS (vP body)).length 0 (by omega)
 rw [List.drop_zero] at hL
 refine ae.bind hL.run (.of fun F => ?_)
 cases h2:(firstM name (iS (vP body))).2 with
 | true=>rfl
 | false=>rfl
/-! ### only -/
theorem GJ (x:Int):decide (bA x∈([1,2,3]:List Int))=decide (1≤bA x∧bA x≤3):=by
 rw [Bool.eq_iff_iff,decide_eq_true_eq,decide_eq_true_eq]
 simp only [List.mem_cons,List.not_mem_nil,or_false]
 omega
theorem JS (s:By) (hs:s.length≤100000):ae (fun F=>kn F (s,[1,2,3])) (((bX s).map (·.1)).all fun x=>decide (1≤bA x∧bA x≤3)):=by
 have:=Cg s [1,2,3] (by decide)
 unfold Bn at this
 simp only [GJ] at this
 exact this
theorem vz (n:Int) (l:List Int) (hl:l.length≤1000000) : ∀ (k i:Nat),i+k=l.length→af cW (n,l,(i:Int),()) (if (l.drop i).all (fun x=>decide (1≤bA x∧bA x≤3))=true then .inl (n,l,()) else .inr (false,()))
 | 0,i,h=>by
  refine af.fin (.of fun F => ?_)
  unfold cW
  rw [if_neg (by rw [decide_eq_true_eq]; simp only; omega),List.drop_eq_nil_of_le (by omega)]
  rfl
 | k+1,i,h=>by
  have hi:i<l.length:=by omega
  have hx:idx l (i:Int)=some l[i]:=bn _ _ _ (List.getElem?_eq_getElem hi)
  have hw:IntKind.i64.wrap ((i:Int)+1)=((i+1:Nat):Int):=by rw [wrap64 _ (by omega) (by omega)]; omega
  have ih:=vz n l hl k (i+1) (by omega)
  rw [List.drop_eq_getElem_cons hi,List.all_cons]
  generalize l[i]=c at *
  have hbody : ∀ F,cW F (n,l,(i:Int),())=some (if decide (1≤bA c∧bA c≤3)=true then .inl (n,l,((i+1:Nat):Int),()) else .inr (.inr (false,()))):=by
   intro F
   unfold cW
   rw [if_pos (by rw [decide_eq_true_eq]; simp only; omega)]
   simp only [hx,Option.bind_some,nI]
   by_cases c1:bA c<1
   ·have : ¬ (1≤bA c∧bA c≤3):=by omega
    simp [c1,this]
   ·by_cases c2:3<bA c
    ·have : ¬ (1≤bA c∧bA c≤3):=by omega
     simp [c1,c2,this]
    ·have:1≤bA c∧bA c≤3:=by omega
     simp [c1,c2,this,hw]
  cases hc:decide (1≤bA c∧bA c≤3) with
  | true =>
   rw [Bool.true_and]
   exact af.step (.of fun F=>(hbody F).trans (by rw [hc,if_pos rfl])) ih
  | false =>
   rw [Bool.false_and]
   exact af.fin (.of fun F=>(hbody F).trans (by rw [hc]; rfl))
theorem JU (s:By) (n:Int) (hs:s.length≤100000):ae (fun F=>eX F (s,n)) (yE s n):=by
 unfold eX yE
 refine ae.bind (oX s (by omega)) ?_
 have hsl:=s8 s
 have h:=vz n ((bX s).map (·.1)) (by rw [List.length_map]; omega) ((bX s).map (·.1)).length 0 (by omega)
 rw [List.drop_zero] at h
 refine ae.bind h.run (.of fun F => ?_)
 cases hb:((bX s).map (·.1)).all (fun x=>decide (1≤bA x∧bA x≤3)) with
 | true =>
  rw [Bool.and_true]
  show some (decide ((((bX s).map (·.1)).length:Int)≤n)) = _
  rw [List.length_map]
 | false=>rw [Bool.and_false]; rfl
theorem CI (F:Nat) (ok:Bool) (why:By) (h:why.length≤2000):iO F (ok,why)=some (xK ok why):=by
 unfold iO xK
 cases ok with
 | true=>rfl
 | false =>
  show (if decide (([114,101,102,117,115,101,100,32]:By).length+why.length≤9223372036854775807)=true then _ else none) = _
  rw [if_pos (by rw [decide_eq_true_eq]; simp only [List.length_cons,List.length_nil]; omega)]
  rfl
/-! ### next -/
theorem Hs (p:List PhT) (e:EnT) (hl:p.length≤1000000) (hb : ∀ x∈p,qW x) (he:e.key.length≤1000∧e.method.length≤1000∧e.path.length≤1000∧e.body.length≤1000):ae (fun F=>j7 F (p,e)) (yH p e):=by
 unfold j7 yH
 refine ae.bind (GN p hl hb) ?_
 by_cases hm:oz p=true
 case neg =>
  have hm':oz p=false:=by simpa using hm
  rw [hm',if_pos rfl]
  exact ae.pos rfl (.ret _)
 rw [hm,if_neg (show ¬ (true=false) by decide)]
 refine ae.neg (by decide) ?_
 refine ae.bind (r:=((p,(),(),decide (e.pt<0∨(p.length:Int)≤e.pt),e,zDo,()):List PhT×Unit×Unit×Bool×EnT×DoT×Unit)) (.of fun F => ?_) ?_
 ·show (if decide (e.pt<0)=false then some (p,(),(),decide ((p.length:Int)≤e.pt),e,zDo,()) else some (p,(),(),true,e,zDo,())) = _
  by_cases c1:e.pt<0
  ·rw [if_neg (by rw [decide_eq_true c1]; decide),decide_eq_true (.inl c1)]
  ·rw [if_pos (decide_eq_false c1)]
   have:decide (e.pt<0∨(p.length:Int)≤e.pt)=decide ((p.length:Int)≤e.pt):=by rw [decide_eq_decide]; exact ⟨fun h=>h.resolve_left c1, .inr⟩
   rw [this]
 by_cases hc:e.pt<0∨(p.length:Int)≤e.pt
 ·rw [if_pos hc]
  exact ae.pos (decide_eq_true hc) (.ret _)
 rw [if_neg hc]
 refine ae.neg (by rw [decide_eq_true_eq]; exact hc) ?_
 have hi:e.pt.toNat<p.length:=by omega
 have hg:p[e.pt.toNat]? = some p[e.pt.toNat]:=List.getElem?_eq_getElem hi
 have hx:idx p e.pt=some p[e.pt.toNat]:=by
  have:=bn p e.pt.toNat _ hg
  rwa [show ((e.pt.toNat:Nat):Int)=e.pt by omega] at this
 obtain ⟨hbn,hbt⟩:=hb p[e.pt.toNat] (List.getElem_mem hi)
 rw [hg]
 generalize p[e.pt.toNat]=x at *
 refine ae.bind (.of fun F=>hx) ?_
 show ae _ ((doT x e,0):DoT×Int)
 unfold doT
 by_cases k1:x.1=1
 ·rw [if_pos k1]
  refine ae.pos (decide_eq_true k1) ?_
  refine ae.bind (r:=(((),0,xK (yE e.body x.2.2.1) rF,()):Unit×Int×DoT×Unit)) ?_ (.ret _)
  refine ae.bind (AP e.body (by omega)) ?_
  unfold yE
  by_cases c:((bX e.body).length:Int)≤x.2.2.1
  ·rw [decide_eq_true c,Bool.true_and]
   exact ae.pos rfl (ae.bind (JS e.body (by omega)) (ae.bind (.of fun F=>CI F _ _ (by decide)) (.ret _)))
  ·rw [decide_eq_false c,Bool.false_and]
   exact ae.neg (by decide) (ae.bind (.of fun F=>CI F _ _ (by decide)) (.ret _))
 rw [if_neg k1]
 refine ae.neg (by rw [decide_eq_true_eq]; exact k1) ?_
 by_cases k2:x.1=2
 ·rw [if_pos k2]
  refine ae.pos (decide_eq_true k2) ?_
  refine ae.bind (r:=(((),0,xK (wV e.body x.2.1 x.2.2.1) (qz ++ 32 :: x.2.1),()):Unit×Int×DoT×Unit)) ?_ (.ret _)
  refine ae.bind (JE e.body x.2.1 x.2.2.1 (by omega)) ?_
  refine ae.pos (by rw [decide_eq_true_eq]; simp only [List.length_cons,List.length_nil]; omega) ?_
  exact ae.bind (.of fun F=>CI F _ _ (by simp only [List.length_append,List.length_cons,List.length_nil]; omega)) (.ret _)
 rw [if_neg k2]
 refine ae.neg (by rw [decide_eq_true_eq]; exact k2) ?_
 by_cases k3:x.1=3
 ·rw [if_pos k3]
  refine ae.pos (decide_eq_true k3) ?_
  refine ae.bind (r:=(((),(),zDo,(e.1,e.key,e.ep,e.pt,e.tk,x.2.1,oY x.2.2.2.1 e,()),()):Unit×Unit×DoT×(Int×By×Int×Int×Int×By×By×Unit)×Unit)) ?_ (.ret _)
  exact ae.bind (HM x.2.2.2.1 e hbt he) (.ret _)
 rw [if_neg k3]
 refine ae.neg (by rw [decide_eq_true_eq]; exact k3) ?_
 refine ae.bind (r:=(((),0,(2,x.2.2.1,oY x.2.2.2.1 e,0,[],0,0,0,[],[],()),()):Unit×Int×DoT×Unit)) ?_ (.ret _)
 exact ae.bind (HM x.2.2.2.1 e hbt he) (.ret _)
theorem JO (p:List PhT) (e:EnT) (hl:p.length≤1000000) (hb : ∀ x∈p,qW x) (he:e.key.length≤1000∧e.method.length≤1000∧e.path.length≤1000∧e.body.length≤1000):ae (fun F=>eZ F (p,e)) (yH p e):=by
 unfold eZ yH
 refine ae.bind (LB p hl hb) ?_
 by_cases hm:oz p=true
 case neg =>
  have hm':oz p=false:=by simpa using hm
  rw [hm',if_pos rfl]
  exact ae.pos rfl (.ret _)
 rw [hm,if_neg (show ¬ (true=false) by decide)]
 refine ae.neg (by decide) ?_
 refine ae.bind (r:=((p,(),(),decide (e.pt<0∨(p.length:Int)≤e.pt),e,zDo,()):List PhT×Unit×Unit×Bool×EnT×DoT×Unit)) (.of fun F => ?_) ?_
 ·show (if decide (e.pt<0)=false then some (p,(),(),decide ((p.length:Int)≤e.pt),e,zDo,()) else some (p,(),(),true,e,zDo,())) = _
  by_cases c1:e.pt<0
  ·rw [if_neg (by rw [decide_eq_true c1]; decide),decide_eq_true (.inl c1)]
  ·rw [if_pos (decide_eq_false c1)]
   have:decide (e.pt<0∨(p.length:Int)≤e.pt)=decide ((p.length:Int)≤e.pt):=by rw [decide_eq_decide]; exact ⟨fun h=>h.resolve_left c1, .inr⟩
   rw [this]
 by_cases hc:e.pt<0∨(p.length:Int)≤e.pt
 ·rw [if_pos hc]
  exact ae.pos (decide_eq_true hc) (.ret _)
 rw [if_neg hc]
 refine ae.neg (by rw [decide_eq_true_eq]; exact hc) ?_
 have hi:e.pt.toNat<p.length:=by omega
 have hg:p[e.pt.toNat]? = some p[e.pt.toNat]:=List.getElem?_eq_getElem hi
 have hx:idx p e.pt=some p[e.pt.toNat]:=by
  have:=bn p e.pt.toNat _ hg
  rwa [show ((e.pt.toNat:Nat):Int)=e.pt by omega] at this
 obtain ⟨hbn,hbt⟩:=hb p[e.pt.toNat] (List.getElem_mem hi)
 rw [hg]
 generalize p[e.pt.toNat]=x at *
 refine ae.bind (.of fun F=>hx) ?_
 show ae _ ((doT x e,0):DoT×Int)
 unfold doT
 by_cases k1:x.1=1
 ·rw [if_pos k1]
  refine ae.pos (decide_eq_true k1) (ae.bind (JU e.body x.2.2.1 (by omega)) ?_)
  cases yE e.body x.2.2.1 with
  | true=>exact ae.pos rfl (.ret _)
  | false=>exact ae.neg (by decide) (.ret _)
 rw [if_neg k1]
 refine ae.neg (by rw [decide_eq_true_eq]; exact k1) ?_
 by_cases k2:x.1=2
 ·rw [if_pos k2]
  refine ae.pos (decide_eq_true k2) (ae.bind (JY e.body x.2.1 x.2.2.1 (by omega)) ?_)
  cases wV e.body x.2.1 x.2.2.1 with
  | true=>exact ae.pos rfl (.ret _)
  | false=>exact ae.neg (by decide) (ae.pos (by rw [decide_eq_true_eq]; simp only [List.length_cons,List.length_nil]; omega) (.ret _))
 rw [if_neg k2]
 refine ae.neg (by rw [decide_eq_true_eq]; exact k2) ?_
 refine ae.bind (HT x.2.2.2.1 e hbt he) ?_
 by_cases k3:x.1=3
 ·rw [if_pos k3]
  exact ae.pos (decide_eq_true k3) (.ret _)
 ·rw [if_neg k3]
  exact ae.neg (by rw [decide_eq_true_eq]; exact k3) (.ret _)
/-! ### calls -/
theorem wJ (p:List PhT) (pt:Int) (hl:p.length≤1000000) : ∀ (k i:Nat),i+k=p.length→af iD (pt,(fT p (min i pt.toNat):Int),p,(p.length:Int),(i:Int),()) (wU p pt,())
 | 0,i,h=>by
  have e:fT p (min i pt.toNat)=fT p pt.toNat:=by
   rcases Nat.le_total i pt.toNat with c | c
   ·rw [Nat.min_eq_left c,xb (show p.length≤pt.toNat by omega),show i=p.length by omega]
   ·rw [Nat.min_eq_right c]
  refine af.fin (.of fun F => ?_)
  unfold iD
  rw [if_neg (by rw [decide_eq_true_eq]; simp only; omega),e]
  rfl
 | k+1,i,h=>by
  have hi:i<p.length:=by omega
  have hg:p[i]? = some p[i]:=List.getElem?_eq_getElem hi
  have hx:idx p (i:Int)=some p[i]:=bn _ _ _ hg
  have hw:IntKind.i64.wrap ((i:Int)+1)=((i+1:Nat):Int):=by rw [wrap64 _ (by omega) (by omega)]; omega
  have ih:=wJ p pt hl k (i+1) (by omega)
  have hcl:=yq p (min i pt.toNat)
  refine af.step (.of fun F => ?_) ih
  unfold iD
  rw [if_pos (by rw [decide_eq_true_eq]; simp only; omega)]
  simp only [hx,Option.bind_some]
  by_cases c1:(i:Int)<pt
  ·have m1:min i pt.toNat=i:=by omega
   have m2:min (i+1) pt.toNat=i+1:=by omega
   have hcs:=ua hg
   rw [m1] at hcl ⊢
   rw [m2,hcs]
   have hw2:IntKind.i64.wrap ((fT p i:Int)+1)=((fT p i+1:Nat):Int):=by rw [wrap64 _ (by omega) (by omega)]; omega
   by_cases c2:(p[i]).1=3
   ·simp [c1,c2,hw,hw2]
   ·simp [c1,c2,hw]
  ·have m1:min i pt.toNat=pt.toNat:=by omega
   have m2:min (i+1) pt.toNat=pt.toNat:=by omega
   rw [m1,m2]
   simp [c1,hw]
theorem I5 (p:List PhT) (pt:Int) (hl:p.length≤1000000):ae (fun F=>kW F (p,pt)) (wU p pt):=by
 unfold kW
 have h:=wJ p pt hl p.length 0 (by omega)
 rw [Nat.zero_min] at h
 exact ae.bind h.run (.ret _)
theorem tG (p:List PhT) (pt:Int) (hl:p.length≤1000000) : ∀ (k i:Nat),i+k=p.length→i≤pt.toNat→af cC (p,pt,(fT p i:Int),(i:Int),()) (wU p pt,())
 | 0,i,h,hp=>by
  refine af.fin (.of fun F => ?_)
  unfold cC
  have e:fT p i=fT p pt.toNat:=by rw [xb (show p.length≤pt.toNat by omega),show i=p.length by omega]
  rw [if_neg (by rw [decide_eq_true_eq]; simp only; omega),e]
  rfl
 | k+1,i,h,hp=>by
  have hi:i<p.length:=by omega
  have hg:p[i]? = some p[i]:=List.getElem?_eq_getElem hi
  have hx:idx p (i:Int)=some p[i]:=bn _ _ _ hg
  have hw:IntKind.i64.wrap ((i:Int)+1)=((i+1:Nat):Int):=by rw [wrap64 _ (by omega) (by omega)]; omega
  have hcl:=yq p i
  have hw2:IntKind.i64.wrap ((fT p i:Int)+1)=((fT p i+1:Nat):Int):=by rw [wrap64 _ (by omega) (by omega)]; omega
  by_cases c1:(i:Int)<pt
  ·have ih:=tG p pt hl k (i+1) (by omega) (by omega)
   rw [ua hg] at ih
   refine af.step (.of fun F => ?_) ih
   unfold cC
   rw [if_pos (by rw [decide_eq_true_eq]; simp only; omega)]
   simp only [hx,Option.bind_some,c1,decide_true,if_true]
   by_cases c2:(p[i]).1=3
   ·simp [c2,hw,hw2]
   ·simp [c2,hw]
  ·refine af.fin (.of fun F => ?_)
   unfold cC
   rw [if_pos (by rw [decide_eq_true_eq]; simp only; omega)]
   simp only [Option.bind_some,c1,decide_false,Bool.false_eq_true,if_false]
   have:pt.toNat=i:=by omega
   unfold wU
   rw [this]
theorem H8 (p:List PhT) (pt:Int) (hl:p.length≤1000000):ae (fun F=>eK F (p,pt)) (wU p pt):=by
 unfold eK
 have h:=tG p pt hl p.length 0 (by omega) (Nat.zero_le _)
 exact ae.bind h.run (.ret _)
end Go.Vm
