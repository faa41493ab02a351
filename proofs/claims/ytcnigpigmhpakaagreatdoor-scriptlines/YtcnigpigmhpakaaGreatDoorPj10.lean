/- JSON: the program's values are the plain ones. No condition but on lengths. -/
import Derived.Test.YtcnigpigmhpakaaGreatDoorFjson
import Derived.Test.YtcnigpigmhpakaaGreatDoorPj9
namespace Go.Vm
open Go.Lib (decodeL)
set_option linter.unusedVariables false
set_option linter.unusedSimpArgs false
theorem ae.evt {α:Type} {m m':Nat→Option α} {r:α} (N:Nat) (h:ae m r) (e : ∀ F,N≤F→m' F=m F):ae m' r:=by
 obtain ⟨M,h⟩:=h
 exact ⟨max N M,fun F hF=>(e F (by omega)).trans (h F (by omega))⟩
/-! ### find -/
def C2 (l:List Me) (name:By):Int:=match l.findIdx? (fun m=>m.1 == name) with
 | some i=>(i:Int)
 | none => -1
theorem wG (l:List Me) (name:By) (hl:l.length≤1000000) : ∀ (n i:Nat),i+n=l.length→(∀ j (h:j<l.length),j<i→l[j].1≠name) →
  af aL (l,((name,()),()),(l.length:Int),(i:Int),()) (match l.findIdx? (fun m=>m.1 == name) with
   | some i => .inr ((i:Int),())
   | none => .inl ())
 | 0,i,h,hn=>by
  refine af.fin (.of fun F => ?_)
  have:l.findIdx? (fun m=>m.1 == name)=none:=by
   rw [List.findIdx?_eq_none_iff]
   intro x hx
   obtain ⟨j,hj,rfl⟩:=List.mem_iff_getElem.1 hx
   simpa using hn j hj (by omega)
  rw [this]
  unfold aL
  have h' : ¬ (i:Int)<(l.length:Int):=by omega
  simp only [h',decide_false,Bool.false_eq_true,if_false]
 | n+1,i,h,hn=>by
  have hi:i<l.length:=by omega
  have h':(i:Int)<(l.length:Int):=by omega
  have hx:idx l (i:Int)=some l[i]:=eQ _ _ _ (by simp [hi])
  by_cases hc:l[i].1=name
  ·have:l.findIdx? (fun m=>m.1 == name)=some i:=by
    rw [List.findIdx?_eq_some_iff_getElem]
    exact ⟨hi,by simpa using hc,fun j hj=>by simpa using hn j (by omega) hj⟩
   refine af.fin (.of fun F => ?_)
   rw [this]
   unfold aL fp
   simp only [h',decide_true,if_true,hx,Option.bind_some,hc]
  ·refine af.step (.of fun F => ?_) (wG l name hl n (i+1) (by omega) (fun j h1 h2 => ?_))
   ·unfold aL fp
    simp only [h',decide_true,if_true,hx,Option.bind_some,hc,decide_false,Bool.false_eq_true,if_false]
    rw [wrap64 _ (by omega) (by omega)]
    rfl
   ·by_cases hj:j=i
    ·subst hj; exact hc
    ·exact hn j h1 (by omega)
theorem Jh (l:List Me) (name:By) (hl:l.length≤1000000):ae (fun F=>eR F (l,name)) (C2 l name):=by
 unfold eR bQ C2
 refine ae.bind (ae.bind (wG l name hl l.length 0 (by omega) (fun j _ h=>absurd h (by omega))).run ?_) (.ret _)
 cases l.findIdx? (fun m=>m.1 == name) with
 | none=>exact .ret _
 | some i=>exact .ret _
theorem xh (l:List Me) (name:By):decide (0≤C2 l name)=l.any (fun m=>m.1 == name):=by
 unfold C2
 cases h:l.findIdx? (fun m=>m.1 == name) with
 | none =>
  rw [List.findIdx?_eq_none_iff] at h
  have:l.any (fun m=>m.1 == name)=false:=by rw [List.any_eq_false]; intro x hx; rw [h x hx]; decide
  rw [this]
  decide
 | some i =>
  rw [List.findIdx?_eq_some_iff_getElem] at h
  obtain ⟨hi,h1,_⟩:=h
  have:l.any (fun m=>m.1 == name)=true:=List.any_eq_true.2 ⟨_,List.getElem_mem hi,h1⟩
  rw [this]
  simp
/-! ### what is told -/
def Bad (s:By) (e:Nat) (x:RS):Prop:=e≠0 ∧ ∃ r k,x=st s r k (e:Int)∧r <:+ s ∧ -1000≤k∧k≤1000
def RV (s:By) (k:Int) (x:Except Nat (JV×By)) (y:JV×RS):Prop:=match x with
 | .ok (v,q)=>y=(v,st s q k 0)
 | .error e=>Bad s e y.2
def VT (s:By) (d:Nat) (R:Nat→RS→Option (JV×RS)):Prop := ∀ r,r <:+ s → ∃ y,ae (fun F=>R F (st s r (8 - (d:Int)) 0)) y∧RV s (8 - (d:Int)) (fG d r) y
theorem xD (s:By) (e:Nat) (x:RS) (hx:Bad s e x) (hs:s.length≤1000) (z:UInt8) (hz:z≠0) (hzc:z≠44) : ∃ x',ae (fun F=>bd F (x,(z.toNat:Int))) (false,x')∧Bad s e x':=by
 obtain ⟨he,r,k,rfl,hr,hk⟩:=hx
 have he' : ¬ (e:Int)=0:=by omega
 have h:=zl s r hr hs k e z hz hk hzc
 rw [if_neg (fun hh=>he' hh.1),if_neg (fun hh=>he' hh.1),if_neg he'] at h
 exact ⟨_,h,he,skp r,k,rfl,(av r).trans hr,hk⟩
/-! ### lists -/
def RL (s:By) (k:Int) (acc:List JV) (x:Except Nat (List JV×By)) (y:Unit×Unit×List JV×RS×Unit):Prop:=match x with
 | .ok (l,q)=>y=((),(),acc ++ l,st s q (k - 1) 0,())
 | .error e=>Bad s e y.2.2.2.1
theorem wN (s:By) (hs:s.length≤1000) (d:Nat) (hd:d≤8) (R:Nat→RS→Option (JV×RS)) (hR:VT s d R) : ∀ (n:Nat) (r:By) (acc:List JV),r <:+ s→r.length+1≤n→acc.length+r.length≤1000 →
  ∃ y,af (fun F=>bE F (R F)) ((),(),acc,st s r (8 - (d:Int)) 0,()) y∧RL s (8 - (d:Int)) acc (nM (fG d) n r) y
 | 0,r,acc,hr,hn,ha=>by omega
 | n+1,r,acc,hr,hn,ha=>by
  obtain ⟨⟨v,x⟩,h1,h2⟩:=hR r hr
  have hlen:decide ((acc.length+1) * 16≤140737488355328)=true:=by rw [decide_eq_true_eq]; omega
  unfold nM
  cases hv:fG d r with
  | error e =>
   rw [hv] at h2
   have hb:Bad s e x:=h2
   obtain ⟨x',h3,h4⟩:=xD s e x hb hs 93 (by decide) (by decide)
   refine ⟨((),(),acc ++ [v],x',()),af.fin ?_,h4⟩
   unfold bE st
   refine ae.pos (by rfl) ?_
   refine ae.bind h1 ?_
   refine ae.pos (by simpa using hlen) ?_
   refine ae.bind h3 ?_
   exact .ret _
  | ok w =>
   obtain ⟨v',r1⟩:=w
   rw [hv] at h2
   have h2:(v,x)=(v',st s r1 (8 - (d:Int)) 0):=h2
   injection h2 with h2 h2'
   subst h2; subst h2'
   obtain ⟨_,o2,o3,_⟩:=qA d r v r1 hv
   have hr1:=o2.trans hr
   have hc:=zl s r1 hr1 hs (8 - (d:Int)) 0 93 (by decide) (by omega) (by decide)
   have hsk:=dT r1
   have step : ∀ (b:Bool) (x':RS) (y:Unit×Unit×List JV×RS×Unit),ae (fun F=>bd F (st s r1 (8 - (d:Int)) 0,93)) (b,x')→(if b=true then af (fun F=>bE F (R F)) ((),(),acc ++ [v],x',()) y else y=((),(),acc ++ [v],x',())) →
     af (fun F=>bE F (R F)) ((),(),acc,st s r (8 - (d:Int)) 0,()) y:=by
    intro b x' y hcc hy
    have hbody:ae (fun F=>bE F (R F) ((),(),acc,st s r (8 - (d:Int)) 0,())) (if (!b)=true then .inr ((),(),acc ++ [v],x',()) else .inl ((),(),acc ++ [v],x',())):=by
     unfold bE st
     refine ae.pos (by rfl) ?_
     refine ae.bind h1 ?_
     refine ae.pos (by simpa using hlen) ?_
     refine ae.bind hcc ?_
     cases b <;> exact .ret _
    cases b with
    | false =>
     have hy:y = _:=hy
     subst hy
     exact af.fin hbody
    | true=>exact af.step hbody hy
   simp only
   split
   ·rename_i r' hs44
    rw [hs44] at hc hsk
    simp only [List.length_cons] at hsk
    have hr':r' <:+ s:=((List.suffix_cons 44 r').trans (hs44 ▸ av r1)).trans hr1
    obtain ⟨y,i1,i2⟩:=wN s hs d hd R hR n r' (acc ++ [v]) hr' (by omega) (by rw [List.length_append,List.length_singleton]; omega)
    refine ⟨y,step true _ y hc i1,?_⟩
    cases hl:nM (fG d) n r' with
    | error e=>rw [hl] at i2; exact i2
    | ok w =>
     obtain ⟨l,q⟩:=w
     rw [hl] at i2
     have i2:y = _:=i2
     rw [i2]
     show ((),(),acc ++ [v] ++ l,_,())=((),(),acc ++ v :: l,_,())
     rw [List.append_assoc,List.singleton_append]
   ·rename_i r' hs93
    rw [hs93] at hc
    exact ⟨_,step false _ _ hc rfl,rfl⟩
   ·rename_i h44 h93
    have n44 : ¬ ((0:Int)=0∧(skp r1).head? = some 44):=by
     rintro ⟨_,hh⟩
     cases hx:skp r1 with
     | nil=>rw [hx] at hh; cases hh
     | cons c q=>rw [hx] at hh; injection hh with hh; subst hh; exact h44 _ hx
    have n93 : ¬ ((0:Int)=0∧(skp r1).head? = some 93):=by
     rintro ⟨_,hh⟩
     cases hx:skp r1 with
     | nil=>rw [hx] at hh; cases hh
     | cons c q=>rw [hx] at hh; injection hh with hh; subst hh; exact h93 _ hx
    rw [if_neg n44,if_neg n93] at hc
    refine ⟨_,step false _ _ hc rfl,?_⟩
    exact ⟨by decide,skp r1,_,rfl,(av r1).trans hr1,by omega,by omega⟩
theorem Jr (s:By) (hs:s.length≤1000) (d:Nat) (hd:d≤8) (R:Nat→RS→Option (JV×RS)) (hR : ∀ d',d=d'+1→VT s d' R) (q:By) (hq:91 :: q <:+ s) :
  ∃ y,ae (fun F=>de F (R F) (st s (91 :: q) (8 - (d:Int)) 0)) y∧RV s (8 - (d:Int)) (match (match d with | 0=>none | d+1=>some (fG d):Option (By→Except Nat (JV×By))) with
   | none => .error 10
   | some V=>match skp q with
    | 93 :: r => .ok (.list [],r)
    | r=>match nM V (r.length+1) r with
     | .error e => .error e
     | .ok (l,r) => .ok (.list l,r)) y:=by
 have hqs:=cr hq
 have hent:=Dn s q 91 hq hs (8 - (d:Int)) (by omega)
 unfold de
 cases d with
 | zero =>
  rw [if_pos (by decide)] at hent
  have hlv:=ri s q hqs hs (8 - ((0:Nat):Int)+1) 10 93 (by decide) (by decide)
  rw [if_neg (fun hh=>absurd hh.1 (by decide))] at hlv
  refine ⟨(.list [],st s (skp q) (8 - ((0:Nat):Int)+1) 10),?_,by decide,skp q,_,rfl,(av q).trans hqs,by decide,by decide⟩
  refine ae.bind hent ?_
  refine ae.bind hlv ?_
  refine ae.neg Bool.false_ne_true ?_
  refine ae.bind (af.run (f:=fun F=>bE F (R F)) (af.fin (y:=((),(),[],st s (skp q) (8 - ((0:Nat):Int)+1) 10,())) (.of fun F=>rfl))) (.ret _)
 | succ d =>
  rw [if_neg (by omega)] at hent
  have e8:(8:Int) - ((d+1:Nat):Int)+1=8 - (d:Int):=by omega
  rw [e8] at hent
  have hlv:=ri s q hqs hs (8 - (d:Int)) 0 93 (by decide) (by omega)
  have e9:(8:Int) - (d:Int) - 1=8 - ((d+1:Nat):Int):=by omega
  simp only
  split
  ·rename_i r hr
   rw [hr,if_pos ⟨rfl,rfl⟩,e9] at hlv
   refine ⟨(.list [],st s r (8 - ((d+1:Nat):Int)) 0),?_,rfl⟩
   refine ae.bind hent ?_
   refine ae.bind hlv ?_
   exact ae.pos rfl (.ret _)
  ·rename_i hr
   have n93 : ¬ ((0:Int)=0∧(skp q).head? = some 93):=by
    rintro ⟨_,hh⟩
    cases hx:skp q with
    | nil=>rw [hx] at hh; cases hh
    | cons c q'=>rw [hx] at hh; injection hh with hh; subst hh; exact hr _ hx
   rw [if_neg n93] at hlv
   have hsk:skp q <:+ s:=(av q).trans hqs
   obtain ⟨y,h1,h2⟩:=wN s hs d (by omega) R (hR d rfl) ((skp q).length+1) (skp q) [] hsk (Nat.le_refl _) (by have:=dS hsk; simp; omega)
   refine ⟨(.list y.2.2.1,y.2.2.2.1),?_,?_⟩
   ·refine ae.bind hent ?_
    refine ae.bind hlv ?_
    refine ae.neg Bool.false_ne_true ?_
    refine ae.bind h1.run ?_
    exact .ret _
   ·cases hl:nM (fG d) ((skp q).length+1) (skp q) with
    | error e=>rw [hl] at h2; exact h2
    | ok w =>
     obtain ⟨l,r⟩:=w
     rw [hl] at h2
     have h2:y = _:=h2
     rw [h2,e9]
     rfl
/-! ### objects -/
theorem J9 : ¬ (!decide ((34:Int)=34))=true:=by decide
theorem KF:(!decide ((0:Int)=58))=true:=by decide
def RO (s:By) (k:Int) (x:Except Nat (List Me×By)) (y:Unit×Unit×List Me×RS×Unit):Prop:=Uni y.2.2.1∧y.2.2.1.length≤2000∧match x with
 | .ok (l,q)=>y=((),(),l,st s q (k - 1) 0,())
 | .error e=>Bad s e y.2.2.2.1
theorem I3 {r:By} {z:UInt8} (h : ∀ q,r=z :: q→False) (hz:z≠0) : ¬ hd r=(z.toNat:Int):=by
 have hz0 : ¬ z.toNat=0:=fun hh=>hz (UInt8.toNat_inj.1 hh)
 intro hh
 cases r with
 | nil =>
  have h2:(0:Int)=(z.toNat:Int):=hh
  omega
 | cons c q =>
  have h2:(c.toNat:Int)=(z.toNat:Int):=hh
  have:c=z:=UInt8.toNat_inj.1 (by omega)
  subst this
  exact h q rfl
theorem s4 (s:By) (hs:s.length≤1000) (d:Nat) (hd8:d≤8) (R:Nat→RS→Option (JV×RS)) (hR:VT s d R) : ∀ (n:Nat) (r:By) (acc:List Me),r <:+ s→r.length+1≤n→acc.length+r.length≤1000→Uni acc →
  ∃ y,af (fun F=>aN F (R F)) ((),(),acc,st s r (8 - (d:Int)) 0,()) y∧RO s (8 - (d:Int)) (nz (fG d) n acc r) y
 | 0,r,acc,hr,hn,ha,hu=>by omega
 | n+1,r,acc,hr,hn,ha,hu=>by
  have hpk:=nr s r hr hs (8 - (d:Int)) 0
  rw [if_pos rfl] at hpk
  have hskr:skp r <:+ s:=(av r).trans hr
  unfold nz
  split
  ·rename_i r0 h0
   rw [h0] at hpk hskr
   have hr0:=cr hskr
   have hl0:r0.length+1≤r.length:=by have:=dT r; rw [h0] at this; exact this
   have htx:=GJ s r0 hskr hs (8 - (d:Int)) 0
   have e34:hd ((34:UInt8) :: r0)=34:=rfl
   rw [e34] at hpk
   split
   ·rename_i ht
    rw [ht] at htx
    simp only [if_true] at htx
    -- the name is none
    have hp2:=nr s (34 :: r0) hskr hs (8 - (d:Int)) 3
    rw [if_neg (by decide)] at hp2
    refine ⟨((),(),acc,st s (skp (34 :: r0)) (8 - (d:Int)) 3,()),af.fin ?_,hu,by show acc.length≤2000; omega,by decide,_,_,rfl,(av _).trans hskr,by omega,by omega⟩
    unfold aN
    refine ae.pos rfl ?_
    refine ae.bind hpk ?_
    refine ae.neg J9 ?_
    refine ae.bind htx ?_
    refine ae.bind (.ret (((),(),[],false,acc,st s (34 :: r0) (8 - (d:Int)) 3,()):Unit×Unit×By×Bool×List Me×RS×Unit)) ?_
    refine ae.bind (.ret (((),(),[],acc,st s (34 :: r0) (8 - (d:Int)) 3,()):Unit×Unit×By×List Me×RS×Unit)) ?_
    refine ae.bind hp2 ?_
    refine ae.pos KF ?_
    refine .of fun F => ?_
    unfold st
    simp only [iE,Option.bind_some]
    rfl
   ·rename_i name r1 ht
    rw [ht] at htx
    obtain ⟨t1,t2,t3⟩:=sl r0 ht
    have hr1:=t2.trans hr0
    have hfind:=Jh acc name (by omega)
    split
    ·rename_i hany
     have hp2:=nr s r1 hr1 hs (8 - (d:Int)) 7
     rw [if_neg (by decide)] at hp2
     refine ⟨((),(),acc,st s (skp r1) (8 - (d:Int)) 7,()),af.fin ?_,hu,by show acc.length≤2000; omega,by decide,_,_,rfl,(av _).trans hr1,by omega,by omega⟩
     unfold aN
     refine ae.pos rfl ?_
     refine ae.bind hpk ?_
     refine ae.neg J9 ?_
     refine ae.bind htx ?_
     refine ae.bind (r:=(((),(),name,true,acc,st s r1 (8 - (d:Int)) 0,()):Unit×Unit×By×Bool×List Me×RS×Unit)) ?_ ?_
     ·refine ae.pos rfl ?_
      refine ae.bind hfind ?_
      rw [xh,hany]
      exact .ret _
     refine ae.bind (r:=(((),(),name,acc,st s r1 (8 - (d:Int)) 7,()):Unit×Unit×By×List Me×RS×Unit)) ?_ ?_
     ·refine ae.pos rfl ?_
      refine .of fun F => ?_
      unfold st
      simp only [iE,Option.bind_some,if_true]
     refine ae.bind hp2 ?_
     refine ae.pos KF ?_
     refine .of fun F => ?_
     unfold st
     simp only [iE,Option.bind_some]
     rfl
    ·rename_i hany
     have hany:acc.any (fun m=>m.1 == name)=false:=(Bool.not_eq_true _).mp hany
     have hp2:=nr s r1 hr1 hs (8 - (d:Int)) 0
     rw [if_pos rfl] at hp2
     have hsk1:skp r1 <:+ s:=(av r1).trans hr1
     -- ahead of the colon
     have ahead : ∀ (y:(Unit×Unit×List Me×RS×Unit) ⊕ (Unit×Unit×List Me×RS×Unit)),ae (fun F=>if (!decide (hd (skp r1)=58))=true then
        (aG F (st s (skp r1) (8 - (d:Int)) 0,3)).bind fun v11=>some (.inr ((),(),acc,(v11.2.1,v11.2.2.1,v11.2.2.2.1,v11.2.2.2.2.1,()),()))
       else (R F (s,IntKind.i64.wrap (((s.length - (skp r1).length:Nat):Int)+1),8 - (d:Int),0,())).bind fun v12 =>
        if decide ((acc.length + [(name,v12.1,PUnit.unit)].length) * 32≤140737488355328)=true then
         (bd F ((v12.2.1,v12.2.2.1,v12.2.2.2.1,v12.2.2.2.2.1,()),125)).bind fun v13 =>
          if (!v13.1)=true then some (.inr ((),(),acc ++ [(name,v12.1,PUnit.unit)],(v13.2.1,v13.2.2.1,v13.2.2.2.1,v13.2.2.2.2.1,()),()))
          else some (.inl ((),(),acc ++ [(name,v12.1,PUnit.unit)],(v13.2.1,v13.2.2.1,v13.2.2.2.1,v13.2.2.2.2.1,()),()))
        else none) y→ae (fun F=>aN F (R F) ((),(),acc,st s r (8 - (d:Int)) 0,())) y:=by
      intro y hy
      unfold aN
      refine ae.pos rfl ?_
      refine ae.bind hpk ?_
      refine ae.neg J9 ?_
      refine ae.bind htx ?_
      refine ae.bind (r:=(((),(),name,false,acc,st s r1 (8 - (d:Int)) 0,()):Unit×Unit×By×Bool×List Me×RS×Unit)) ?_ ?_
      ·refine ae.pos rfl ?_
       refine ae.bind hfind ?_
       rw [xh,hany]
       exact .ret _
      refine ae.bind (r:=(((),(),name,acc,st s r1 (8 - (d:Int)) 0,()):Unit×Unit×By×List Me×RS×Unit)) (ae.neg Bool.false_ne_true (.ret _)) ?_
      refine ae.bind hp2 ?_
      exact hy
     split
     ·rename_i r2 h2
      rw [h2] at ahead hsk1
      have hr2:=cr hsk1
      have hl1:r2.length+1≤r1.length:=by have:=dT r1; rw [h2] at this; exact this
      have e58:hd ((58:UInt8) :: r2)=58:=rfl
      rw [e58,dk hsk1 hs] at ahead
      obtain ⟨⟨v,x⟩,g1,g2⟩:=hR r2 hr2
      have hlen:decide ((acc.length+1) * 32≤140737488355328)=true:=by rw [decide_eq_true_eq]; omega
      have hu':Uni (acc ++ [(name,v,())]):=by
       refine List.pairwise_append.2 ⟨hu,List.pairwise_singleton _ _,fun a ha b hb => ?_⟩
       rw [List.mem_singleton] at hb
       subst hb
       rw [List.any_eq_false] at hany
       intro e
       exact hany a ha (by simpa using e)
      have step : ∀ (b:Bool) (x':RS) (y:Unit×Unit×List Me×RS×Unit),ae (fun F=>bd F (x,125)) (b,x')→(if b=true then af (fun F=>aN F (R F)) ((),(),acc ++ [(name,v,())],x',()) y else y=((),(),acc ++ [(name,v,())],x',())) →
        af (fun F=>aN F (R F)) ((),(),acc,st s r (8 - (d:Int)) 0,()) y:=by
       intro b x' y hcc hy
       have hbody:ae (fun F=>aN F (R F) ((),(),acc,st s r (8 - (d:Int)) 0,())) (if (!b)=true then .inr ((),(),acc ++ [(name,v,())],x',()) else .inl ((),(),acc ++ [(name,v,())],x',())):=by
        refine ahead _ ?_
        refine ae.neg (by decide) ?_
        refine ae.bind g1 ?_
        refine ae.pos (by simpa using hlen) ?_
        refine ae.bind hcc ?_
        cases b <;> exact .ret _
       cases b with
       | false =>
        have hy:y = _:=hy
        subst hy
        exact af.fin hbody
       | true=>exact af.step hbody hy
      cases hv:fG d r2 with
      | error e =>
       rw [hv] at g2
       have hb:Bad s e x:=g2
       obtain ⟨x',h3,h4⟩:=xD s e x hb hs 125 (by decide) (by decide)
       exact ⟨_,step false x' _ h3 rfl,hu',by show (acc ++ [(name,v,())]).length≤2000; rw [List.length_append,List.length_singleton]; omega,h4⟩
      | ok w =>
       obtain ⟨v',r3⟩:=w
       rw [hv] at g2
       have g2:(v,x)=(v',st s r3 (8 - (d:Int)) 0):=g2
       injection g2 with g2 g2'
       subst g2; subst g2'
       obtain ⟨_,o2,o3,_⟩:=qA d r2 v r3 hv
       have hr3:=o2.trans hr2
       have hc:=zl s r3 hr3 hs (8 - (d:Int)) 0 125 (by decide) (by omega) (by decide)
       have hsk:=dT r3
       simp only
       split
       ·rename_i r' hs44
        rw [hs44] at hc hsk
        simp only [List.length_cons] at hsk
        have hr':r' <:+ s:=((List.suffix_cons 44 r').trans (hs44 ▸ av r3)).trans hr3
        obtain ⟨y,i1,i2⟩:=s4 s hs d hd8 R hR n r' (acc ++ [(name,v,())]) hr' (by omega) (by rw [List.length_append,List.length_singleton]; omega) hu'
        exact ⟨y,step true _ y hc i1,i2⟩
       ·rename_i r' hs125
        rw [hs125] at hc
        exact ⟨_,step false _ _ hc rfl,hu',by show (acc ++ [(name,v,())]).length≤2000; rw [List.length_append,List.length_singleton]; omega,rfl⟩
       ·rename_i h44 h125
        have n44 : ¬ ((0:Int)=0∧(skp r3).head? = some 44):=by
         rintro ⟨_,hh⟩
         cases hx:skp r3 with
         | nil=>rw [hx] at hh; cases hh
         | cons c q=>rw [hx] at hh; injection hh with hh; subst hh; exact h44 _ hx
        have n125 : ¬ ((0:Int)=0∧(skp r3).head? = some 125):=by
         rintro ⟨_,hh⟩
         cases hx:skp r3 with
         | nil=>rw [hx] at hh; cases hh
         | cons c q=>rw [hx] at hh; injection hh with hh; subst hh; exact h125 _ hx
        rw [if_neg n44,if_neg n125] at hc
        exact ⟨_,step false _ _ hc rfl,hu',by show (acc ++ [(name,v,())]).length≤2000; rw [List.length_append,List.length_singleton]; omega,by decide,skp r3,_,rfl,(av r3).trans hr3,by omega,by omega⟩
     ·rename_i hn58
      have h58 : ¬ hd (skp r1)=58:=I3 (z:=58) (fun q hh=>hn58 q hh) (by decide)
      refine ⟨((),(),acc,st s (skp r1) (8 - (d:Int)) 3,()),af.fin (ahead _ ?_),hu,by show acc.length≤2000; omega,by decide,_,_,rfl,hsk1,by omega,by omega⟩
      refine ae.pos (by simpa using h58) ?_
      refine .of fun F => ?_
      unfold st
      simp only [iE,Option.bind_some]
      rfl
  ·rename_i hn34
   have h34 : ¬ hd (skp r)=34:=I3 (z:=34) (fun q hh=>hn34 q hh) (by decide)
   refine ⟨((),(),acc,st s (skp r) (8 - (d:Int)) 3,()),af.fin ?_,hu,by show acc.length≤2000; omega,by decide,_,_,rfl,hskr,by omega,by omega⟩
   unfold aN
   refine ae.pos rfl ?_
   refine ae.bind hpk ?_
   refine ae.pos (by simpa using h34) ?_
   refine .of fun F => ?_
   unfold st
   simp only [iE,Option.bind_some]
   rfl
theorem F5 (F:Nat) (l:List Me) (hu:Uni l) (hl:l.length≤2000):aU F ((l,()),())=some ((),a8 l,()):=by
 unfold aU uy
 have h1:(l.map fun m:Me=>m.1).Nodup:=List.pairwise_map.2 hu
 show (if decide ((l.map fun m:Me=>m.1).Nodup)=true then if decide (l.length≤1000000000000)=true then some ((),a8 l,()) else none else none) = _
 rw [if_pos (decide_eq_true h1),if_pos (decide_eq_true (show l.length≤1000000000000 by omega))]
theorem E5 (s:By) (hs:s.length≤1000) (d:Nat) (hd8:d≤8) (R:Nat→RS→Option (JV×RS)) (hR : ∀ d',d=d'+1→VT s d' R) (q:By) (hq:123 :: q <:+ s) :
  ∃ y,ae (fun F=>cn F (R F) (st s (123 :: q) (8 - (d:Int)) 0)) y∧RV s (8 - (d:Int)) (match (match d with | 0=>none | d+1=>some (fG d):Option (By→Except Nat (JV×By))) with
   | none => .error 10
   | some V=>match skp q with
    | 125 :: r => .ok (.obj [],r)
    | r=>match nz V (r.length+1) [] r with
     | .error e => .error e
     | .ok (l,r) => .ok (.obj (a8 l),r)) y:=by
 have hqs:=cr hq
 have hent:=Dn s q 123 hq hs (8 - (d:Int)) (by omega)
 unfold cn
 cases d with
 | zero =>
  rw [if_pos (by decide)] at hent
  have hlv:=ri s q hqs hs (8 - ((0:Nat):Int)+1) 10 125 (by decide) (by decide)
  rw [if_neg (fun hh=>absurd hh.1 (by decide))] at hlv
  refine ⟨(.obj [],st s (skp q) (8 - ((0:Nat):Int)+1) 10),?_,by decide,skp q,_,rfl,(av q).trans hqs,by decide,by decide⟩
  refine ae.bind hent ?_
  refine ae.bind hlv ?_
  refine ae.neg Bool.false_ne_true ?_
  refine ae.bind (af.run (f:=fun F=>aN F (R F)) (af.fin (y:=((),(),[],st s (skp q) (8 - ((0:Nat):Int)+1) 10,())) (.of fun F=>rfl))) ?_
  refine ae.bind (.of fun F=>F5 F [] .nil (by decide)) (.ret _)
 | succ d =>
  rw [if_neg (by omega)] at hent
  have e8:(8:Int) - ((d+1:Nat):Int)+1=8 - (d:Int):=by omega
  rw [e8] at hent
  have hlv:=ri s q hqs hs (8 - (d:Int)) 0 125 (by decide) (by omega)
  have e9:(8:Int) - (d:Int) - 1=8 - ((d+1:Nat):Int):=by omega
  simp only
  split
  ·rename_i r hr
   rw [hr,if_pos ⟨rfl,rfl⟩,e9] at hlv
   refine ⟨(.obj [],st s r (8 - ((d+1:Nat):Int)) 0),?_,rfl⟩
   refine ae.bind hent ?_
   refine ae.bind hlv ?_
   exact ae.pos rfl (.ret _)
  ·rename_i hr
   have n125 : ¬ ((0:Int)=0∧(skp q).head? = some 125):=by
    rintro ⟨_,hh⟩
    cases hx:skp q with
    | nil=>rw [hx] at hh; cases hh
    | cons c q'=>rw [hx] at hh; injection hh with hh; subst hh; exact hr _ hx
   rw [if_neg n125] at hlv
   have hsk:skp q <:+ s:=(av q).trans hqs
   obtain ⟨y,h1,hu,hyl,h2⟩:=s4 s hs d (by omega) R (hR d rfl) ((skp q).length+1) (skp q) [] hsk (Nat.le_refl _) (by have:=dS hsk; simp; omega) .nil
   refine ⟨(.obj (a8 y.2.2.1),y.2.2.2.1),?_,?_⟩
   ·refine ae.bind hent ?_
    refine ae.bind hlv ?_
    refine ae.neg Bool.false_ne_true ?_
    refine ae.bind h1.run ?_
    refine ae.bind (.of fun F=>F5 F _ hu hyl) (.ret _)
   ·cases hl:nz (fG d) ((skp q).length+1) [] (skp q) with
    | error e=>rw [hl] at h2; exact h2
    | ok w =>
     obtain ⟨l,r⟩:=w
     rw [hl] at h2
     have h2:y = _:=h2
     rw [h2,e9]
     rfl
/-! ### values -/
theorem vu (s:By) (hs:s.length≤1000) (d:Nat) (hd8:d≤8) (R:Nat→RS→Option (JV×RS)) (hR : ∀ d',d=d'+1→VT s d' R):VT s d (fun F=>dj F (R F)):=by
 intro r hr
 have hv:fG d r=nL (match d with | 0=>none | d+1=>some (fG d)) r:=by cases d <;> rfl
 rw [hv]
 have hpk:=nr s r hr hs (8 - (d:Int)) 0
 rw [if_pos rfl] at hpk
 have hskr:skp r <:+ s:=(av r).trans hr
 have hsub:=ua hskr
 unfold nL
 -- behind the peek
 have ahead : ∀ (y:JV×RS),ae (fun F=>(if decide (hd (skp r)=123)=true then (cn F (R F) (st s (skp r) (8 - (d:Int)) 0)).bind fun v3=>some v3
   else if decide (hd (skp r)=91)=true then (de F (R F) (st s (skp r) (8 - (d:Int)) 0)).bind fun v4=>some v4
   else if decide (hd (skp r)=34)=true then (cm F (st s (skp r) (8 - (d:Int)) 0)).bind fun v5=>some (JV.str v5.1,v5.2.1,v5.2.2.1,v5.2.2.2.1,v5.2.2.2.2.1,())
   else (if decide (hd (skp r)=45)=false then if decide (48≤hd (skp r))=true then some ((),hd (skp r),skp r,decide (hd (skp r)≤57),st s (skp r) (8 - (d:Int)) 0,()) else some ((),hd (skp r),skp r,false,st s (skp r) (8 - (d:Int)) 0,())
    else some ((),hd (skp r),skp r,true,st s (skp r) (8 - (d:Int)) 0,()):Option (Unit×Int×By×Bool×RS×Unit)).bind fun v6 =>
    if v6.2.2.2.1=true then (dh F (v6.2.2.2.2.1.1,v6.2.2.2.2.1.2.1,v6.2.2.2.2.1.2.2.1,v6.2.2.2.2.1.2.2.2.1,())).bind fun v7=>some v7
    else (if decide (v6.2.1=110)=true then (aS F (v6.2.2.1,[110,117,108,108])).bind fun v8=>some ((),v6.2.1,v6.2.2.1,v8,(v6.2.2.2.2.1.1,v6.2.2.2.2.1.2.1,v6.2.2.2.2.1.2.2.1,v6.2.2.2.2.1.2.2.2.1,()),())
     else some ((),v6.2.1,v6.2.2.1,false,(v6.2.2.2.2.1.1,v6.2.2.2.2.1.2.1,v6.2.2.2.2.1.2.2.1,v6.2.2.2.2.1.2.2.2.1,()),()):Option (Unit×Int×By×Bool×RS×Unit)).bind fun v9 =>
     if v9.2.2.2.1=true then some (JV.null,v9.2.2.2.2.1.1,IntKind.i64.wrap (v9.2.2.2.2.1.2.1+4),v9.2.2.2.2.1.2.2.1,v9.2.2.2.2.1.2.2.2.1,())
     else (if decide (v9.2.1=116)=true then (aS F (v9.2.2.1,[116,114,117,101])).bind fun v10=>some ((),v9.2.1,v9.2.2.1,v10,(v9.2.2.2.2.1.1,v9.2.2.2.2.1.2.1,v9.2.2.2.2.1.2.2.1,v9.2.2.2.2.1.2.2.2.1,()),())
      else some ((),v9.2.1,v9.2.2.1,false,(v9.2.2.2.2.1.1,v9.2.2.2.2.1.2.1,v9.2.2.2.2.1.2.2.1,v9.2.2.2.2.1.2.2.2.1,()),()):Option (Unit×Int×By×Bool×RS×Unit)).bind fun v11 =>
      if v11.2.2.2.1=true then some (JV.bool true,v11.2.2.2.2.1.1,IntKind.i64.wrap (v11.2.2.2.2.1.2.1+4),v11.2.2.2.2.1.2.2.1,v11.2.2.2.2.1.2.2.2.1,())
      else (if decide (v11.2.1=102)=true then (aS F (v11.2.2.1,[102,97,108,115,101])).bind fun v12=>some ((),v12,(v11.2.2.2.2.1.1,v11.2.2.2.2.1.2.1,v11.2.2.2.2.1.2.2.1,v11.2.2.2.2.1.2.2.2.1,()),())
       else some ((),false,(v11.2.2.2.2.1.1,v11.2.2.2.2.1.2.1,v11.2.2.2.2.1.2.2.1,v11.2.2.2.2.1.2.2.2.1,()),()):Option (Unit×Bool×RS×Unit)).bind fun v13 =>
       if v13.2.1=true then some (JV.bool false,v13.2.2.1.1,IntKind.i64.wrap (v13.2.2.1.2.1+5),v13.2.2.1.2.2.1,v13.2.2.1.2.2.2.1,())
       else (aG F ((v13.2.2.1.1,v13.2.2.1.2.1,v13.2.2.1.2.2.1,v13.2.2.1.2.2.2.1,()),3)).bind fun v14=>some (JV.nil,v14.2.1,v14.2.2.1,v14.2.2.2.1,v14.2.2.2.2.1,()))) y →
   ae (fun F=>dj F (R F) (st s r (8 - (d:Int)) 0)) y:=by
  intro y hy
  unfold dj
  refine ae.bind hpk ?_
  refine ae.bind (r:=(((),hd (skp r),skp r,st s (skp r) (8 - (d:Int)) 0,()):Unit×Int×By×RS×Unit)) ?_ ?_
  ·refine ae.bind (.of fun F=>hsub) (.ret _)
  ·exact hy
 have hd2:hd (skp r)=hd (skp r):=rfl
 cases hc:skp r with
 | nil =>
  rw [hc] at ahead hskr
  have h0:hd ([]:By)=0:=rfl
  rw [h0] at ahead
  simp only
  refine ⟨(.nil,st s [] (8 - (d:Int)) 3),ahead _ ?_,by decide,_,_,rfl,hskr,by omega,by omega⟩
  exact .of fun F=>rfl
 | cons c t =>
  rw [hc] at ahead hskr
  have hdc:hd (c :: t)=(c.toNat:Int):=rfl
  rw [hdc] at ahead
  have nv : ∀ k:UInt8, ¬ c=k → ¬ (c.toNat:Int)=(k.toNat:Int):=by
   intro k hk hh
   exact hk (UInt8.toNat_inj.1 (by omega))
  have hts:=cr hskr
  have hl:=dS hskr
  simp only [List.length_cons] at hl
  simp only
  by_cases c1:c=123
  ·subst c1
   rw [if_pos rfl]
   obtain ⟨y,h1,h2⟩:=E5 s hs d hd8 R hR t hskr
   exact ⟨y,ahead y (ae.pos (by decide) (ae.bind h1 (.ret _))),h2⟩
  have d1 : ¬ (c.toNat:Int)=123:=nv 123 c1
  rw [if_neg c1]
  by_cases c2:c=91
  ·subst c2
   rw [if_pos rfl]
   obtain ⟨y,h1,h2⟩:=Jr s hs d hd8 R hR t hskr
   exact ⟨y,ahead y (ae.neg (by decide) (ae.pos (by decide) (ae.bind h1 (.ret _)))),h2⟩
  have d2 : ¬ (c.toNat:Int)=91:=nv 91 c2
  rw [if_neg c2]
  by_cases c3:c=34
  ·subst c3
   rw [if_pos rfl]
   have htx:=GJ s t hskr hs (8 - (d:Int)) 0
   split
   ·rename_i ht
    rw [ht] at htx
    simp only [if_true] at htx
    exact ⟨_,ahead _ (ae.neg (by decide) (ae.neg (by decide) (ae.pos (by decide) (ae.bind htx (.ret _))))),by decide,34 :: t,8 - (d:Int),rfl,hskr,by omega,by omega⟩
   ·rename_i tt q ht
    rw [ht] at htx
    exact ⟨_,ahead _ (ae.neg (by decide) (ae.neg (by decide) (ae.pos (by decide) (ae.bind htx (.ret _))))),rfl⟩
  have d3 : ¬ (c.toNat:Int)=34:=nv 34 c3
  rw [if_neg c3]
  have ahead2 : ∀ y:JV×RS,_ → _:=fun y hy=>ahead y (ae.neg (by simpa using d1) (ae.neg (by simpa using d2) (ae.neg (by simpa using d3) hy)))
  by_cases c4:c=45∨bj c=true
  ·-- a number
   have hnum:=Hk s t c hskr hs (8 - (d:Int)) c4
   obtain ⟨_,_,_,_,n110,n116,n102⟩:=vB c4
   rw [if_neg (by simp [n110]),if_neg (by simp [n116]),if_neg (by simp [n102])]
   have fl:(if decide ((c.toNat:Int)=45)=false then if decide (48≤(c.toNat:Int))=true then some ((),(c.toNat:Int),c :: t,decide ((c.toNat:Int)≤57),st s (c :: t) (8 - (d:Int)) 0,()) else some ((),(c.toNat:Int),c :: t,false,st s (c :: t) (8 - (d:Int)) 0,())
    else some ((),(c.toNat:Int),c :: t,true,st s (c :: t) (8 - (d:Int)) 0,()):Option (Unit×Int×By×Bool×RS×Unit))=some ((),(c.toNat:Int),c :: t,true,st s (c :: t) (8 - (d:Int)) 0,()):=by
    by_cases c45:c=45
    ·subst c45; rfl
    ·have hd:=c4.resolve_left c45
     simp [bj] at hd
     have q1 : ¬ (c.toNat:Int)=45:=nv 45 c45
     have q2:(48:Int)≤(c.toNat:Int):=by omega
     have q3:(c.toNat:Int)≤57:=by omega
     simp only [q1,q2,q3,decide_true,decide_false,if_true]
   cases hn:pM (c :: t) with
   | none =>
    rw [hn] at hnum
    exact ⟨_,ahead2 _ (ae.bind (.of fun F=>fl) (ae.pos rfl (ae.bind hnum (.ret _)))),by decide,c :: t,8 - (d:Int),rfl,hskr,by omega,by omega⟩
   | some w =>
    obtain ⟨n,q⟩:=w
    rw [hn] at hnum
    exact ⟨_,ahead2 _ (ae.bind (.of fun F=>fl) (ae.pos rfl (ae.bind hnum (.ret _)))),rfl⟩
  ·have c45 : ¬ c=45:=fun hh=>c4 (.inl hh)
   have hnd:bj c=false:=by cases hh:bj c with | false=>rfl | true=>exact absurd (.inr hh) c4
   have fl:(if decide ((c.toNat:Int)=45)=false then if decide (48≤(c.toNat:Int))=true then some ((),(c.toNat:Int),c :: t,decide ((c.toNat:Int)≤57),st s (c :: t) (8 - (d:Int)) 0,()) else some ((),(c.toNat:Int),c :: t,false,st s (c :: t) (8 - (d:Int)) 0,())
    else some ((),(c.toNat:Int),c :: t,true,st s (c :: t) (8 - (d:Int)) 0,()):Option (Unit×Int×By×Bool×RS×Unit))=some ((),(c.toNat:Int),c :: t,false,st s (c :: t) (8 - (d:Int)) 0,()):=by
    have q1 : ¬ (c.toNat:Int)=45:=nv 45 c45
    simp [bj] at hnd
    by_cases q2:48≤c.toNat
    ·have q2':(48:Int)≤(c.toNat:Int):=by omega
     have q3 : ¬ (c.toNat:Int)≤57:=by have:=hnd q2; omega
     simp only [q1,q2',q3,decide_true,decide_false,if_true]
    ·have q2' : ¬ (48:Int)≤(c.toNat:Int):=by omega
     simp only [q1,q2',decide_true,decide_false,if_true,Bool.false_eq_true,if_false]
   have hnone:pM (c :: t)=none:=by
    unfold pM
    simp only
    rw [if_neg c45]
    have:cM (c :: t) = []:=by
     unfold cM
     simp only
     rw [if_neg (by rintro rfl; exact absurd hnd (by decide)),List.takeWhile_cons_of_neg (by rw [hnd]; decide)]
     rfl
    rw [if_pos this]
   have drop_st : ∀ (w:By) (m:Nat) (v:JV),(c :: t).take (m+1)=w→w.length=m+1→(s.length - (c :: t).length:Nat)+((m+1:Nat):Int)=((s.length - (t.drop m).length:Nat):Int):=by
    intro w m v hw hwl
    have:=congrArg List.length hw
    rw [hwl] at this
    simp at this
    simp
    omega
   have words : ∀ (y:JV×RS),ae (fun F=>(if decide ((c.toNat:Int)=110)=true then some ((),(c.toNat:Int),c :: t,decide ((c :: t).take 4 = [110,117,108,108]),st s (c :: t) (8 - (d:Int)) 0,()) else some ((),(c.toNat:Int),c :: t,false,st s (c :: t) (8 - (d:Int)) 0,()):Option (Unit×Int×By×Bool×RS×Unit)).bind fun v9 =>
     if v9.2.2.2.1=true then some (JV.null,v9.2.2.2.2.1.1,IntKind.i64.wrap (v9.2.2.2.2.1.2.1+4),v9.2.2.2.2.1.2.2.1,v9.2.2.2.2.1.2.2.2.1,())
     else (if decide (v9.2.1=116)=true then some ((),v9.2.1,v9.2.2.1,decide ((v9.2.2.1).take 4 = [116,114,117,101]),(v9.2.2.2.2.1.1,v9.2.2.2.2.1.2.1,v9.2.2.2.2.1.2.2.1,v9.2.2.2.2.1.2.2.2.1,()),())
      else some ((),v9.2.1,v9.2.2.1,false,(v9.2.2.2.2.1.1,v9.2.2.2.2.1.2.1,v9.2.2.2.2.1.2.2.1,v9.2.2.2.2.1.2.2.2.1,()),()):Option (Unit×Int×By×Bool×RS×Unit)).bind fun v11 =>
      if v11.2.2.2.1=true then some (JV.bool true,v11.2.2.2.2.1.1,IntKind.i64.wrap (v11.2.2.2.2.1.2.1+4),v11.2.2.2.2.1.2.2.1,v11.2.2.2.2.1.2.2.2.1,())
      else (if decide (v11.2.1=102)=true then some ((),decide ((v11.2.2.1).take 5 = [102,97,108,115,101]),(v11.2.2.2.2.1.1,v11.2.2.2.2.1.2.1,v11.2.2.2.2.1.2.2.1,v11.2.2.2.2.1.2.2.2.1,()),())
       else some ((),false,(v11.2.2.2.2.1.1,v11.2.2.2.2.1.2.1,v11.2.2.2.2.1.2.2.1,v11.2.2.2.2.1.2.2.2.1,()),()):Option (Unit×Bool×RS×Unit)).bind fun v13 =>
       if v13.2.1=true then some (JV.bool false,v13.2.2.1.1,IntKind.i64.wrap (v13.2.2.1.2.1+5),v13.2.2.1.2.2.1,v13.2.2.1.2.2.2.1,())
       else some (JV.nil,v13.2.2.1.1,v13.2.2.1.2.1,v13.2.2.1.2.2.1,(if v13.2.2.1.2.2.2.1=0 then 3 else v13.2.2.1.2.2.2.1),())) y→ae (fun F=>dj F (R F) (st s r (8 - (d:Int)) 0)) y:=by
    intro y hy
    refine ahead2 y (ae.bind (.of fun F=>fl) (ae.neg Bool.false_ne_true ?_))
    refine hy.congr fun F => ?_
    simp only [ub,Option.bind_some,iE]
    rfl
   by_cases w1:(c :: t).take 4 = [110,117,108,108]
   ·have hc110:c=110:=by injection w1
    rw [if_pos w1]
    have hds:=drop_st _ 3 .null w1 rfl
    refine ⟨(.null,st s (t.drop 3) (8 - (d:Int)) 0),words _ (.of fun F => ?_),rfl⟩
    have e110:(c.toNat:Int)=110:=by rw [hc110]; rfl
    unfold st
    simp only [e110,w1,decide_true,if_true,Option.bind_some]
    have hds':((s.length - (c :: t).length:Nat):Int)+4=((s.length - (t.drop 3).length:Nat):Int):=hds
    rw [hds',wrap64 _ (by omega) (by omega)]
   rw [if_neg w1]
   have f1:(if decide ((c.toNat:Int)=110)=true then some ((),(c.toNat:Int),c :: t,decide ((c :: t).take 4 = [110,117,108,108]),st s (c :: t) (8 - (d:Int)) 0,()) else some ((),(c.toNat:Int),c :: t,false,st s (c :: t) (8 - (d:Int)) 0,()):Option (Unit×Int×By×Bool×RS×Unit))=some ((),(c.toNat:Int),c :: t,false,st s (c :: t) (8 - (d:Int)) 0,()):=by
    rw [decide_eq_false w1]; split <;> rfl
   by_cases w2:(c :: t).take 4 = [116,114,117,101]
   ·have hc116:c=116:=by injection w2
    rw [if_pos w2]
    have hds:=drop_st _ 3 .null w2 rfl
    refine ⟨(.bool true,st s (t.drop 3) (8 - (d:Int)) 0),words _ (ae.bind (.of fun F=>f1) (.of fun F => ?_)),rfl⟩
    have e116:(c.toNat:Int)=116:=by rw [hc116]; rfl
    unfold st
    simp only [e116,w2,decide_true,if_true,Option.bind_some,Bool.false_eq_true,if_false]
    have hds':((s.length - (c :: t).length:Nat):Int)+4=((s.length - (t.drop 3).length:Nat):Int):=hds
    rw [hds',wrap64 _ (by omega) (by omega)]
   rw [if_neg w2]
   by_cases w3:(c :: t).take 5 = [102,97,108,115,101]
   ·have hc102:c=102:=by injection w3
    rw [if_pos w3]
    have hds:=drop_st _ 4 .null w3 rfl
    refine ⟨(.bool false,st s (t.drop 4) (8 - (d:Int)) 0),words _ (ae.bind (.of fun F=>f1) (.of fun F => ?_)),rfl⟩
    have e102:(c.toNat:Int)=102:=by rw [hc102]; rfl
    have n116 : ¬ (102:Int)=116:=by decide
    unfold st
    simp only [e102,w3,n116,decide_true,decide_false,if_true,Option.bind_some,Bool.false_eq_true,if_false]
    have hds':((s.length - (c :: t).length:Nat):Int)+5=((s.length - (t.drop 4).length:Nat):Int):=hds
    rw [hds',wrap64 _ (by omega) (by omega)]
   rw [if_neg w3,hnone]
   refine ⟨(.nil,st s (c :: t) (8 - (d:Int)) 3),words _ (ae.bind (.of fun F=>f1) (.of fun F => ?_)),by decide,_,_,rfl,hskr,by omega,by omega⟩
   unfold st
   simp only [decide_eq_false w2,decide_eq_false w3,Option.bind_some,Bool.false_eq_true,if_false,ite_self,if_true]
theorem H9 (s:By) (hs:s.length≤1000) : ∀ (d:Nat),d≤8 → ∀ j,VT s d (fun F=>a7 F (F - j)):=by
 intro d
 induction d with
 | zero =>
  intro hd j r hr
  obtain ⟨y,h1,h2⟩:=vu s hs 0 hd (fun F=>a7 F (F - (j+1))) (fun d' h=>by omega) r hr
  refine ⟨y,h1.evt (j+1) fun F hF => ?_,h2⟩
  show a7 F (F - j) _ = _
  rw [show F - j=(F - (j+1))+1 by omega]
  rfl
 | succ d ih =>
  intro hd j r hr
  obtain ⟨y,h1,h2⟩:=vu s hs (d+1) hd (fun F=>a7 F (F - (j+1))) (fun d' h=>(Nat.succ.inj h) ▸ ih (by omega) (j+1)) r hr
  refine ⟨y,h1.evt (j+1) fun F hF => ?_,h2⟩
  show a7 F (F - j) _ = _
  rw [show F - j=(F - (j+1))+1 by omega]
  rfl
theorem Ix (s:By) (hs:s.length≤1000):ae (fun F=>gV F s) (match ry s with
  | .ok v=>(v,0)
  | .error e=>(.nil,(e:Int))):=by
 unfold gV ry
 by_cases h4:400<s.length
 ·rw [if_pos h4]
  exact ae.pos (by have:(400:Int)<(s.length:Int):=by omega
                   simpa using this) (.ret _)
 ·rw [if_neg h4]
  refine ae.neg (by have : ¬ (400:Int)<(s.length:Int):=by omega
                    simpa using this) ?_
  obtain ⟨⟨v,x⟩,h1,h2⟩:=H9 s hs 8 (Nat.le_refl _) 0 s (List.suffix_refl s)
  have e0:st s s (8 - ((8:Nat):Int)) 0=(s,0,0,0,()):=by unfold st; rw [Nat.sub_self]; rfl
  rw [e0] at h1
  have h1':ae (fun F=>ic F (s,0,0,0,())) (v,x):=h1
  refine ae.bind h1' ?_
  cases hv:fG 8 s with
  | error e =>
   rw [hv] at h2
   obtain ⟨he,r,k,hx,hr,hk⟩:Bad s e x:=h2
   subst hx
   have hp:=nr s r hr hs k e
   refine ae.bind hp ?_
   have he' : ¬ (e:Int)=0:=by omega
   refine ae.bind (r:=(((),v,st s (skp r) k e,()):Unit×JV×RS×Unit)) ?_ ?_
   ·refine .of fun F => ?_
    unfold st
    simp only [iE,Option.bind_some,if_neg he',ite_self]
   ·exact ae.pos (by simpa [st] using he) (.ret _)
  | ok w =>
   obtain ⟨v',r⟩:=w
   rw [hv] at h2
   have h2:(v,x)=(v',st s r (8 - ((8:Nat):Int)) 0):=h2
   injection h2 with h2 h2'
   subst h2; subst h2'
   obtain ⟨_,o2,_,_⟩:=qA 8 s v r hv
   have hp:=nr s r o2 hs (8 - ((8:Nat):Int)) 0
   refine ae.bind hp ?_
   have hsk:skp r <:+ s:=(av r).trans o2
   by_cases hq:skp r = []
   ·have hr:(match (match (Except.ok (v,r):Except Nat (JV×By)) with | .error e=>(Except.error e:Except Nat JV) | .ok (v,r)=>if skp r = [] then .ok v else .error 3) with | .ok v=>(v,(0:Int)) | .error e=>(JV.nil,(e:Int)))=(v,0):=by
     simp only
     rw [if_pos hq]
    refine ae.eq ?_ hr.symm
    rw [hq]
    refine ae.bind (r:=(((),v,st s [] (8 - ((8:Nat):Int)) 0,()):Unit×JV×RS×Unit)) ?_ ?_
    ·exact ae.neg (by simp [st]) (.ret _)
    ·exact ae.neg (by simp [st]) (.ret _)
   ·have hr:(match (match (Except.ok (v,r):Except Nat (JV×By)) with | .error e=>(Except.error e:Except Nat JV) | .ok (v,r)=>if skp r = [] then .ok v else .error 3) with | .ok v=>(v,(0:Int)) | .error e=>(JV.nil,(e:Int)))=(JV.nil,3):=by
     simp only
     rw [if_neg hq]
     rfl
    refine ae.eq ?_ hr.symm
    obtain ⟨c,q,hq⟩ : ∃ c q,skp r=c :: q:=by
     cases hh:skp r with
     | nil=>exact absurd hh hq
     | cons c q=>exact ⟨c,q,rfl⟩
    rw [hq] at hsk ⊢
    have hin:=ox hsk
    refine ae.bind (r:=(((),v,st s (c :: q) (8 - ((8:Nat):Int)) 3,()):Unit×JV×RS×Unit)) ?_ ?_
    ·refine ae.pos (by unfold st; simpa using hin) ?_
     refine .of fun F => ?_
     unfold st
     simp only [iE,Option.bind_some,if_true]
    ·exact ae.pos (by simp [st]) (.ret _)
end Go.Vm
