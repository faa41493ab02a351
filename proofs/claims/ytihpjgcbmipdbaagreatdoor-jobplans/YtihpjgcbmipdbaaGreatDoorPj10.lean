import Derived.Test.YtihpjgcbmipdbaaGreatDoorFphr
import Derived.Test.YtihpjgcbmipdbaaGreatDoorPj9
set_option linter.unusedVariables false
set_option linter.unusedSimpArgs false
namespace Go.Vm
open Go.Lib (decodeL)
theorem ae.evt {α:Type} {m m':Nat->Option α} {r:α} (N:Nat) (h:ae m r) (e:∀ F,N<=F->m' F=m F):ae m' r:=by
 obtain ⟨M,h⟩:=h;exact ⟨max N M,fun F hF=>(e F (by omega)).trans (h F (by omega))⟩
def HE (l:List Me) (name:By):Int:=match l.findIdx? (fun m=>m.1 == name) with
 | some i=>(i:Int)
 | none => -1
theorem DQ (l:List Me) (name:By) (hl:l.length<=1000000):∀ (n i:Nat),i+n=l.length->(∀ j (h:j<l.length),j<i->l[j].1≠name) ->
  ag aR (l,((name,()),()),(l.length:Int),(i:Int),()) (match l.findIdx? (fun m=>m.1 == name) with
   | some i => .inr ((i:Int),())
   | none => .inl ())
 | 0,i,h,hn=>by
  refine ag.fin (.of fun F => ?_);have:l.findIdx? (fun m=>m.1 == name)=none:=by
   rw[List.findIdx?_eq_none_iff];intro x hx;obtain ⟨j,hj,rfl⟩:=List.mem_iff_getElem.1 hx;simpa using hn j hj (by omega)
  rw[this];unfold aR;have h':¬ (i:Int)<(l.length:Int):=by omega
  simp only[h',decide_false,ade,if_false]
 | n+1,i,h,hn=>by
  have hi:i<l.length:=by omega
  have h':(i:Int)<(l.length:Int):=by omega
  have hx:idx l (i:Int)=some l[i]:=bU _ _ _ (by simp[hi]);by_cases hc:l[i].1=name
  ·have:l.findIdx? (fun m=>m.1 == name)=some i:=by
    rw[List.findIdx?_eq_some_iff_getElem];exact ⟨hi,by simpa using hc,fun j hj=>by simpa using hn j (by omega) hj⟩
   refine ag.fin (.of fun F => ?_);rw[this];unfold aR hE;simp only[h',decide_true,if_true,hx,ada,hc]
  ·refine ag.step (.of fun F => ?_) (DQ l name hl n (i+1) (by omega) (fun j h1 h2 => ?_))
   ·unfold aR hE
    simp only[h',decide_true,if_true,hx,ada,hc,decide_false,ade,if_false];rw[wrap64 _ (by omega) (by omega)];rfl
   ·by_cases hj:j=i
    ·subst hj; exact hc
    ·exact hn j h1 (by omega)
theorem Kh (l:List Me) (name:By) (hl:l.length<=1000000):ae (fun F=>cY F (l,name)) (HE l name):=by
 unfold cY cw HE;refine ae.bind (ae.bind (DQ l name hl l.length 0 (by omega) (fun j _ h=>absurd h (by omega))).run ?_) (.ret _);cases l.findIdx? (fun m=>m.1 == name) with
 | none=>exact .ret _
 | some i=>exact .ret _
theorem Ea (l:List Me) (name:By):decide (0<=HE l name)=l.any (fun m=>m.1 == name):=by
 unfold HE;cases h:l.findIdx? (fun m=>m.1 == name) with
 | none =>
  rw[List.findIdx?_eq_none_iff] at h;have:l.any (fun m=>m.1 == name)=false:=by rw[List.any_eq_false]; intro x hx; rw[h x hx]; decide
  rw[this]
  decide
 | some i =>
  rw[List.findIdx?_eq_some_iff_getElem] at h;obtain ⟨hi,h1,_⟩:=h;have:l.any (fun m=>m.1 == name)=true:=List.any_eq_true.2 ⟨_,List.getElem_mem hi,h1⟩;rw[this];simp
def Bad (s:By) (e:Nat) (x:RS):Prop:=e≠0 /\ ∃ r k,x=st s r k (e:Int)/\r <:+ s /\ -1000<=k/\k<=1000
def RV (s:By) (k:Int) (x:Except Nat (JV×By)) (y:JV×RS):Prop:=match x with
 | .ok (v,q)=>y=(v,st s q k 0)
 | .error e=>Bad s e y.2
def VT (s:By) (d:Nat) (R:Nat->RS->Option (JV×RS)):Prop:=∀ r,r <:+ s -> ∃ y,ae (fun F=>R F (st s r (8-(d:Int)) 0)) y/\RV s (8-(d:Int)) (jF d r) y
theorem D7 (s:By) (e:Nat) (x:RS) (hx:Bad s e x) (hs:s.length<=1000) (z:UInt8) (hz:z≠0) (hzc:z≠44):∃ x',ae (fun F=>bu F (x,(z.toNat:Int))) (false,x')/\Bad s e x':=by
 obtain ⟨he,r,k,rfl,hr,hk⟩:=hx;have I7:¬ (e:Int)=0:=by omega
 have h:=EU s r hr hs k e z hz hk hzc;rw[if_neg (fun hh=>I7 hh.1),if_neg (fun hh=>I7 hh.1),if_neg I7] at h;exact ⟨_,h,he,skp r,k,rfl,(aw r).trans hr,hk⟩
def RL (s:By) (k:Int) (acc:List JV) (x:Except Nat (List JV×By)) (y:Unit×Unit×List JV×RS×Unit):Prop:=match x with
 | .ok (l,q)=>y=((),(),acc++l,st s q (k-1) 0,())
 | .error e=>Bad s e y.2.2.2.1
theorem Et (s:By) (hs:s.length<=1000) (d:Nat) (hd:d<=8) (R:Nat->RS->Option (JV×RS)) (hR:VT s d R):∀ (n:Nat) (r:By) (acc:List JV),r <:+ s->r.length+1<=n->acc.length+r.length<=1000 ->
  ∃ y,ag (fun F=>bW F (R F)) ((),(),acc,st s r (8-(d:Int)) 0,()) y/\RL s (8-(d:Int)) acc (ve (jF d) n r) y
 | 0,r,acc,hr,hn,ha=>by omega
 | n+1,r,acc,hr,hn,ha=>by
  obtain ⟨⟨v,x⟩,h1,h2⟩:=hR r hr;have hlen:decide ((acc.length+1)*16<=140737488355328)=true:=by rw[ac9]; omega
  unfold ve;cases hv:jF d r with
  | error e =>
   rw[hv] at h2;have hb:Bad s e x:=h2;obtain ⟨x',h3,h4⟩:=D7 s e x hb hs 93 (by decide) (by decide);refine ⟨((),(),acc++[v],x',()),ag.fin ?_,h4⟩;unfold bW st;refine ae.pos (by rfl) ?_;refine ae.bind h1 ?_;refine ae.pos (by simpa using hlen) ?_;refine ae.bind h3 ?_;exact .ret _
  | ok w =>
   obtain ⟨v',r1⟩:=w;rw[hv] at h2;have h2:(v,x)=(v',st s r1 (8-(d:Int)) 0):=h2
   injection h2 with h2 GZ
   subst h2; subst GZ;obtain ⟨_,o2,o3,_⟩:=vX d r v r1 hv;have Dw:=o2.trans hr;have hc:=EU s r1 Dw hs (8-(d:Int)) 0 93 (by decide) (by omega) (by decide);have qJ:=fD r1;have step:∀ (b:Bool) (x':RS) (y:Unit×Unit×List JV×RS×Unit),ae (fun F=>bu F (st s r1 (8-(d:Int)) 0,93)) (b,x')->(if b=true then ag (fun F=>bW F (R F)) ((),(),acc++[v],x',()) y else y=((),(),acc++[v],x',())) ->
     ag (fun F=>bW F (R F)) ((),(),acc,st s r (8-(d:Int)) 0,()) y:=by
    intro b x' y dh hy;have cO:ae (fun F=>bW F (R F) ((),(),acc,st s r (8-(d:Int)) 0,())) (if (!b)=true then .inr ((),(),acc++[v],x',()) else .inl ((),(),acc++[v],x',())):=by
     unfold bW st;refine ae.pos (by rfl) ?_;refine ae.bind h1 ?_;refine ae.pos (by simpa using hlen) ?_;refine ae.bind dh ?_;cases b <;> exact .ret _
    cases b with
    | false =>
     have hy:y = _:=hy;subst hy;exact ag.fin cO
    | true=>exact ag.step cO hy
   simp only;split
   ·rename_i r' yY
    rw[yY] at hc qJ;simp only[adb] at qJ;have si:r' <:+ s:=((List.suffix_cons 44 r').trans (yY ▸ aw r1)).trans Dw;obtain ⟨y,i1,i2⟩:=Et s hs d hd R hR n r' (acc++[v]) si (by omega) (by rw[adf,List.length_singleton]; omega);refine ⟨y,step true _ y hc i1,?_⟩;cases hl:ve (jF d) n r' with
    | error e=>rw[hl] at i2; exact i2
    | ok w =>
     obtain ⟨l,q⟩:=w;rw[hl] at i2;have i2:y = _:=i2;rw[i2];show ((),(),acc++[v]++l,_,())=((),(),acc++v::l,_,());rw[List.append_assoc,List.singleton_append]
   ·rename_i r' WS
    rw[WS] at hc;exact ⟨_,step false _ _ hc rfl,rfl⟩
   ·rename_i WT WU
    have n44:¬ ((0:Int)=0/\(skp r1).head? = some 44):=by
     rintro ⟨_,hh⟩
     cases hx:skp r1 with
     | nil=>rw[hx] at hh; cases hh
     | cons c q=>rw[hx] at hh; injection hh with hh; subst hh; exact WT _ hx
    have n93:¬ ((0:Int)=0/\(skp r1).head? = some 93):=by
     rintro ⟨_,hh⟩
     cases hx:skp r1 with
     | nil=>rw[hx] at hh; cases hh
     | cons c q=>rw[hx] at hh; injection hh with hh; subst hh; exact WU _ hx
    rw[if_neg n44,if_neg n93] at hc;refine ⟨_,step false _ _ hc rfl,?_⟩;exact ⟨by decide,skp r1,_,rfl,(aw r1).trans Dw,by omega,by omega⟩
theorem Vu (s:By) (hs:s.length<=1000) (d:Nat) (hd:d<=8) (R:Nat->RS->Option (JV×RS)) (hR:∀ d',d=d'+1->VT s d' R) (q:By) (hq:91::q <:+ s) :
  ∃ y,ae (fun F=>eh F (R F) (st s (91::q) (8-(d:Int)) 0)) y/\RV s (8-(d:Int)) (match (match d with | 0=>none | d+1=>some (jF d):Option (By->Except Nat (JV×By))) with
   | none => .error 10
   | some V=>match skp q with
    | 93::r => .ok (.list [],r)
    | r=>match ve V (r.length+1) r with
     | .error e => .error e
     | .ok (l,r) => .ok (.list l,r)) y:=by
 have Je:=cQ hq;have wE:=Ln s q 91 hq hs (8-(d:Int)) (by omega);unfold eh;cases d with
 | zero =>
  rw[if_pos (by decide)] at wE;have Lb:=xC s q Je hs (8-((0:Nat):Int)+1) 10 93 (by decide) (by decide);rw[if_neg (fun hh=>absurd hh.1 (by decide))] at Lb;refine ⟨(.list [],st s (skp q) (8-((0:Nat):Int)+1) 10),?_,by decide,skp q,_,rfl,(aw q).trans Je,by decide,by decide⟩;refine ae.bind wE ?_;refine ae.bind Lb ?_;refine ae.neg adj ?_;refine ae.bind (ag.run (f:=fun F=>bW F (R F)) (ag.fin (y:=((),(),[],st s (skp q) (8-((0:Nat):Int)+1) 10,())) (.of fun F=>rfl))) (.ret _)
 | succ d =>
  rw[if_neg (by omega)] at wE;have e8:(8:Int)-((d+1:Nat):Int)+1=8-(d:Int):=by omega
  rw[e8] at wE;have Lb:=xC s q Je hs (8-(d:Int)) 0 93 (by decide) (by omega);have e9:(8:Int)-(d:Int)-1=8-((d+1:Nat):Int):=by omega
  simp only;split
  ·rename_i r hr
   rw[hr,if_pos ⟨rfl,rfl⟩,e9] at Lb;refine ⟨(.list [],st s r (8-((d+1:Nat):Int)) 0),?_,rfl⟩;refine ae.bind wE ?_;refine ae.bind Lb ?_;exact ae.pos rfl (.ret _)
  ·rename_i hr
   have n93:¬ ((0:Int)=0/\(skp q).head? = some 93):=by
    rintro ⟨_,hh⟩
    cases hx:skp q with
    | nil=>rw[hx] at hh; cases hh
    | cons c q'=>rw[hx] at hh; injection hh with hh; subst hh; exact hr _ hx
   rw[if_neg n93] at Lb;have qJ:skp q <:+ s:=(aw q).trans Je;obtain ⟨y,h1,h2⟩:=Et s hs d (by omega) R (hR d rfl) ((skp q).length+1) (skp q) [] qJ (Nat.le_refl _) (by have:=fw qJ; simp; omega);refine ⟨(.list y.2.2.1,y.2.2.2.1),?_,?_⟩
   ·refine ae.bind wE ?_
    refine ae.bind Lb ?_;refine ae.neg adj ?_;refine ae.bind h1.run ?_;exact .ret _
   ·cases hl:ve (jF d) ((skp q).length+1) (skp q) with
    | error e=>rw[hl] at h2; exact h2
    | ok w =>
     obtain ⟨l,r⟩:=w;rw[hl] at h2;have h2:y = _:=h2;rw[h2,e9];rfl
theorem V7:¬ (!decide ((34:Int)=34))=true:=by decide
theorem Xr:(!decide ((0:Int)=58))=true:=by decide
def RO (s:By) (k:Int) (x:Except Nat (List Me×By)) (y:Unit×Unit×List Me×RS×Unit):Prop:=Uni y.2.2.1/\y.2.2.1.length<=2000/\match x with
 | .ok (l,q)=>y=((),(),l,st s q (k-1) 0,())
 | .error e=>Bad s e y.2.2.2.1
theorem Uk {r:By} {z:UInt8} (h:∀ q,r=z::q->False) (hz:z≠0):¬ hd r=(z.toNat:Int):=by
 have RX:¬ z.toNat=0:=fun hh=>hz (UInt8.toNat_inj.1 hh)
 intro hh;cases r with
 | nil =>
  have h2:(0:Int)=(z.toNat:Int):=hh;omega
 | cons c q =>
  have h2:(c.toNat:Int)=(z.toNat:Int):=hh;have:c=z:=UInt8.toNat_inj.1 (by omega);subst this;exact h q rfl
theorem zj (s:By) (hs:s.length<=1000) (d:Nat) (OI:d<=8) (R:Nat->RS->Option (JV×RS)) (hR:VT s d R):∀ (n:Nat) (r:By) (acc:List Me),r <:+ s->r.length+1<=n->acc.length+r.length<=1000->Uni acc ->
  ∃ y,ag (fun F=>aU F (R F)) ((),(),acc,st s r (8-(d:Int)) 0,()) y/\RO s (8-(d:Int)) (wm (jF d) n acc r) y
 | 0,r,acc,hr,hn,ha,hu=>by omega
 | n+1,r,acc,hr,hn,ha,hu=>by
  have OH:=rR s r hr hs (8-(d:Int)) 0;rw[if_pos rfl] at OH;have jB:skp r <:+ s:=(aw r).trans hr;unfold wm;split
  ·rename_i r0 h0
   rw[h0] at OH jB;have Wi:=cQ jB;have Zk:r0.length+1<=r.length:=by have:=fD r; rw[h0] at this; exact this
   have OJ:=Qw s r0 jB hs (8-(d:Int)) 0;have e34:hd ((34:UInt8)::r0)=34:=rfl;rw[e34] at OH;split
   ·rename_i ht
    rw[ht] at OJ;simp only[if_true] at OJ
    -- the name is none
    have OK:=rR s (34::r0) jB hs (8-(d:Int)) 3;rw[if_neg (by decide)] at OK;refine ⟨((),(),acc,st s (skp (34::r0)) (8-(d:Int)) 3,()),ag.fin ?_,hu,by show acc.length<=2000; omega,by decide,_,_,rfl,(aw _).trans jB,by omega,by omega⟩;unfold aU;refine ae.pos rfl ?_;refine ae.bind OH ?_;refine ae.neg V7 ?_;refine ae.bind OJ ?_;refine ae.bind (.ret (((),(),[],false,acc,st s (34::r0) (8-(d:Int)) 3,()):Unit×Unit×By×Bool×List Me×RS×Unit)) ?_;refine ae.bind (.ret (((),(),[],acc,st s (34::r0) (8-(d:Int)) 3,()):Unit×Unit×By×List Me×RS×Unit)) ?_;refine ae.bind OK ?_;refine ae.pos Xr ?_;refine .of fun F => ?_
    unfold st;simp only[kr,ada];rfl
   ·rename_i name r1 ht
    rw[ht] at OJ;obtain ⟨t1,t2,t3⟩:=yu r0 ht;have Dw:=t2.trans Wi;have UY:=Kh acc name (by omega);split
    ·rename_i GY
     have OK:=rR s r1 Dw hs (8-(d:Int)) 7;rw[if_neg (by decide)] at OK;refine ⟨((),(),acc,st s (skp r1) (8-(d:Int)) 7,()),ag.fin ?_,hu,by show acc.length<=2000; omega,by decide,_,_,rfl,(aw _).trans Dw,by omega,by omega⟩;unfold aU;refine ae.pos rfl ?_;refine ae.bind OH ?_;refine ae.neg V7 ?_;refine ae.bind OJ ?_;refine ae.bind (r:=(((),(),name,true,acc,st s r1 (8-(d:Int)) 0,()):Unit×Unit×By×Bool×List Me×RS×Unit)) ?_ ?_
     ·refine ae.pos rfl ?_
      refine ae.bind UY ?_;rw[Ea,GY];exact .ret _
     refine ae.bind (r:=(((),(),name,acc,st s r1 (8-(d:Int)) 7,()):Unit×Unit×By×List Me×RS×Unit)) ?_ ?_
     ·refine ae.pos rfl ?_
      refine .of fun F => ?_
      unfold st;simp only[kr,ada,if_true]
     refine ae.bind OK ?_;refine ae.pos Xr ?_;refine .of fun F => ?_
     unfold st;simp only[kr,ada];rfl
    ·rename_i GY
     have GY:acc.any (fun m=>m.1 == name)=false:=(Bool.not_eq_true _).mp GY;have OK:=rR s r1 Dw hs (8-(d:Int)) 0;rw[if_pos rfl] at OK;have Ua:skp r1 <:+ s:=(aw r1).trans Dw
     -- ahead of the colon
     have ahead:∀ (y:(Unit×Unit×List Me×RS×Unit) ⊕ (Unit×Unit×List Me×RS×Unit)),ae (fun F=>if (!decide (hd (skp r1)=58))=true then
        (aK F (st s (skp r1) (8-(d:Int)) 0,3)).bind fun v11=>some (.inr ((),(),acc,(v11.2.1,v11.2.2.1,v11.2.2.2.1,v11.2.2.2.2.1,()),()))
       else (R F (s,IntKind.i64.wrap (((s.length-(skp r1).length:Nat):Int)+1),8-(d:Int),0,())).bind fun v12 =>
        if decide ((acc.length + [(name,v12.1,PUnit.unit)].length)*32<=140737488355328)=true then
         (bu F ((v12.2.1,v12.2.2.1,v12.2.2.2.1,v12.2.2.2.2.1,()),125)).bind fun v13 =>
          if (!v13.1)=true then some (.inr ((),(),acc++[(name,v12.1,PUnit.unit)],(v13.2.1,v13.2.2.1,v13.2.2.2.1,v13.2.2.2.2.1,()),()))
          else some (.inl ((),(),acc++[(name,v12.1,PUnit.unit)],(v13.2.1,v13.2.2.1,v13.2.2.2.1,v13.2.2.2.2.1,()),()))
        else none) y->ae (fun F=>aU F (R F) ((),(),acc,st s r (8-(d:Int)) 0,())) y:=by
      intro y hy;unfold aU;refine ae.pos rfl ?_;refine ae.bind OH ?_;refine ae.neg V7 ?_;refine ae.bind OJ ?_;refine ae.bind (r:=(((),(),name,false,acc,st s r1 (8-(d:Int)) 0,()):Unit×Unit×By×Bool×List Me×RS×Unit)) ?_ ?_
      ·refine ae.pos rfl ?_
       refine ae.bind UY ?_;rw[Ea,GY];exact .ret _
      refine ae.bind (r:=(((),(),name,acc,st s r1 (8-(d:Int)) 0,()):Unit×Unit×By×List Me×RS×Unit)) (ae.neg adj (.ret _)) ?_;refine ae.bind OK ?_;exact hy
     split
     ·rename_i r2 h2
      rw[h2] at ahead Ua;have Y4:=cQ Ua;have hl1:r2.length+1<=r1.length:=by have:=fD r1; rw[h2] at this; exact this
      have e58:hd ((58:UInt8)::r2)=58:=rfl;rw[e58,el Ua hs] at ahead;obtain ⟨⟨v,x⟩,g1,g2⟩:=hR r2 Y4;have hlen:decide ((acc.length+1)*32<=140737488355328)=true:=by rw[ac9]; omega
      have wG:Uni (acc++[(name,v,())]):=by
       refine List.pairwise_append.2 ⟨hu,List.pairwise_singleton _ _,fun a ha b hb => ?_⟩;rw[List.mem_singleton] at hb;subst hb;rw[List.any_eq_false] at GY;intro e;exact GY a ha (by simpa using e)
      have step:∀ (b:Bool) (x':RS) (y:Unit×Unit×List Me×RS×Unit),ae (fun F=>bu F (x,125)) (b,x')->(if b=true then ag (fun F=>aU F (R F)) ((),(),acc++[(name,v,())],x',()) y else y=((),(),acc++[(name,v,())],x',())) ->
        ag (fun F=>aU F (R F)) ((),(),acc,st s r (8-(d:Int)) 0,()) y:=by
       intro b x' y dh hy;have cO:ae (fun F=>aU F (R F) ((),(),acc,st s r (8-(d:Int)) 0,())) (if (!b)=true then .inr ((),(),acc++[(name,v,())],x',()) else .inl ((),(),acc++[(name,v,())],x',())):=by
        refine ahead _ ?_;refine ae.neg (by decide) ?_;refine ae.bind g1 ?_;refine ae.pos (by simpa using hlen) ?_;refine ae.bind dh ?_;cases b <;> exact .ret _
       cases b with
       | false =>
        have hy:y = _:=hy;subst hy;exact ag.fin cO
       | true=>exact ag.step cO hy
      cases hv:jF d r2 with
      | error e =>
       rw[hv] at g2;have hb:Bad s e x:=g2;obtain ⟨x',h3,h4⟩:=D7 s e x hb hs 125 (by decide) (by decide);exact ⟨_,step false x' _ h3 rfl,wG,by show (acc++[(name,v,())]).length<=2000; rw[adf,List.length_singleton]; omega,h4⟩
      | ok w =>
       obtain ⟨v',r3⟩:=w;rw[hv] at g2;have g2:(v,x)=(v',st s r3 (8-(d:Int)) 0):=g2
       injection g2 with g2 g2'
       subst g2; subst g2';obtain ⟨_,o2,o3,_⟩:=vX d r2 v r3 hv;have hr3:=o2.trans Y4;have hc:=EU s r3 hr3 hs (8-(d:Int)) 0 125 (by decide) (by omega) (by decide);have qJ:=fD r3;simp only;split
       ·rename_i r' yY
        rw[yY] at hc qJ;simp only[adb] at qJ;have si:r' <:+ s:=((List.suffix_cons 44 r').trans (yY ▸ aw r3)).trans hr3;obtain ⟨y,i1,i2⟩:=zj s hs d OI R hR n r' (acc++[(name,v,())]) si (by omega) (by rw[adf,List.length_singleton]; omega) wG;exact ⟨y,step true _ y hc i1,i2⟩
       ·rename_i r' RH
        rw[RH] at hc;exact ⟨_,step false _ _ hc rfl,wG,by show (acc++[(name,v,())]).length<=2000; rw[adf,List.length_singleton]; omega,rfl⟩
       ·rename_i WT Lc
        have n44:¬ ((0:Int)=0/\(skp r3).head? = some 44):=by
         rintro ⟨_,hh⟩
         cases hx:skp r3 with
         | nil=>rw[hx] at hh; cases hh
         | cons c q=>rw[hx] at hh; injection hh with hh; subst hh; exact WT _ hx
        have n125:¬ ((0:Int)=0/\(skp r3).head? = some 125):=by
         rintro ⟨_,hh⟩
         cases hx:skp r3 with
         | nil=>rw[hx] at hh; cases hh
         | cons c q=>rw[hx] at hh; injection hh with hh; subst hh; exact Lc _ hx
        rw[if_neg n44,if_neg n125] at hc;exact ⟨_,step false _ _ hc rfl,wG,by show (acc++[(name,v,())]).length<=2000; rw[adf,List.length_singleton]; omega,by decide,skp r3,_,rfl,(aw r3).trans hr3,by omega,by omega⟩
     ·rename_i aap
      have Xg:¬ hd (skp r1)=58:=Uk (z:=58) (fun q hh=>aap q hh) (by decide);refine ⟨((),(),acc,st s (skp r1) (8-(d:Int)) 3,()),ag.fin (ahead _ ?_),hu,by show acc.length<=2000; omega,by decide,_,_,rfl,Ua,by omega,by omega⟩;refine ae.pos (by simpa using Xg) ?_;refine .of fun F => ?_
      unfold st;simp only[kr,ada];rfl
  ·rename_i aaq
   have WV:¬ hd (skp r)=34:=Uk (z:=34) (fun q hh=>aaq q hh) (by decide);refine ⟨((),(),acc,st s (skp r) (8-(d:Int)) 3,()),ag.fin ?_,hu,by show acc.length<=2000; omega,by decide,_,_,rfl,jB,by omega,by omega⟩;unfold aU;refine ae.pos rfl ?_;refine ae.bind OH ?_;refine ae.pos (by simpa using WV) ?_;refine .of fun F => ?_
   unfold st;simp only[kr,ada];rfl
theorem O6 (F:Nat) (l:List Me) (hu:Uni l) (hl:l.length<=2000):aY F ((l,()),())=some ((),bt l,()):=by
 unfold aY Cm;have h1:(l.map fun m:Me=>m.1).Nodup:=List.pairwise_map.2 hu;show (if decide ((l.map fun m:Me=>m.1).Nodup)=true then if decide (l.length<=1000000000000)=true then some ((),bt l,()) else none else none) = _;rw[if_pos (adg h1),if_pos (adg (show l.length<=1000000000000 by omega))]
theorem Qb (s:By) (hs:s.length<=1000) (d:Nat) (OI:d<=8) (R:Nat->RS->Option (JV×RS)) (hR:∀ d',d=d'+1->VT s d' R) (q:By) (hq:123::q <:+ s) :
  ∃ y,ae (fun F=>cX F (R F) (st s (123::q) (8-(d:Int)) 0)) y/\RV s (8-(d:Int)) (match (match d with | 0=>none | d+1=>some (jF d):Option (By->Except Nat (JV×By))) with
   | none => .error 10
   | some V=>match skp q with
    | 125::r => .ok (.obj [],r)
    | r=>match wm V (r.length+1) [] r with
     | .error e => .error e
     | .ok (l,r) => .ok (.obj (bt l),r)) y:=by
 have Je:=cQ hq;have wE:=Ln s q 123 hq hs (8-(d:Int)) (by omega);unfold cX;cases d with
 | zero =>
  rw[if_pos (by decide)] at wE;have Lb:=xC s q Je hs (8-((0:Nat):Int)+1) 10 125 (by decide) (by decide);rw[if_neg (fun hh=>absurd hh.1 (by decide))] at Lb;refine ⟨(.obj [],st s (skp q) (8-((0:Nat):Int)+1) 10),?_,by decide,skp q,_,rfl,(aw q).trans Je,by decide,by decide⟩;refine ae.bind wE ?_;refine ae.bind Lb ?_;refine ae.neg adj ?_;refine ae.bind (ag.run (f:=fun F=>aU F (R F)) (ag.fin (y:=((),(),[],st s (skp q) (8-((0:Nat):Int)+1) 10,())) (.of fun F=>rfl))) ?_;refine ae.bind (.of fun F=>O6 F [] .nil (by decide)) (.ret _)
 | succ d =>
  rw[if_neg (by omega)] at wE;have e8:(8:Int)-((d+1:Nat):Int)+1=8-(d:Int):=by omega
  rw[e8] at wE;have Lb:=xC s q Je hs (8-(d:Int)) 0 125 (by decide) (by omega);have e9:(8:Int)-(d:Int)-1=8-((d+1:Nat):Int):=by omega
  simp only;split
  ·rename_i r hr
   rw[hr,if_pos ⟨rfl,rfl⟩,e9] at Lb;refine ⟨(.obj [],st s r (8-((d+1:Nat):Int)) 0),?_,rfl⟩;refine ae.bind wE ?_;refine ae.bind Lb ?_;exact ae.pos rfl (.ret _)
  ·rename_i hr
   have n125:¬ ((0:Int)=0/\(skp q).head? = some 125):=by
    rintro ⟨_,hh⟩
    cases hx:skp q with
    | nil=>rw[hx] at hh; cases hh
    | cons c q'=>rw[hx] at hh; injection hh with hh; subst hh; exact hr _ hx
   rw[if_neg n125] at Lb;have qJ:skp q <:+ s:=(aw q).trans Je;obtain ⟨y,h1,hu,hyl,h2⟩:=zj s hs d (by omega) R (hR d rfl) ((skp q).length+1) (skp q) [] qJ (Nat.le_refl _) (by have:=fw qJ; simp; omega) .nil;refine ⟨(.obj (bt y.2.2.1),y.2.2.2.1),?_,?_⟩
   ·refine ae.bind wE ?_
    refine ae.bind Lb ?_;refine ae.neg adj ?_;refine ae.bind h1.run ?_;refine ae.bind (.of fun F=>O6 F _ hu hyl) (.ret _)
   ·cases hl:wm (jF d) ((skp q).length+1) [] (skp q) with
    | error e=>rw[hl] at h2; exact h2
    | ok w =>
     obtain ⟨l,r⟩:=w;rw[hl] at h2;have h2:y = _:=h2;rw[h2,e9];rfl
theorem Cp (s:By) (hs:s.length<=1000) (d:Nat) (OI:d<=8) (R:Nat->RS->Option (JV×RS)) (hR:∀ d',d=d'+1->VT s d' R):VT s d (fun F=>eu F (R F)):=by
 intro r hr;have hv:jF d r=H6 (match d with | 0=>none | d+1=>some (jF d)) r:=by cases d <;> rfl
 rw[hv];have OH:=rR s r hr hs (8-(d:Int)) 0;rw[if_pos rfl] at OH;have jB:skp r <:+ s:=(aw r).trans hr;have jf:=Au jB;unfold H6
 -- behind the peek
 have ahead:∀ (y:JV×RS),ae (fun F=>(if decide (hd (skp r)=123)=true then (cX F (R F) (st s (skp r) (8-(d:Int)) 0)).bind fun v3=>some v3
   else if decide (hd (skp r)=91)=true then (eh F (R F) (st s (skp r) (8-(d:Int)) 0)).bind fun v4=>some v4
   else if decide (hd (skp r)=34)=true then (de F (st s (skp r) (8-(d:Int)) 0)).bind fun v5=>some (JV.str v5.1,v5.2.1,v5.2.2.1,v5.2.2.2.1,v5.2.2.2.2.1,())
   else (if decide (hd (skp r)=45)=false then if decide (48<=hd (skp r))=true then some ((),hd (skp r),skp r,decide (hd (skp r)<=57),st s (skp r) (8-(d:Int)) 0,()) else some ((),hd (skp r),skp r,false,st s (skp r) (8-(d:Int)) 0,())
    else some ((),hd (skp r),skp r,true,st s (skp r) (8-(d:Int)) 0,()):Option (Unit×Int×By×Bool×RS×Unit)).bind fun v6 =>
    if v6.2.2.2.1=true then (ey F (v6.2.2.2.2.1.1,v6.2.2.2.2.1.2.1,v6.2.2.2.2.1.2.2.1,v6.2.2.2.2.1.2.2.2.1,())).bind fun v7=>some v7
    else (if decide (v6.2.1=110)=true then (aX F (v6.2.2.1,[110,117,108,108])).bind fun v8=>some ((),v6.2.1,v6.2.2.1,v8,(v6.2.2.2.2.1.1,v6.2.2.2.2.1.2.1,v6.2.2.2.2.1.2.2.1,v6.2.2.2.2.1.2.2.2.1,()),())
     else some ((),v6.2.1,v6.2.2.1,false,(v6.2.2.2.2.1.1,v6.2.2.2.2.1.2.1,v6.2.2.2.2.1.2.2.1,v6.2.2.2.2.1.2.2.2.1,()),()):Option (Unit×Int×By×Bool×RS×Unit)).bind fun v9 =>
     if v9.2.2.2.1=true then some (JV.null,v9.2.2.2.2.1.1,IntKind.i64.wrap (v9.2.2.2.2.1.2.1+4),v9.2.2.2.2.1.2.2.1,v9.2.2.2.2.1.2.2.2.1,())
     else (if decide (v9.2.1=116)=true then (aX F (v9.2.2.1,[116,114,117,101])).bind fun v10=>some ((),v9.2.1,v9.2.2.1,v10,(v9.2.2.2.2.1.1,v9.2.2.2.2.1.2.1,v9.2.2.2.2.1.2.2.1,v9.2.2.2.2.1.2.2.2.1,()),())
      else some ((),v9.2.1,v9.2.2.1,false,(v9.2.2.2.2.1.1,v9.2.2.2.2.1.2.1,v9.2.2.2.2.1.2.2.1,v9.2.2.2.2.1.2.2.2.1,()),()):Option (Unit×Int×By×Bool×RS×Unit)).bind fun v11 =>
      if v11.2.2.2.1=true then some (JV.bool true,v11.2.2.2.2.1.1,IntKind.i64.wrap (v11.2.2.2.2.1.2.1+4),v11.2.2.2.2.1.2.2.1,v11.2.2.2.2.1.2.2.2.1,())
      else (if decide (v11.2.1=102)=true then (aX F (v11.2.2.1,[102,97,108,115,101])).bind fun v12=>some ((),v12,(v11.2.2.2.2.1.1,v11.2.2.2.2.1.2.1,v11.2.2.2.2.1.2.2.1,v11.2.2.2.2.1.2.2.2.1,()),())
       else some ((),false,(v11.2.2.2.2.1.1,v11.2.2.2.2.1.2.1,v11.2.2.2.2.1.2.2.1,v11.2.2.2.2.1.2.2.2.1,()),()):Option (Unit×Bool×RS×Unit)).bind fun v13 =>
       if v13.2.1=true then some (JV.bool false,v13.2.2.1.1,IntKind.i64.wrap (v13.2.2.1.2.1+5),v13.2.2.1.2.2.1,v13.2.2.1.2.2.2.1,())
       else (aK F ((v13.2.2.1.1,v13.2.2.1.2.1,v13.2.2.1.2.2.1,v13.2.2.1.2.2.2.1,()),3)).bind fun v14=>some (JV.nil,v14.2.1,v14.2.2.1,v14.2.2.2.1,v14.2.2.2.2.1,()))) y ->
   ae (fun F=>eu F (R F) (st s r (8-(d:Int)) 0)) y:=by
  intro y hy;unfold eu;refine ae.bind OH ?_;refine ae.bind (r:=(((),hd (skp r),skp r,st s (skp r) (8-(d:Int)) 0,()):Unit×Int×By×RS×Unit)) ?_ ?_
  ·refine ae.bind (.of fun F=>jf) (.ret _)
  ·exact hy
 have Om:hd (skp r)=hd (skp r):=rfl;cases hc:skp r with
 | nil =>
  rw[hc] at ahead jB;have h0:hd ([]:By)=0:=rfl;rw[h0] at ahead;simp only;refine ⟨(.nil,st s [] (8-(d:Int)) 3),ahead _ ?_,by decide,_,_,rfl,jB,by omega,by omega⟩;exact .of fun F=>rfl
 | cons c t =>
  rw[hc] at ahead jB;have Xd:hd (c::t)=(c.toNat:Int):=rfl;rw[Xd] at ahead;have nv:∀ k:UInt8,¬ c=k -> ¬ (c.toNat:Int)=(k.toNat:Int):=by
   intro k hk hh;exact hk (UInt8.toNat_inj.1 (by omega))
  have UO:=cQ jB;have hl:=fw jB;simp only[adb] at hl;simp only;by_cases c1:c=123
  ·subst c1
   rw[if_pos rfl];obtain ⟨y,h1,h2⟩:=Qb s hs d OI R hR t jB;exact ⟨y,ahead y (ae.pos (by decide) (ae.bind h1 (.ret _))),h2⟩
  have d1:¬ (c.toNat:Int)=123:=nv 123 c1;rw[if_neg c1];by_cases c2:c=91
  ·subst c2
   rw[if_pos rfl];obtain ⟨y,h1,h2⟩:=Vu s hs d OI R hR t jB;exact ⟨y,ahead y (ae.neg (by decide) (ae.pos (by decide) (ae.bind h1 (.ret _)))),h2⟩
  have d2:¬ (c.toNat:Int)=91:=nv 91 c2;rw[if_neg c2];by_cases c3:c=34
  ·subst c3
   rw[if_pos rfl];have OJ:=Qw s t jB hs (8-(d:Int)) 0;split
   ·rename_i ht
    rw[ht] at OJ;simp only[if_true] at OJ;exact ⟨_,ahead _ (ae.neg (by decide) (ae.neg (by decide) (ae.pos (by decide) (ae.bind OJ (.ret _))))),by decide,34::t,8-(d:Int),rfl,jB,by omega,by omega⟩
   ·rename_i tt q ht
    rw[ht] at OJ;exact ⟨_,ahead _ (ae.neg (by decide) (ae.neg (by decide) (ae.pos (by decide) (ae.bind OJ (.ret _))))),rfl⟩
  have d3:¬ (c.toNat:Int)=34:=nv 34 c3;rw[if_neg c3];have ahead2:∀ y:JV×RS,_ -> _:=fun y hy=>ahead y (ae.neg (by simpa using d1) (ae.neg (by simpa using d2) (ae.neg (by simpa using d3) hy)))
  by_cases c4:c=45\/bN c=true
  ·-- a number
   have Ub:=OU s t c jB hs (8-(d:Int)) c4;obtain ⟨_,_,_,_,n110,n116,n102⟩:=Hg c4;rw[if_neg (by simp[n110]),if_neg (by simp[n116]),if_neg (by simp[n102])];have fl:(if decide ((c.toNat:Int)=45)=false then if decide (48<=(c.toNat:Int))=true then some ((),(c.toNat:Int),c::t,decide ((c.toNat:Int)<=57),st s (c::t) (8-(d:Int)) 0,()) else some ((),(c.toNat:Int),c::t,false,st s (c::t) (8-(d:Int)) 0,())
    else some ((),(c.toNat:Int),c::t,true,st s (c::t) (8-(d:Int)) 0,()):Option (Unit×Int×By×Bool×RS×Unit))=some ((),(c.toNat:Int),c::t,true,st s (c::t) (8-(d:Int)) 0,()):=by
    by_cases c45:c=45
    ·subst c45; rfl
    ·have hd:=c4.resolve_left c45
     simp[bN] at hd;have q1:¬ (c.toNat:Int)=45:=nv 45 c45;have q2:(48:Int)<=(c.toNat:Int):=by omega
     have q3:(c.toNat:Int)<=57:=by omega
     simp only[q1,q2,q3,decide_true,decide_false,if_true]
   cases hn:yq (c::t) with
   | none =>
    rw[hn] at Ub;exact ⟨_,ahead2 _ (ae.bind (.of fun F=>fl) (ae.pos rfl (ae.bind Ub (.ret _)))),by decide,c::t,8-(d:Int),rfl,jB,by omega,by omega⟩
   | some w =>
    obtain ⟨n,q⟩:=w;rw[hn] at Ub;exact ⟨_,ahead2 _ (ae.bind (.of fun F=>fl) (ae.pos rfl (ae.bind Ub (.ret _)))),rfl⟩
  ·have c45:¬ c=45:=fun hh=>c4 (.inl hh)
   have vO:bN c=false:=by cases hh:bN c with | false=>rfl | true=>exact absurd (.inr hh) c4
   have fl:(if decide ((c.toNat:Int)=45)=false then if decide (48<=(c.toNat:Int))=true then some ((),(c.toNat:Int),c::t,decide ((c.toNat:Int)<=57),st s (c::t) (8-(d:Int)) 0,()) else some ((),(c.toNat:Int),c::t,false,st s (c::t) (8-(d:Int)) 0,())
    else some ((),(c.toNat:Int),c::t,true,st s (c::t) (8-(d:Int)) 0,()):Option (Unit×Int×By×Bool×RS×Unit))=some ((),(c.toNat:Int),c::t,false,st s (c::t) (8-(d:Int)) 0,()):=by
    have q1:¬ (c.toNat:Int)=45:=nv 45 c45;simp[bN] at vO;by_cases q2:48<=c.toNat
    ·have q2':(48:Int)<=(c.toNat:Int):=by omega
     have q3:¬ (c.toNat:Int)<=57:=by have:=vO q2; omega
     simp only[q1,q2',q3,decide_true,decide_false,if_true]
    ·have q2':¬ (48:Int)<=(c.toNat:Int):=by omega
     simp only[q1,q2',decide_true,decide_false,if_true,ade,if_false]
   have RD:yq (c::t)=none:=by
    unfold yq;simp only;rw[if_neg c45];have:ed (c::t)=[]:=by
     unfold ed;simp only;rw[if_neg (by rintro rfl; exact absurd vO (by decide)),List.takeWhile_cons_of_neg (by rw[vO]; decide)];rfl
    rw[if_pos this]
   have drop_st:∀ (w:By) (m:Nat) (v:JV),(c::t).take (m+1)=w->w.length=m+1->(s.length-(c::t).length:Nat)+((m+1:Nat):Int)=((s.length-(t.drop m).length:Nat):Int):=by
    intro w m v hw YK;have:=congrArg List.length hw;rw[YK] at this;simp at this;simp;omega
   have words:∀ (y:JV×RS),ae (fun F=>(if decide ((c.toNat:Int)=110)=true then some ((),(c.toNat:Int),c::t,decide ((c::t).take 4=[110,117,108,108]),st s (c::t) (8-(d:Int)) 0,()) else some ((),(c.toNat:Int),c::t,false,st s (c::t) (8-(d:Int)) 0,()):Option (Unit×Int×By×Bool×RS×Unit)).bind fun v9 =>
     if v9.2.2.2.1=true then some (JV.null,v9.2.2.2.2.1.1,IntKind.i64.wrap (v9.2.2.2.2.1.2.1+4),v9.2.2.2.2.1.2.2.1,v9.2.2.2.2.1.2.2.2.1,())
     else (if decide (v9.2.1=116)=true then some ((),v9.2.1,v9.2.2.1,decide ((v9.2.2.1).take 4=[116,114,117,101]),(v9.2.2.2.2.1.1,v9.2.2.2.2.1.2.1,v9.2.2.2.2.1.2.2.1,v9.2.2.2.2.1.2.2.2.1,()),())
      else some ((),v9.2.1,v9.2.2.1,false,(v9.2.2.2.2.1.1,v9.2.2.2.2.1.2.1,v9.2.2.2.2.1.2.2.1,v9.2.2.2.2.1.2.2.2.1,()),()):Option (Unit×Int×By×Bool×RS×Unit)).bind fun v11 =>
      if v11.2.2.2.1=true then some (JV.bool true,v11.2.2.2.2.1.1,IntKind.i64.wrap (v11.2.2.2.2.1.2.1+4),v11.2.2.2.2.1.2.2.1,v11.2.2.2.2.1.2.2.2.1,())
      else (if decide (v11.2.1=102)=true then some ((),decide ((v11.2.2.1).take 5=[102,97,108,115,101]),(v11.2.2.2.2.1.1,v11.2.2.2.2.1.2.1,v11.2.2.2.2.1.2.2.1,v11.2.2.2.2.1.2.2.2.1,()),())
       else some ((),false,(v11.2.2.2.2.1.1,v11.2.2.2.2.1.2.1,v11.2.2.2.2.1.2.2.1,v11.2.2.2.2.1.2.2.2.1,()),()):Option (Unit×Bool×RS×Unit)).bind fun v13 =>
       if v13.2.1=true then some (JV.bool false,v13.2.2.1.1,IntKind.i64.wrap (v13.2.2.1.2.1+5),v13.2.2.1.2.2.1,v13.2.2.1.2.2.2.1,())
       else some (JV.nil,v13.2.2.1.1,v13.2.2.1.2.1,v13.2.2.1.2.2.1,(if v13.2.2.1.2.2.2.1=0 then 3 else v13.2.2.1.2.2.2.1),())) y->ae (fun F=>eu F (R F) (st s r (8-(d:Int)) 0)) y:=by
    intro y hy;refine ahead2 y (ae.bind (.of fun F=>fl) (ae.neg adj ?_));refine hy.congr fun F => ?_
    simp only[Aq,ada,kr];rfl
   by_cases w1:(c::t).take 4=[110,117,108,108]
   ·have YL:c=110:=by injection w1
    rw[if_pos w1];have GV:=drop_st _ 3 .null w1 rfl;refine ⟨(.null,st s (t.drop 3) (8-(d:Int)) 0),words _ (.of fun F => ?_),rfl⟩;have e110:(c.toNat:Int)=110:=by rw[YL]; rfl
    unfold st;simp only[e110,w1,decide_true,if_true,ada];have RI:((s.length-(c::t).length:Nat):Int)+4=((s.length-(t.drop 3).length:Nat):Int):=GV;rw[RI,wrap64 _ (by omega) (by omega)]
   rw[if_neg w1];have f1:(if decide ((c.toNat:Int)=110)=true then some ((),(c.toNat:Int),c::t,decide ((c::t).take 4=[110,117,108,108]),st s (c::t) (8-(d:Int)) 0,()) else some ((),(c.toNat:Int),c::t,false,st s (c::t) (8-(d:Int)) 0,()):Option (Unit×Int×By×Bool×RS×Unit))=some ((),(c.toNat:Int),c::t,false,st s (c::t) (8-(d:Int)) 0,()):=by
    rw[adh w1]; split <;> rfl
   by_cases w2:(c::t).take 4=[116,114,117,101]
   ·have YM:c=116:=by injection w2
    rw[if_pos w2];have GV:=drop_st _ 3 .null w2 rfl;refine ⟨(.bool true,st s (t.drop 3) (8-(d:Int)) 0),words _ (ae.bind (.of fun F=>f1) (.of fun F => ?_)),rfl⟩;have e116:(c.toNat:Int)=116:=by rw[YM]; rfl
    unfold st;simp only[e116,w2,decide_true,if_true,ada,ade,if_false];have RI:((s.length-(c::t).length:Nat):Int)+4=((s.length-(t.drop 3).length:Nat):Int):=GV;rw[RI,wrap64 _ (by omega) (by omega)]
   rw[if_neg w2];by_cases w3:(c::t).take 5=[102,97,108,115,101]
   ·have YN:c=102:=by injection w3
    rw[if_pos w3];have GV:=drop_st _ 4 .null w3 rfl;refine ⟨(.bool false,st s (t.drop 4) (8-(d:Int)) 0),words _ (ae.bind (.of fun F=>f1) (.of fun F => ?_)),rfl⟩;have e102:(c.toNat:Int)=102:=by rw[YN]; rfl
    have n116:¬ (102:Int)=116:=by decide
    unfold st;simp only[e102,w3,n116,decide_true,decide_false,if_true,ada,ade,if_false];have RI:((s.length-(c::t).length:Nat):Int)+5=((s.length-(t.drop 4).length:Nat):Int):=GV;rw[RI,wrap64 _ (by omega) (by omega)]
   rw[if_neg w3,RD];refine ⟨(.nil,st s (c::t) (8-(d:Int)) 3),words _ (ae.bind (.of fun F=>f1) (.of fun F => ?_)),by decide,_,_,rfl,jB,by omega,by omega⟩;unfold st;simp only[adh w2,adh w3,ada,ade,if_false,ite_self,if_true]
theorem SG (s:By) (hs:s.length<=1000):∀ (d:Nat),d<=8 -> ∀ j,VT s d (fun F=>bn F (F-j)):=by
 intro d;induction d with
 | zero =>
  intro hd j r hr;obtain ⟨y,h1,h2⟩:=Cp s hs 0 hd (fun F=>bn F (F-(j+1))) (fun d' h=>by omega) r hr;refine ⟨y,h1.evt (j+1) fun F hF => ?_,h2⟩;show bn F (F-j) _ = _;rw[show F-j=(F-(j+1))+1 by omega];rfl
 | succ d ih =>
  intro hd j r hr;obtain ⟨y,h1,h2⟩:=Cp s hs (d+1) hd (fun F=>bn F (F-(j+1))) (fun d' h=>(Nat.succ.inj h) ▸ ih (by omega) (j+1)) r hr;refine ⟨y,h1.evt (j+1) fun F hF => ?_,h2⟩;show bn F (F-j) _ = _;rw[show F-j=(F-(j+1))+1 by omega];rfl
theorem Tv (s:By) (hs:s.length<=1000):ae (fun F=>iK F s) (match CT s with
  | .ok v=>(v,0)
  | .error e=>(.nil,(e:Int))):=by
 unfold iK CT;by_cases h4:400<s.length
 ·rw[if_pos h4]
  exact ae.pos (by have:(400:Int)<(s.length:Int):=by omega
                   simpa using this) (.ret _)
 ·rw[if_neg h4]
  refine ae.neg (by have:¬ (400:Int)<(s.length:Int):=by omega
                    simpa using this) ?_
  obtain ⟨⟨v,x⟩,h1,h2⟩:=SG s hs 8 (Nat.le_refl _) 0 s (List.suffix_refl s);have e0:st s s (8-((8:Nat):Int)) 0=(s,0,0,0,()):=by unfold st; rw[Nat.sub_self]; rfl
  rw[e0] at h1;have CO:ae (fun F=>jY F (s,0,0,0,())) (v,x):=h1;refine ae.bind CO ?_;cases hv:jF 8 s with
  | error e =>
   rw[hv] at h2;obtain ⟨he,r,k,hx,hr,hk⟩:Bad s e x:=h2;subst hx;have hp:=rR s r hr hs k e;refine ae.bind hp ?_;have I7:¬ (e:Int)=0:=by omega
   refine ae.bind (r:=(((),v,st s (skp r) k e,()):Unit×JV×RS×Unit)) ?_ ?_
   ·refine .of fun F => ?_
    unfold st;simp only[kr,ada,if_neg I7,ite_self]
   ·exact ae.pos (by simpa[st] using he) (.ret _)
  | ok w =>
   obtain ⟨v',r⟩:=w;rw[hv] at h2;have h2:(v,x)=(v',st s r (8-((8:Nat):Int)) 0):=h2
   injection h2 with h2 GZ
   subst h2; subst GZ;obtain ⟨_,o2,_,_⟩:=vX 8 s v r hv;have hp:=rR s r o2 hs (8-((8:Nat):Int)) 0;refine ae.bind hp ?_;have qJ:skp r <:+ s:=(aw r).trans o2;by_cases hq:skp r=[]
   ·have hr:(match (match (Except.ok (v,r):Except Nat (JV×By)) with | .error e=>(Except.error e:Except Nat JV) | .ok (v,r)=>if skp r=[] then .ok v else .error 3) with | .ok v=>(v,(0:Int)) | .error e=>(JV.nil,(e:Int)))=(v,0):=by
     simp only;rw[if_pos hq]
    refine ae.eq ?_ hr.symm;rw[hq];refine ae.bind (r:=(((),v,st s [] (8-((8:Nat):Int)) 0,()):Unit×JV×RS×Unit)) ?_ ?_
    ·exact ae.neg (by simp[st]) (.ret _)
    ·exact ae.neg (by simp[st]) (.ret _)
   ·have hr:(match (match (Except.ok (v,r):Except Nat (JV×By)) with | .error e=>(Except.error e:Except Nat JV) | .ok (v,r)=>if skp r=[] then .ok v else .error 3) with | .ok v=>(v,(0:Int)) | .error e=>(JV.nil,(e:Int)))=(JV.nil,3):=by
     simp only;rw[if_neg hq];rfl
    refine ae.eq ?_ hr.symm;obtain ⟨c,q,hq⟩:∃ c q,skp r=c::q:=by
     cases hh:skp r with
     | nil=>exact absurd hh hq
     | cons c q=>exact ⟨c,q,rfl⟩
    rw[hq] at qJ ⊢
    have GR:=tI qJ;refine ae.bind (r:=(((),v,st s (c::q) (8-((8:Nat):Int)) 3,()):Unit×JV×RS×Unit)) ?_ ?_
    ·refine ae.pos (by unfold st; simpa using GR) ?_
     refine .of fun F => ?_
     unfold st;simp only[kr,ada,if_true]
    ·exact ae.pos (by simp[st]) (.ret _)
end Go.Vm
