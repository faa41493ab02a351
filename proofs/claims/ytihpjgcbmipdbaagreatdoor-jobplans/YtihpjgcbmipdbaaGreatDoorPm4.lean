import Derived.Test.YtihpjgcbmipdbaaGreatDoorPh8
import Derived.Test.YtihpjgcbmipdbaaGreatDoorFjob
import Derived.Test.YtihpjgcbmipdbaaGreatDoorFref29
set_option linter.unusedVariables false
set_option linter.unusedSimpArgs false
namespace Go.Vm
open Go.Proofs
theorem S2 (body name:By) (n:Int) (hb:body.length<=1000):ae (fun F=>nU F (body,name,n)) (BW body name n):=by
 unfold nU BW;refine ae.bind (LH body name hb) ?_;have h4:=A9 body name;generalize firstM name (ly (vP body))=v at h4;obtain ⟨f,ok⟩:=v;simp only at h4 ⊢
 refine ae.bind (Pz f (by omega)) (.of fun F => ?_);cases ok with
 | false=>rfl
 | true =>
  by_cases c1:pI (vP f)=3
  ·by_cases c2:1<=Bi (vP f) <;> simp[c1,c2]
  ·simp[c1]
theorem B5 (name:By) (n:Int) (V:V9) (l:List Me) (hl:l.length<=1000) (hn:V.2.2.2.2.1=l.map (·.1)) (hi:∀ (i:Nat) (h:i<l.length),V.2.2.2.2.2.1[i]? = some (cg 7 l[i].2.1)) (h7:∀ m∈l,(cg 7 m.2.1).length<=400) :
  ∀ (k i:Nat),i+k=l.length->ag dS (name,n,(),(i:Int),V,()) (if (firstM name (l.drop i)).2=true then .inr ((decide (pI (vP (firstM name (l.drop i)).1)=3)&&(decide (1<=Bi (vP (firstM name (l.drop i)).1))&&decide (Bi (vP (firstM name (l.drop i)).1)<=n))),()) else .inl ())
 | 0,i,h=>by
  refine ag.fin (.of fun F => ?_);unfold dS;rw[if_neg (by rw[ac9]; simp only[hn,List.length_map]; omega),List.drop_eq_nil_of_le (by omega)];rfl
 | k+1,i,h=>by
  have ES:i<l.length:=by omega
  have hx:idx V.2.2.2.2.1 (i:Int)=some l[i].1:=by rw[hn]; exact bU _ _ _ (by simp[ES])
  have Y5:idx V.2.2.2.2.2.1 (i:Int)=some (cg 7 l[i].2.1):=bU _ _ _ (hi i ES);have hw:IntKind.i64.wrap ((i:Int)+1)=((i+1:Nat):Int):=by rw[wrap64 _ (by omega) (by omega)]; omega
  have ih:=B5 name n V l hl hn hi h7 k (i+1) (by omega);have h4:=h7 l[i] (List.getElem_mem ES);rw[ado ES];generalize l[i]=m at *
  unfold firstM;by_cases hc:m.1=name
  ·rw[if_pos hc]
   have ho:=Ma (cg 7 m.2.1) (by omega);obtain ⟨q1,_,q3,_⟩:=uX (cg 7 m.2.1);refine ag.fin ?_;unfold dS;refine ae.pos (by rw[ac9]; simp only[hn,List.length_map]; omega) ?_;refine ae.bind (.of fun F=>hx) (ae.pos (adg hc) ?_);refine ae.bind (r:=((n,(),(ofP (cg 7 m.2.1)).1,()):Int×Unit×V9×Unit)) (ae.bind (.of fun F=>Y5) (ae.bind ho (.ret _))) (.of fun F => ?_);rw[if_pos rfl];simp only[q1,q3];by_cases c1:pI (vP (cg 7 m.2.1))=3
   ·by_cases c2:1<=Bi (vP (cg 7 m.2.1))
    ·simp[c1,c2]
     rw[q3]
    ·simp[c1,c2]
   ·simp[c1]
  ·rw[if_neg hc]
   refine ag.step ?_ ih;unfold dS;refine ae.pos (by rw[ac9]; simp only[hn,List.length_map]; omega) ?_;refine ae.bind (.of fun F=>hx) (ae.neg (by rw[ac9]; exact hc) (.of fun F=>by simp only[hw]))
theorem R3 (body name:By) (n:Int) (hb:body.length<=1000):ae (fun F=>gH F (body,name,n)) (BW body name n):=by
 unfold gH BW;refine ae.bind (Ma body hb) ?_;obtain ⟨_,_,_,q4,q5⟩:=uX body;have hv:=Ij body;have Lf:(ofP body).1.2.2.2.2.1=(ly (vP body)).map (·.1):=q4.trans (BV _);have Lg:∀ (i:Nat) (h:i<(ly (vP body)).length),(ofP body).1.2.2.2.2.2.1[i]? = some (cg 7 (ly (vP body))[i].2.1):=by
  rw[q5];cases hc:vP body with
  | obj l =>
   intro i h;have h':i<l.length:=h;show (l.map fun m=>S9 8 m.2.1)[i]? = some (cg 7 l[i].2.1);rw[List.getElem?_map,adl h'];rfl
  | _=>intro i h; exact absurd h (Nat.not_lt_zero _)
 have Ae:(ly (vP body)).length<=1000 /\ ∀ m∈ly (vP body),(cg 7 m.2.1).length<=400:=by
  cases hc:vP body with
  | obj l =>
   obtain ⟨_,h2,h3⟩:=uL hv hc;exact ⟨by show l.length<=1000; omega,fun m hm=>(h3 m hm).2⟩
  | _=>exact ⟨Nat.zero_le _,fun m hm=>by cases hm⟩
 have hL:=B5 name n (ofP body).1 (ly (vP body)) Ae.1 Lf Lg Ae.2 (ly (vP body)).length 0 (by omega);rw[List.drop_zero] at hL;refine ae.bind hL.run (.of fun F => ?_);cases h2:(firstM name (ly (vP body))).2 with
 | true=>rfl
 | false=>rfl
theorem QO (x:Int):decide (bw x∈([1,2,3]:List Int))=decide (1<=bw x/\bw x<=3):=by
 rw[Bool.eq_iff_iff,ac9,ac9];simp only[List.mem_cons,List.not_mem_nil,or_false];omega
theorem SE (s:By) (hs:s.length<=100000):ae (fun F=>mz F (s,[1,2,3])) (((bF s).map (·.1)).all fun x=>decide (1<=bw x/\bw x<=3)):=by
 have:=Jp s [1,2,3] (by decide);unfold Hl at this;simp only[QO] at this;exact this
theorem AU (n:Int) (l:List Int) (hl:l.length<=1000000):∀ (k i:Nat),i+k=l.length->ag dR (n,l,(i:Int),()) (if (l.drop i).all (fun x=>decide (1<=bw x/\bw x<=3))=true then .inl (n,l,()) else .inr (false,()))
 | 0,i,h=>by
  refine ag.fin (.of fun F => ?_);unfold dR;rw[if_neg (by rw[ac9]; simp only; omega),List.drop_eq_nil_of_le (by omega)];rfl
 | k+1,i,h=>by
  have hi:i<l.length:=by omega
  have hx:idx l (i:Int)=some l[i]:=bU _ _ _ (adl hi);have hw:IntKind.i64.wrap ((i:Int)+1)=((i+1:Nat):Int):=by rw[wrap64 _ (by omega) (by omega)]; omega
  have ih:=AU n l hl k (i+1) (by omega);rw[ado hi,List.all_cons];generalize l[i]=c at *
  have cO:∀ F,dR F (n,l,(i:Int),())=some (if decide (1<=bw c/\bw c<=3)=true then .inl (n,l,((i+1:Nat):Int),()) else .inr (.inr (false,()))):=by
   intro F;unfold dR;rw[if_pos (by rw[ac9]; simp only; omega)];simp only[hx,ada,kx];by_cases c1:bw c<1
   ·have:¬ (1<=bw c/\bw c<=3):=by omega
    simp[c1,this]
   ·by_cases c2:3<bw c
    ·have:¬ (1<=bw c/\bw c<=3):=by omega
     simp[c1,c2,this]
    ·have:1<=bw c/\bw c<=3:=by omega
     simp[c1,c2,this,hw]
  cases hc:decide (1<=bw c/\bw c<=3) with
  | true =>
   rw[Bool.true_and];exact ag.step (.of fun F=>(cO F).trans (by rw[hc,if_pos rfl])) ih
  | false =>
   rw[Bool.false_and];exact ag.fin (.of fun F=>(cO F).trans (by rw[hc]; rfl))
theorem R8 (s:By) (n:Int) (hs:s.length<=100000):ae (fun F=>gG F (s,n)) (Dz s n):=by
 unfold gG Dz;refine ae.bind (mQ s (by omega)) ?_;have UQ:=ql s;have h:=AU n ((bF s).map (·.1)) (by rw[List.length_map]; omega) ((bF s).map (·.1)).length 0 (by omega);rw[List.drop_zero] at h;refine ae.bind h.run (.of fun F => ?_);cases hb:((bF s).map (·.1)).all (fun x=>decide (1<=bw x/\bw x<=3)) with
 | true =>
  rw[Bool.and_true];show some (decide ((((bF s).map (·.1)).length:Int)<=n)) = _;rw[List.length_map]
 | false=>rw[Bool.and_false]; rfl
theorem KS (F:Nat) (ok:Bool) (why:By) (h:why.length<=2000):kE F (ok,why)=some (Ek ok why):=by
 unfold kE Ek;cases ok with
 | true=>rfl
 | false =>
  show (if decide (([114,101,102,117,115,101,100,32]:By).length+why.length<=9223372036854775807)=true then _ else none) = _;rw[if_pos (by rw[ac9]; simp only[adb,List.length_nil]; omega)];rfl
theorem Wg (p:List PhT) (e:EnT) (hl:p.length<=1000000) (hb:∀ x∈p,wj x) (he:e.key.length<=1000/\e.method.length<=1000/\e.path.length<=1000/\e.body.length<=1000):ae (fun F=>pD F (p,e)) (nC p e):=by
 unfold pD nC;refine ae.bind (Vi p hl hb) ?_;by_cases hm:zP p=true
 case neg =>
  have Ac:zP p=false:=by simpa using hm
  rw[Ac,if_pos rfl];exact ae.pos rfl (.ret _)
 rw[hm,if_neg (show ¬ (true=false) by decide)];refine ae.neg (by decide) ?_;refine ae.bind (r:=((p,(),(),decide (e.pt<0\/(p.length:Int)<=e.pt),e,zDo,()):List PhT×Unit×Unit×Bool×EnT×DoT×Unit)) (.of fun F => ?_) ?_
 ·show (if decide (e.pt<0)=false then some (p,(),(),decide ((p.length:Int)<=e.pt),e,zDo,()) else some (p,(),(),true,e,zDo,())) = _
  by_cases c1:e.pt<0
  ·rw[if_neg (by rw[adg c1]; decide),adg (.inl c1)]
  ·rw[if_pos (adh c1)]
   have:decide (e.pt<0\/(p.length:Int)<=e.pt)=decide ((p.length:Int)<=e.pt):=by rw[decide_eq_decide]; exact ⟨fun h=>h.resolve_left c1,.inr⟩
   rw[this]
 by_cases hc:e.pt<0\/(p.length:Int)<=e.pt
 ·rw[if_pos hc]
  exact ae.pos (adg hc) (.ret _)
 rw[if_neg hc];refine ae.neg (by rw[ac9]; exact hc) ?_;have hi:e.pt.toNat<p.length:=by omega
 have hg:p[e.pt.toNat]? = some p[e.pt.toNat]:=adl hi;have hx:idx p e.pt=some p[e.pt.toNat]:=by
  have:=bU p e.pt.toNat _ hg
  rwa [show ((e.pt.toNat:Nat):Int)=e.pt by omega] at this
 obtain ⟨hbn,Y6⟩:=hb p[e.pt.toNat] (List.getElem_mem hi);rw[hg];generalize p[e.pt.toNat]=x at *
 refine ae.bind (.of fun F=>hx) ?_;show ae _ ((doT x e,0):DoT×Int);unfold doT;by_cases k1:x.1=1
 ·rw[if_pos k1]
  refine ae.pos (adg k1) ?_;refine ae.bind (r:=(((),0,Ek (Dz e.body x.2.2.1) Ut,()):Unit×Int×DoT×Unit)) ?_ (.ret _);refine ae.bind (Io e.body (by omega)) ?_;unfold Dz;by_cases c:((bF e.body).length:Int)<=x.2.2.1
  ·rw[adg c,Bool.true_and]
   exact ae.pos rfl (ae.bind (SE e.body (by omega)) (ae.bind (.of fun F=>KS F _ _ (by decide)) (.ret _)))
  ·rw[adh c,Bool.false_and]
   exact ae.neg (by decide) (ae.bind (.of fun F=>KS F _ _ (by decide)) (.ret _))
 rw[if_neg k1];refine ae.neg (by rw[ac9]; exact k1) ?_;by_cases k2:x.1=2
 ·rw[if_pos k2]
  refine ae.pos (adg k2) ?_;refine ae.bind (r:=(((),0,Ek (BW e.body x.2.1 x.2.2.1) (Uu++32::x.2.1),()):Unit×Int×DoT×Unit)) ?_ (.ret _);refine ae.bind (S2 e.body x.2.1 x.2.2.1 (by omega)) ?_;refine ae.pos (by rw[ac9]; simp only[adb,List.length_nil]; omega) ?_;exact ae.bind (.of fun F=>KS F _ _ (by simp only[adf,adb,List.length_nil]; omega)) (.ret _)
 rw[if_neg k2];refine ae.neg (by rw[ac9]; exact k2) ?_;by_cases k3:x.1=3
 ·rw[if_pos k3]
  refine ae.pos (adg k3) ?_;refine ae.bind (r:=(((),(),zDo,(e.1,e.key,e.ep,e.pt,e.tk,x.2.1,tH x.2.2.2.1 e,()),()):Unit×Unit×DoT×(Int×By×Int×Int×Int×By×By×Unit)×Unit)) ?_ (.ret _);exact ae.bind (QU x.2.2.2.1 e Y6 he) (.ret _)
 rw[if_neg k3];refine ae.neg (by rw[ac9]; exact k3) ?_;refine ae.bind (r:=(((),0,(2,x.2.2.1,tH x.2.2.2.1 e,0,[],0,0,0,[],[],()),()):Unit×Int×DoT×Unit)) ?_ (.ret _);exact ae.bind (QU x.2.2.2.1 e Y6 he) (.ret _)
theorem TH (p:List PhT) (e:EnT) (hl:p.length<=1000000) (hb:∀ x∈p,wj x) (he:e.key.length<=1000/\e.method.length<=1000/\e.path.length<=1000/\e.body.length<=1000):ae (fun F=>gD F (p,e)) (nC p e):=by
 unfold gD nC;refine ae.bind (Vw p hl hb) ?_;by_cases hm:zP p=true
 case neg =>
  have Ac:zP p=false:=by simpa using hm
  rw[Ac,if_pos rfl];exact ae.pos rfl (.ret _)
 rw[hm,if_neg (show ¬ (true=false) by decide)];refine ae.neg (by decide) ?_;refine ae.bind (r:=((p,(),(),decide (e.pt<0\/(p.length:Int)<=e.pt),e,zDo,()):List PhT×Unit×Unit×Bool×EnT×DoT×Unit)) (.of fun F => ?_) ?_
 ·show (if decide (e.pt<0)=false then some (p,(),(),decide ((p.length:Int)<=e.pt),e,zDo,()) else some (p,(),(),true,e,zDo,())) = _
  by_cases c1:e.pt<0
  ·rw[if_neg (by rw[adg c1]; decide),adg (.inl c1)]
  ·rw[if_pos (adh c1)]
   have:decide (e.pt<0\/(p.length:Int)<=e.pt)=decide ((p.length:Int)<=e.pt):=by rw[decide_eq_decide]; exact ⟨fun h=>h.resolve_left c1,.inr⟩
   rw[this]
 by_cases hc:e.pt<0\/(p.length:Int)<=e.pt
 ·rw[if_pos hc]
  exact ae.pos (adg hc) (.ret _)
 rw[if_neg hc];refine ae.neg (by rw[ac9]; exact hc) ?_;have hi:e.pt.toNat<p.length:=by omega
 have hg:p[e.pt.toNat]? = some p[e.pt.toNat]:=adl hi;have hx:idx p e.pt=some p[e.pt.toNat]:=by
  have:=bU p e.pt.toNat _ hg
  rwa [show ((e.pt.toNat:Nat):Int)=e.pt by omega] at this
 obtain ⟨hbn,Y6⟩:=hb p[e.pt.toNat] (List.getElem_mem hi);rw[hg];generalize p[e.pt.toNat]=x at *
 refine ae.bind (.of fun F=>hx) ?_;show ae _ ((doT x e,0):DoT×Int);unfold doT;by_cases k1:x.1=1
 ·rw[if_pos k1]
  refine ae.pos (adg k1) (ae.bind (R8 e.body x.2.2.1 (by omega)) ?_);cases Dz e.body x.2.2.1 with
  | true=>exact ae.pos rfl (.ret _)
  | false=>exact ae.neg (by decide) (.ret _)
 rw[if_neg k1];refine ae.neg (by rw[ac9]; exact k1) ?_;by_cases k2:x.1=2
 ·rw[if_pos k2]
  refine ae.pos (adg k2) (ae.bind (R3 e.body x.2.1 x.2.2.1 (by omega)) ?_);cases BW e.body x.2.1 x.2.2.1 with
  | true=>exact ae.pos rfl (.ret _)
  | false=>exact ae.neg (by decide) (ae.pos (by rw[ac9]; simp only[adb,List.length_nil]; omega) (.ret _))
 rw[if_neg k2];refine ae.neg (by rw[ac9]; exact k2) ?_;refine ae.bind (Qh x.2.2.2.1 e Y6 he) ?_;by_cases k3:x.1=3
 ·rw[if_pos k3]
  exact ae.pos (adg k3) (.ret _)
 ·rw[if_neg k3]
  exact ae.neg (by rw[ac9]; exact k3) (.ret _)
theorem A7 (p:List PhT) (pt:Int) (hl:p.length<=1000000):∀ (k i:Nat),i+k=p.length->ag ko (pt,(iL p (min i pt.toNat):Int),p,(p.length:Int),(i:Int),()) (pS p pt,())
 | 0,i,h=>by
  have e:iL p (min i pt.toNat)=iL p pt.toNat:=by
   rcases Nat.le_total i pt.toNat with c | c
   ·rw[Nat.min_eq_left c,BD (show p.length<=pt.toNat by omega),show i=p.length by omega]
   ·rw[Nat.min_eq_right c]
  refine ag.fin (.of fun F => ?_);unfold ko;rw[if_neg (by rw[ac9]; simp only; omega),e];rfl
 | k+1,i,h=>by
  have hi:i<p.length:=by omega
  have hg:p[i]? = some p[i]:=adl hi;have hx:idx p (i:Int)=some p[i]:=bU _ _ _ hg;have hw:IntKind.i64.wrap ((i:Int)+1)=((i+1:Nat):Int):=by rw[wrap64 _ (by omega) (by omega)]; omega
  have ih:=A7 p pt hl k (i+1) (by omega);have Oq:=Ez p (min i pt.toNat);refine ag.step (.of fun F => ?_) ih;unfold ko;rw[if_pos (by rw[ac9]; simp only; omega)];simp only[hx,ada];by_cases c1:(i:Int)<pt
  ·have m1:min i pt.toNat=i:=by omega
   have m2:min (i+1) pt.toNat=i+1:=by omega
   have uy:=zq hg;rw[m1] at Oq ⊢
   rw[m2,uy];have hw2:IntKind.i64.wrap ((iL p i:Int)+1)=((iL p i+1:Nat):Int):=by rw[wrap64 _ (by omega) (by omega)]; omega
   by_cases c2:(p[i]).1=3
   ·simp[c1,c2,hw,hw2]
   ·simp[c1,c2,hw]
  ·have m1:min i pt.toNat=pt.toNat:=by omega
   have m2:min (i+1) pt.toNat=pt.toNat:=by omega
   rw[m1,m2];simp[c1,hw]
theorem Ss (p:List PhT) (pt:Int) (hl:p.length<=1000000):ae (fun F=>nL F (p,pt)) (pS p pt):=by
 unfold nL;have h:=A7 p pt hl p.length 0 (by omega);rw[Nat.zero_min] at h;exact ae.bind h.run (.ret _)
theorem za (p:List PhT) (pt:Int) (hl:p.length<=1000000):∀ (k i:Nat),i+k=p.length->i<=pt.toNat->ag dr (p,pt,(iL p i:Int),(i:Int),()) (pS p pt,())
 | 0,i,h,hp=>by
  refine ag.fin (.of fun F => ?_);unfold dr;have e:iL p i=iL p pt.toNat:=by rw[BD (show p.length<=pt.toNat by omega),show i=p.length by omega]
  rw[if_neg (by rw[ac9]; simp only; omega),e];rfl
 | k+1,i,h,hp=>by
  have hi:i<p.length:=by omega
  have hg:p[i]? = some p[i]:=adl hi;have hx:idx p (i:Int)=some p[i]:=bU _ _ _ hg;have hw:IntKind.i64.wrap ((i:Int)+1)=((i+1:Nat):Int):=by rw[wrap64 _ (by omega) (by omega)]; omega
  have Oq:=Ez p i;have hw2:IntKind.i64.wrap ((iL p i:Int)+1)=((iL p i+1:Nat):Int):=by rw[wrap64 _ (by omega) (by omega)]; omega
  by_cases c1:(i:Int)<pt
  ·have ih:=za p pt hl k (i+1) (by omega) (by omega)
   rw[zq hg] at ih;refine ag.step (.of fun F => ?_) ih;unfold dr;rw[if_pos (by rw[ac9]; simp only; omega)];simp only[hx,ada,c1,decide_true,if_true];by_cases c2:(p[i]).1=3
   ·simp[c2,hw,hw2]
   ·simp[c2,hw]
  ·refine ag.fin (.of fun F => ?_)
   unfold dr;rw[if_pos (by rw[ac9]; simp only; omega)];simp only[ada,c1,decide_false,ade,if_false];have:pt.toNat=i:=by omega
   unfold pS;rw[this]
theorem O3 (p:List PhT) (pt:Int) (hl:p.length<=1000000):ae (fun F=>gf F (p,pt)) (pS p pt):=by
 unfold gf;have h:=za p pt hl p.length 0 (by omega) (Nat.zero_le _);exact ae.bind h.run (.ret _)
end Go.Vm
namespace Go.Vm
open Go.Proofs
theorem FO (F:Nat) (j:JbT) (e:Ent) (now:Int):lY F (j,e.t,now)=some (vL j e now):=by
 unfold lY;show _=some ((decide (j.2.2.1=e.t.1)&&(decide (j.2.2.2.1=e.t.2.1)&&(decide (j.2.2.2.2.1=e.t.2.2.2.1)&&decide (j.2.2.2.2.2.1=e.t.2.2.2.2.1))))&&vz e now);by_cases h1:j.2.2.1=e.t.1 <;> by_cases h2:j.2.2.2.1=e.t.2.1 <;> by_cases h3:j.2.2.2.2.1=e.t.2.2.2.1 <;> by_cases h4:j.2.2.2.2.2.1=e.t.2.2.2.2.1 <;> simp[h1,h2,h3,h4,TJ]
theorem AB (F:Nat) (j:JbT) (e:Ent) (now:Int):dN F (j,e.t,now)=some (vL j e now):=by
 unfold dN;have hh:vz e now=(decide (e.t.2.2.1=1)&&vz e now):=by
  unfold vz;show _=(decide (e.st=1)&&(decide (e.st=1) && _));cases decide (e.st=1) <;> rfl
 show _=some ((decide (j.2.2.1=e.t.1)&&(decide (j.2.2.2.1=e.t.2.1)&&(decide (j.2.2.2.2.1=e.t.2.2.2.1)&&decide (j.2.2.2.2.2.1=e.t.2.2.2.2.1))))&&vz e now);rw[hh];by_cases h0:e.t.2.2.1=1 <;> by_cases h1:j.2.2.1=e.t.1 <;> by_cases h2:j.2.2.2.1=e.t.2.1 <;> by_cases h3:j.2.2.2.2.1=e.t.2.2.2.1 <;> by_cases h4:j.2.2.2.2.2.1=e.t.2.2.2.2.1 <;> simp[h0,h1,h2,h3,h4,QA]
theorem An (F:Nat) (j:JbT) (r:RpT):o6 F (j,r)=some (tZ j r):=by
 unfold o6;show _=some (j.2.2.2.2.2.2.1&&(decide (j.2.2.1=r.1)&&(decide (j.2.2.2.1=r.2.1)&&(decide (j.2.2.2.2.1=r.2.2.1)&&(decide (j.2.2.2.2.2.2.2.1=r.2.2.2.1)&&decide (j.2.2.2.2.2.1=r.2.2.2.2.1))))));have c:∀ {a b:Int},decide (a=b)=decide (b=a):=fun {a b}=>by rw[decide_eq_decide]; exact eq_comm
 have c2:∀ {a b:By},decide (a=b)=decide (b=a):=fun {a b}=>by rw[decide_eq_decide]; exact eq_comm
 rw[c (a:=j.2.2.1),c2 (a:=j.2.2.2.1),c (a:=j.2.2.2.2.1),c (a:=j.2.2.2.2.2.2.2.1),c (a:=j.2.2.2.2.2.1)];cases h:j.2.2.2.2.2.2.1 with
 | true=>simp[h]
 | false=>simp[h]
theorem xd (F:Nat) (j:JbT) (r:RpT):fh F (j,r)=some (tZ j r):=by
 unfold fh;show _=some (j.2.2.2.2.2.2.1&&(decide (j.2.2.1=r.1)&&(decide (j.2.2.2.1=r.2.1)&&(decide (j.2.2.2.2.1=r.2.2.1)&&(decide (j.2.2.2.2.2.2.2.1=r.2.2.2.1)&&decide (j.2.2.2.2.2.1=r.2.2.2.2.1))))));cases h:j.2.2.2.2.2.2.1 with
 | false=>simp[h]
 | true=>by_cases h1:j.2.2.1=r.1 <;> by_cases h2:j.2.2.2.1=r.2.1 <;> by_cases h3:j.2.2.2.2.1=r.2.2.1 <;> by_cases h4:j.2.2.2.2.2.1=r.2.2.2.2.1 <;> simp[h,h1,h2,h3,h4]
theorem put_eq (F:Nat) (j:JbT) (k:Int) (x:Ent×Int) (a:AnT):kJ F (j,k,x.1.t,x.2,a)=some (vZ j k x a):=by
 unfold kJ vZ;by_cases h:x.2=0
 ·rw[if_pos h]
  exact (if_neg (by simp[h])).trans rfl
 ·rw[if_neg h]
  exact (if_pos (by simp[h])).trans rfl
def oL (e:Ent):Prop:=e.me.length<=1000/\e.pa.length<=1000/\e.bo.length<=1000/\e.key.length<=1000
theorem LJ (e:Ent) (h:oL e):ae (fun F=>dJ F e.t) (iC e):=EB e (by have:=h.1; omega) (by have:=h.2.1; omega) (by have:=h.2.2.1; omega)
theorem Lp (e:Ent) (tok now:Int) (c:CfT) (h:oL e):ae (fun F=>jH F (e.t,tok,now,c)) ((nK e tok now c).1.t,(nK e tok now c).2):=by
 obtain ⟨N,hN⟩:=LJ e h;exact ⟨N,fun F hF=>Su F e tok now c (hN F hF)⟩
theorem LP (e:Ent) (tok now:Int) (c:CfT):ae (fun F=>dM F (e.t,tok,now,c)) ((nK e tok now c).1.t,(nK e tok now c).2):=by
 obtain ⟨N,hN⟩:=oT e;exact ⟨N,fun F hF=>Qo F e tok now c (hN F hF)⟩
theorem Q8 (e:Ent) (tok status:Int) (text:B8) (now:Int) (c:CfT) (h:oL e):ae (fun F=>jj F (e.t,tok,status,text,now,c)) ((vm e tok status text now c).1.t,(vm e tok status text now c).2):=by
 obtain ⟨N,hN⟩:=LJ e h;obtain ⟨N',YQ⟩:=EB (jd e status text now c) (Nat.zero_le _) (Nat.zero_le _) (Nat.zero_le _);exact ⟨max N N',fun F hF=>MA F e tok status text now c (hN F (by omega)) (YQ F (by omega))⟩
theorem Mr (e:Ent) (tok status:Int) (text:B8) (now:Int) (c:CfT):ae (fun F=>eD F (e.t,tok,status,text,now,c)) ((vm e tok status text now c).1.t,(vm e tok status text now c).2):=by
 obtain ⟨N,hN⟩:=oT e;obtain ⟨N',YQ⟩:=oT (jd e status text now c);exact ⟨max N N',fun F hF=>Ki F e tok status text now c (hN F (by omega)) (YQ F (by omega))⟩
theorem VY (e:Ent) (tok:Int) (h:oL e):ae (fun F=>lC F (e.t,tok)) ((sa e tok).1.t,(sa e tok).2):=by
 obtain ⟨N,hN⟩:=LJ e h;exact ⟨N,fun F hF=>PA F e tok (hN F hF)⟩
theorem Th (e:Ent) (tok:Int):ae (fun F=>fc F (e.t,tok)) ((sa e tok).1.t,(sa e tok).2):=by
 obtain ⟨N,hN⟩:=oT e;exact ⟨N,fun F hF=>NK F e tok (hN F hF)⟩
theorem EM (e:Ent) (tok now:Int) (h:oL e):ae (fun F=>iO F (e.t,tok,now)) ((yR e tok now).1.t,(yR e tok now).2):=by
 obtain ⟨N,hN⟩:=LJ e h;exact ⟨N,fun F hF=>KF F e tok now (hN F hF)⟩
theorem K5 (e:Ent) (tok now:Int):ae (fun F=>dT F (e.t,tok,now)) ((yR e tok now).1.t,(yR e tok now).2):=by
 obtain ⟨N,hN⟩:=oT e;exact ⟨N,fun F hF=>Hw F e tok now (hN F hF)⟩
theorem K4 (j:JbT) (e:Ent) (p:List PhT) (now:Int) (c:CfT) (h:oL e) (hl:p.length<=1000000) (hb:∀ x∈p,wj x):ae (fun F=>l8 F (j,e.t,p,now,c)) (xl j e p now c):=by
 unfold l8 xl;refine ae.bind (.of fun F=>FO F j e now) ?_;cases ho:vL j e now with
 | false=>exact ae.pos rfl (.of fun F=>rfl)
 | true =>
  rw[if_neg (show ¬ (true=false) by decide)];refine ae.neg (by decide) ?_;by_cases hw:j.wa=true
  ·rw[if_pos hw]; exact ae.pos hw (.of fun F=>rfl)
  rw[if_neg hw];refine ae.neg hw ?_;refine ae.bind (Wg p e.t hl hb ⟨h.2.2.2,h.1,h.2.1,h.2.2.1⟩) ?_;generalize nC p e.t=d;by_cases hk:d.2=0
  case neg=>rw[if_pos hk]; exact ae.pos (by simp[hk]) (.of fun F=>rfl)
  rw[if_neg (by simp[hk])];refine ae.neg (by simp[hk]) ?_;by_cases k3:d.1.1=3
  ·rw[if_pos k3]; exact ae.pos (adg k3) (.of fun F=>rfl)
  rw[if_neg k3];refine ae.neg (by rw[ac9]; exact k3) ?_;by_cases k1:d.1.1=1
  ·rw[if_pos k1]
   refine ae.pos (adg k1) (ae.bind (ae.bind (Lp e j.to now c h) (.ret _)) ?_);exact ae.bind (.of fun F=>put_eq F j 3 (nK e j.to now c) zAn) (.ret _)
  ·rw[if_neg k1]
   refine ae.neg (by rw[ac9]; exact k1) (ae.bind (ae.bind (Q8 e j.to d.1.2.1 d.1.2.2.1 now c h) (.ret _)) ?_);refine ae.bind (.of fun F=>rfl) ?_;exact ae.bind (.of fun F=>put_eq F j 4 (vm e j.to d.1.2.1 d.1.2.2.1 now c) (j.cl,j.se,d.1.2.1,d.1.2.2.1,0,e.ep,())) (.ret _)
theorem VV {j:JbT} {k:Int} {x:Ent×Int} {a:AnT} (h:¬ x.2=0):vZ j k x a=AL j:=by unfold vZ; rw[if_neg h]
theorem Td (j:JbT) (e:Ent) (p:List PhT) (now:Int) (c:CfT) (h:oL e) (hl:p.length<=1000000) (hb:∀ x∈p,wj x):ae (fun F=>gN F (j,e.t,p,now,c)) (xl j e p now c):=by
 unfold gN xl;refine ae.bind (.of fun F=>AB F j e now) ?_;cases ho:vL j e now with
 | false=>exact ae.pos rfl (.of fun F=>rfl)
 | true =>
  rw[if_neg (show ¬ (true=false) by decide)];refine ae.neg (by decide) ?_;by_cases hw:j.wa=true
  ·rw[if_pos hw]; exact ae.pos hw (.of fun F=>rfl)
  rw[if_neg hw];refine ae.neg hw ?_;refine ae.bind (TH p e.t hl hb ⟨h.2.2.2,h.1,h.2.1,h.2.2.1⟩) ?_;generalize nC p e.t=d;by_cases hk:d.2=0
  case neg=>rw[if_pos hk]; exact ae.pos (by simp[hk]) (.of fun F=>rfl)
  rw[if_neg (by simp[hk])];refine ae.neg (by simp[hk]) ?_;by_cases k3:d.1.1=3
  ·rw[if_pos k3]; exact ae.pos (adg k3) (.of fun F=>rfl)
  rw[if_neg k3];refine ae.neg (by rw[ac9]; exact k3) ?_;by_cases k1:d.1.1=1
  ·rw[if_pos k1]
   refine ae.pos (adg k1) (ae.bind (ae.bind (LP e j.to now c) (.ret _)) ?_);by_cases hz:(nK e j.to now c).2=0
   ·unfold vZ
    rw[if_pos hz];exact ae.neg (by simp[hz]) (.of fun F=>rfl)
   ·rw[VV hz]
    exact ae.pos (by simp[hz]) (.of fun F=>rfl)
  ·rw[if_neg k1]
   refine ae.neg (by rw[ac9]; exact k1) (ae.bind (ae.bind (Mr e j.to d.1.2.1 d.1.2.2.1 now c) (.ret _)) ?_);by_cases hz:(vm e j.to d.1.2.1 d.1.2.2.1 now c).2=0
   ·unfold vZ
    rw[if_pos hz];exact ae.neg (by simp[hz]) (.of fun F=>rfl)
   ·rw[VV hz]
    exact ae.pos (by simp[hz]) (.of fun F=>rfl)
theorem Vo (j:JbT) (e:Ent) (p:List PhT) (r:RpT) (now:Int) (c:CfT) (h:oL e) (hl:p.length<=1000000):ae (fun F=>rN F (j,e.t,p,r,now,c)) (IE j e p r now c):=by
 unfold rN IE;by_cases hc:tZ j r=false\/r.code<1\/3<r.code
 ·rw[if_pos hc]
  cases hm:tZ j r with
  | false =>
   refine ae.bind (ae.bind (.of fun F=>(An F j r).trans (by rw[hm])) (ae.neg (by decide) (.ret _))) ?_;exact ae.bind (ae.neg (by simp) (.ret _)) (ae.pos rfl (.of fun F=>rfl))
  | true =>
   refine ae.bind (ae.bind (.of fun F=>(An F j r).trans (by rw[hm])) (ae.pos rfl (.ret _))) ?_;rcases hc with hc | hc | hc
   ·rw[hm] at hc; cases hc
   ·exact ae.bind (ae.neg (by show ¬ decide (r.code<1)=false; rw[adg hc]; decide) (.ret _)) (ae.pos rfl (.of fun F=>rfl))
   ·by_cases h1:r.code<1
    ·exact ae.bind (ae.neg (by show ¬ decide (r.code<1)=false; rw[adg h1]; decide) (.ret _)) (ae.pos rfl (.of fun F=>rfl))
    ·exact ae.bind (ae.pos (by show decide (r.code<1)=false; exact adh h1) (.ret _)) (ae.pos (adg hc) (.of fun F=>rfl))
 ·rw[if_neg hc]
  have hm:tZ j r=true:=by
   cases hm:tZ j r with
   | true=>rfl
   | false=>exact absurd (.inl hm) hc
  have h1:¬ r.code<1:=fun x=>hc (.inr (.inl x))
  have h3:¬ 3<r.code:=fun x=>hc (.inr (.inr x))
  refine ae.bind (ae.bind (.of fun F=>(An F j r).trans (by rw[hm])) (ae.pos rfl (.ret _))) ?_;refine ae.bind (ae.pos (by show decide (r.code<1)=false; exact adh h1) (.ret _)) (ae.neg (by show ¬ decide (3<r.code)=true; rw[ac9]; exact h3) ?_);refine ae.bind (.of fun F=>FO F j e now) ?_;cases ho:vL j e now with
  | false=>exact ae.pos rfl (.of fun F=>rfl)
  | true =>
   rw[if_neg (show ¬ (true=false) by decide)];refine ae.neg (by decide) ?_;by_cases k1:r.code=1
   ·rw[if_pos k1]
    refine ae.pos (adg k1) (ae.bind (ae.bind (Lp e j.to now c h) (.ret _)) ?_);exact ae.bind (.of fun F=>put_eq F j 3 (nK e j.to now c) zAn) (.ret _)
   rw[if_neg k1];refine ae.neg (by rw[ac9]; exact k1) ?_;have abc:r.code=2->pS p e.pt=0 -> _:=fun a b=>(⟨a,b⟩:r.code=2/\pS p e.pt=0)
   by_cases k2:r.code=2
   ·refine ae.bind (ae.pos (adg k2) (ae.bind (Ss p e.pt hl) (.ret _))) ?_
    by_cases kc:pS p e.pt=0
    ·rw[if_pos ⟨k2,kc⟩]
     refine ae.pos (adg kc) (ae.bind (ae.bind (VY e j.to h) (.ret _)) ?_);refine ae.bind (.of fun F=>rfl) ?_;exact ae.bind (.of fun F=>put_eq F j 4 (sa e j.to) (tq j)) (.ret _)
    ·rw[if_neg (fun x=>kc x.2)]
     refine ae.neg (by rw[ac9]; exact kc) (ae.bind (ae.bind (EM e j.to now h) (.ret _)) ?_);refine ae.bind (.of fun F=>rfl) ?_;exact ae.bind (.of fun F=>put_eq F j 4 (yR e j.to now) (tq j)) (.ret _)
   ·rw[if_neg (fun x=>k2 x.1)]
    refine ae.bind (ae.neg (by rw[ac9]; exact k2) (.ret _)) ?_;refine ae.neg adj (ae.bind (ae.bind (EM e j.to now h) (.ret _)) ?_);refine ae.bind (.of fun F=>rfl) ?_;exact ae.bind (.of fun F=>put_eq F j 4 (yR e j.to now) (tq j)) (.ret _)
theorem yL {j:JbT} {x:Ent×Int} {M:Nat->Option PlT} (h0:x.2=0->ae M (MM 4 x.1 zCa (tq j))) (h1:¬ x.2=0->ae M (AL j)):ae M (vZ j 4 x (tq j)):=by
 unfold vZ;by_cases h:x.2=0
 ·rw[if_pos h]; exact h0 h
 ·rw[if_neg h]; exact h1 h
theorem SV (j:JbT) (e:Ent) (p:List PhT) (r:RpT) (now:Int) (c:CfT) (h:oL e) (hl:p.length<=1000000):ae (fun F=>gE F (j,e.t,p,r,now,c)) (IE j e p r now c):=by
 unfold gE IE;by_cases hc:tZ j r=false\/r.code<1\/3<r.code
 ·rw[if_pos hc]
  cases hm:tZ j r with
  | false =>
   refine ae.bind (ae.bind (.of fun F=>(xd F j r).trans (by rw[hm])) (ae.neg (by decide) (.ret _))) ?_;exact ae.bind (ae.neg (by simp) (.ret _)) (ae.pos rfl (.of fun F=>rfl))
  | true =>
   refine ae.bind (ae.bind (.of fun F=>(xd F j r).trans (by rw[hm])) (ae.pos rfl (.ret _))) ?_;rcases hc with hc | hc | hc
   ·rw[hm] at hc; cases hc
   ·exact ae.bind (ae.neg (by show ¬ decide (r.code<1)=false; rw[adg hc]; decide) (.ret _)) (ae.pos rfl (.of fun F=>rfl))
   ·by_cases h1:r.code<1
    ·exact ae.bind (ae.neg (by show ¬ decide (r.code<1)=false; rw[adg h1]; decide) (.ret _)) (ae.pos rfl (.of fun F=>rfl))
    ·exact ae.bind (ae.pos (by show decide (r.code<1)=false; exact adh h1) (.ret _)) (ae.pos (adg hc) (.of fun F=>rfl))
 ·rw[if_neg hc]
  have hm:tZ j r=true:=by
   cases hm:tZ j r with
   | true=>rfl
   | false=>exact absurd (.inl hm) hc
  have h1:¬ r.code<1:=fun x=>hc (.inr (.inl x))
  have h3:¬ 3<r.code:=fun x=>hc (.inr (.inr x))
  refine ae.bind (ae.bind (.of fun F=>(xd F j r).trans (by rw[hm])) (ae.pos rfl (.ret _))) ?_;refine ae.bind (ae.pos (by show decide (r.code<1)=false; exact adh h1) (.ret _)) (ae.neg (by show ¬ decide (3<r.code)=true; rw[ac9]; exact h3) ?_);refine ae.bind (.of fun F=>AB F j e now) ?_;cases ho:vL j e now with
  | false=>exact ae.pos rfl (.of fun F=>rfl)
  | true =>
   rw[if_neg (show ¬ (true=false) by decide)];refine ae.neg (by decide) ?_;by_cases k1:r.code=1
   ·rw[if_pos k1]
    refine ae.pos (adg k1) (ae.bind (ae.bind (LP e j.to now c) (.ret _)) ?_);by_cases hz:(nK e j.to now c).2=0
    ·unfold vZ
     rw[if_pos hz];exact ae.neg (by simp[hz]) (.of fun F=>rfl)
    ·rw[VV hz]
     exact ae.pos (by simp[hz]) (.of fun F=>rfl)
   rw[if_neg k1];refine ae.neg (by rw[ac9]; exact k1) ?_;refine ae.bind (ae.bind (K5 e j.to now) (.ret _)) ?_;by_cases k2:r.code=2
   ·refine ae.bind (ae.pos (adg k2) (ae.bind (O3 p e.pt hl) (.ret _))) ?_
    by_cases kc:pS p e.pt=0
    ·rw[if_pos ⟨k2,kc⟩]
     refine ae.bind (ae.pos (adg kc) (ae.bind (Th e j.to) (.ret _))) ?_;exact yL (fun hz=>ae.neg (by simp[hz]) (.of fun F=>rfl)) (fun hz=>ae.pos (by simp[hz]) (.of fun F=>rfl))
    ·rw[if_neg (fun x=>kc x.2)]
     refine ae.bind (ae.neg (by rw[ac9]; exact kc) (.ret _)) ?_;exact yL (fun hz=>ae.neg (by simp[hz]) (.of fun F=>rfl)) (fun hz=>ae.pos (by simp[hz]) (.of fun F=>rfl))
   ·rw[if_neg (fun x=>k2 x.1)]
    refine ae.bind (ae.neg (by rw[ac9]; exact k2) (.ret _)) ?_;refine ae.bind (ae.neg adj (.ret _)) ?_;exact yL (fun hz=>ae.neg (by simp[hz]) (.of fun F=>rfl)) (fun hz=>ae.pos (by simp[hz]) (.of fun F=>rfl))
end Go.Vm
