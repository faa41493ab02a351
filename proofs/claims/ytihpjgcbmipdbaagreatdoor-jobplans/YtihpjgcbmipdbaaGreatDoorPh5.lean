import Derived.Test.YtihpjgcbmipdbaaGreatDoorPjv
import Derived.Test.YtihpjgcbmipdbaaGreatDoorFlaw22
set_option linter.unusedVariables false
set_option linter.unusedSimpArgs false
namespace Go.Vm
open Go.Lib (decodeL decodeN decodeL_N decode_N decodeN_shape decodeL_le)
abbrev EnT:=Int×By×Int×Int×Int×Int×By×Int×Int×Int×By×By×By×By×Unit
abbrev EnT.key (e:EnT):By:=e.2.1
abbrev EnT.method (e:EnT):By:=e.2.2.2.2.2.2.2.2.2.2.2.1
abbrev EnT.path (e:EnT):By:=e.2.2.2.2.2.2.2.2.2.2.2.2.1
abbrev EnT.body (e:EnT):By:=e.2.2.2.2.2.2.2.2.2.2.2.2.2.1
def Iv (body name:By):By:=if (firstM name (ly (vP body))).2=true then (if pI (vP (firstM name (ly (vP body))).1)=4 then y8 (vP (firstM name (ly (vP body))).1) else (firstM name (ly (vP body))).1) else []
def pk (e:EnT) (g:By):By:=match g with
 | _::b::q=>if b=98 then e.body else if b=107 then e.key else if b=109 then e.method else if b=112 then e.path else if b=37 then [37] else Iv e.body (q.take (q.length-1))
 | _ => []
theorem Es (name:By):∀ l:List Me,(∀ m∈l,(cg 7 m.2.1).length<=400)->(firstM name l).1.length<=400
 | [],h=>Nat.zero_le _
 | m::l,h=>by
  unfold firstM;split
  ·exact h m (adn ..)
  ·exact Es name l fun x hx=>h x (adm _ hx)
theorem A9 (body name:By):(firstM name (ly (vP body))).1.length<=400:=by
 have hv:=Ij body;cases hc:vP body with
 | obj l=>exact Es name l fun m hm=>((uL hv hc).2.2 m hm).2
 | _=>exact Nat.zero_le _
theorem P0 (s:By):(y8 (vP s)).length<=400:=by
 have hv:=Ij s;cases hc:vP s with
 | str t =>
  rw[hc] at hv;rcases hv with h | ⟨_,h2⟩
  ·cases h
  ·have e:cg 8 (.str t)=quo t:=rfl
   rw[e] at h2;have:=Gu t;unfold quo at h2;simp only[adb,adf,List.length_nil] at h2;show t.length<=400;omega
 | _=>exact Nat.zero_le _
theorem Tq (body name:By):(Iv body name).length<=400:=by
 unfold Iv;split
 ·split
  ·exact P0 _
  ·exact A9 body name
 ·exact Nat.zero_le _
theorem PX (body name:By) (hb:body.length<=1000):ae (fun F=>ku F (body,name)) (Iv body name):=by
 unfold ku;refine ae.bind (LH body name hb) ?_;have h4:=A9 body name;unfold Iv;generalize firstM name (ly (vP body))=v at h4;cases hv:v.2 with
 | false=>exact ae.pos rfl (.ret _)
 | true =>
  refine ae.neg (by decide) ?_;refine ae.bind (VX v.1 (by omega)) ?_;rw[if_pos rfl];by_cases hk:pI (vP v.1)=4
  ·rw[if_pos hk]
   exact ae.pos (adg hk) (.ret _)
  ·rw[if_neg hk]
   exact ae.neg (by rw[ac9]; exact hk) (.ret _)
def Sh (g:By):Prop:=∃ b q,g=37::b::q/\(b=37\/b=98\/b=107\/b=109\/b=112\/(b=123/\q ≠ []))
theorem SY (p:Pc) (e:EnT) (hp:p.1=true->Sh p.2.1) (u7:p.2.1.length<=1000) (he:e.body.length<=1000):ae (fun F=>lL F (p,e)) (if p.1=true then pk e p.2.1 else p.2.1):=by
 obtain ⟨g,t,u⟩:=p;unfold lL;cases g with
 | false=>exact ae.pos rfl (.ret _)
 | true =>
  obtain ⟨b,q,hq,hb⟩:=hp rfl;simp only at hq u7;subst hq;have hi:idx (37::b::q:By) 1=some b:=bU _ 1 _ rfl;have nv:∀ k:UInt8,((b.toNat:Int)=(k.toNat:Int))=(b=k):=fun k=>nvB b k
  have n98:((b.toNat:Int)=98)=(b=98):=nv 98;have n107:((b.toNat:Int)=107)=(b=107):=nv 107;have n109:((b.toNat:Int)=109)=(b=109):=nv 109;have n112:((b.toNat:Int)=112)=(b=112):=nv 112;have n37:((b.toNat:Int)=37)=(b=37):=nv 37;refine ae.neg (by show ¬ (!true)=true; decide) ?_;refine ae.bind (.of fun F=>hi) ?_;rw[if_pos rfl];unfold pk;simp only[n98,n107,n109,n112,n37];by_cases c1:b=98
  ·rw[if_pos c1]; exact ae.pos (adg c1) (.ret _)
  rw[if_neg c1];refine ae.neg (by rw[ac9]; exact c1) ?_;by_cases c2:b=107
  ·rw[if_pos c2]; exact ae.pos (adg c2) (.ret _)
  rw[if_neg c2];refine ae.neg (by rw[ac9]; exact c2) ?_;by_cases c3:b=109
  ·rw[if_pos c3]; exact ae.pos (adg c3) (.ret _)
  rw[if_neg c3];refine ae.neg (by rw[ac9]; exact c3) ?_;by_cases c4:b=112
  ·rw[if_pos c4]; exact ae.pos (adg c4) (.ret _)
  rw[if_neg c4];refine ae.neg (by rw[ac9]; exact c4) ?_;by_cases c5:b=37
  ·rw[if_pos c5]; exact ae.pos (adg c5) (.ret _)
  rw[if_neg c5];refine ae.neg (by rw[ac9]; exact c5) ?_;have Ds:q ≠ []:=by
   rcases hb with h | h | h | h | h | h
   ·exact absurd h c5
   ·exact absurd h c1
   ·exact absurd h c2
   ·exact absurd h c3
   ·exact absurd h c4
   ·exact h.2
  have hql:=List.length_pos_iff.2 Ds;simp only[adb] at u7;have hs:sub (37::b::q:By) 2 (IntKind.i64.wrap (((37::b::q:By).length:Int)-1))=some (q.take (q.length-1)):=by
   have hw:IntKind.i64.wrap (((37::b::q:By).length:Int)-1)=((q.length+1:Nat):Int):=by
    simp only[adb];rw[wrap64 _ (by omega) (by omega)];omega
   rw[hw];have:=jM (37::b::q:By) 2 (q.length+1) (by omega) (by simp);rw[show (37::b::q:By).drop 2=q from rfl,show q.length+1-2=q.length-1 by omega] at this;exact this
  refine ae.bind (r:=((Iv e.body (q.take (q.length-1)),()):By×Unit)) (ae.bind (.of fun F=>hs) (ae.bind (PX _ _ he) (.ret _))) (.ret _)
theorem S5 (r:By) (h:cr (37::r)≠0):Sh ((37::r:By).take (cr (37::r))):=by
 unfold cr at h ⊢
 cases r with
 | nil=>exact absurd rfl h
 | cons b q =>
  simp only at h ⊢
  by_cases hc:b=37\/b=98\/b=107\/b=109\/b=112
  ·rw[if_pos hc]
   refine ⟨b,[],rfl,?_⟩;rcases hc with h | h | h | h | h <;> simp[h]
  ·rw[if_neg hc] at h ⊢
   by_cases hb:b=123
   ·rw[if_pos hb] at h ⊢
    by_cases hk:(q.takeWhile (fun c=>c != 125)).length<q.length/\nmP (q.takeWhile (fun c=>c != 125))=true
    ·rw[if_pos hk]
     refine ⟨b,q.take ((q.takeWhile (fun c=>c != 125)).length+1),?_,?_⟩
     ·rw[show (q.takeWhile (fun c=>c != 125)).length+3=((q.takeWhile (fun c=>c != 125)).length+1)+1+1 by omega,List.take_succ_cons,List.take_succ_cons]
     ·refine .inr (.inr (.inr (.inr (.inr ⟨hb,?_⟩))))
      intro hh;have:=congrArg List.length hh;rw[List.length_take] at this;simp only[List.length_nil] at this;omega
    ·rw[if_neg hk] at h; exact absurd rfl h
   ·rw[if_neg hb] at h; exact absurd rfl h
theorem xx:∀ (n:Nat) (s:By),s.length<=n -> ∀ l,oM s=some l->l.length<=s.length /\ ∀ p∈l,(p.1=true->Sh p.2.1)/\p.2.1.length<=s.length
 | 0,s,h,l,hl=>by
  obtain rfl:s=[]:=List.length_eq_zero_iff.1 (by omega);rw[xj] at hl;cases hl;exact ⟨Nat.le_refl _,fun p hp=>by cases hp⟩
 | n+1,s,h,l,hl=>by
  cases s with
  | nil =>
   rw[xj] at hl;cases hl;exact ⟨Nat.le_refl _,fun p hp=>by cases hp⟩
  | cons c r =>
   have hp:=bH (c::r);have Ad:=Am (c::r);simp only[adb] at h Ad ⊢
   rw[yA] at hl;split at hl
   ·cases hl
   split at hl
   ·rename_i Ja
    subst Ja;split at hl
    ·cases hl
    ·rename_i hg
     obtain ⟨l',h1,rfl⟩:=Option.map_eq_some_iff.1 hl;obtain ⟨i1,i2⟩:=xx n ((37::r:By).drop (cr (37::r))) (by rw[List.length_drop,adb]; omega) l' h1;rw[List.length_drop,adb] at i1 i2;refine ⟨by rw[adb]; omega,fun p hp => ?_⟩;rcases List.mem_cons.1 hp with rfl | hp
     ·exact ⟨fun _=>S5 r hg,by simp only[List.length_take,adb]; omega⟩
     ·exact ⟨(i2 p hp).1,by have:=(i2 p hp).2; omega⟩
   ·obtain ⟨l',h1,rfl⟩:=Option.map_eq_some_iff.1 hl
    obtain ⟨i1,i2⟩:=xx n ((c::r).drop (decodeL (c::r)).2) (by rw[List.length_drop,adb]; omega) l' h1;rw[List.length_drop,adb] at i1 i2;refine ⟨by rw[adb]; omega,fun p hp => ?_⟩;rcases List.mem_cons.1 hp with rfl | hp
    ·exact ⟨fun hh=>absurd hh adj,by simp only[List.length_take,adb]; omega⟩
    ·exact ⟨(i2 p hp).1,by have:=(i2 p hp).2; omega⟩
theorem Cg (e:EnT) (g:By) (h:e.key.length<=1000/\e.method.length<=1000/\e.path.length<=1000/\e.body.length<=1000):(pk e g).length<=1000:=by
 unfold pk;split
 ·repeat' split
  ·exact h.2.2.2
  ·exact h.1
  ·exact h.2.1
  ·exact h.2.2.1
  ·exact Nat.le_of_ble_eq_true rfl
  ·exact Nat.le_trans (Tq _ _) (by decide)
 ·exact Nat.zero_le _
theorem uH (val:By->By) (p:Pc) (l:List Pc):kg val (p::l)=(if p.1=true then val p.2.1 else p.2.1)++kg val l:=by unfold kg; rw[List.flatMap_cons]
theorem BU (l:List Pc) (e:EnT) (Ae:l.length<=1000) (hl:∀ p∈l,(p.1=true->Sh p.2.1)/\p.2.1.length<=1000) (he:e.key.length<=1000/\e.method.length<=1000/\e.path.length<=1000/\e.body.length<=1000):∀ (n i:Nat) (out:By),i+n=l.length->out.length<=1000*i ->
  ag jE ((),(),l,(l.length:Int),(i:Int),e,((),(),()),out,()) ((),((),(),()),out++kg (pk e) (l.drop i),())
 | 0,i,out,h,ho=>by
  refine ag.fin (.of fun F => ?_);unfold jE;rw[if_neg (by rw[ac9]; simp only; omega),List.drop_eq_nil_of_le (by omega)];show some (Sum.inr ((),((),(),()),out,()))=some (Sum.inr ((),((),(),()),out++[],()));rw[List.append_nil]
 | n+1,i,out,h,ho=>by
  have hi:i<l.length:=by omega
  have hx:idx l (i:Int)=some l[i]:=bU _ _ _ (adl hi);obtain ⟨p1,p2⟩:=hl l[i] (List.getElem_mem hi);have hv:=SY l[i] e p1 p2 he.2.2.2;have hvl:(if l[i].1=true then pk e l[i].2.1 else l[i].2.1).length<=1000:=by
   split
   ·exact Cg e _ he
   ·exact p2
  have hw:IntKind.i64.wrap ((i:Int)+1)=((i+1:Nat):Int):=by rw[wrap64 _ (by omega) (by omega)]; omega
  rw[ado hi,uH];generalize (if l[i].1=true then pk e l[i].2.1 else l[i].2.1)=v at hv hvl;refine ag.step (x':=((),(),l,(l.length:Int),((i+1:Nat):Int),e,((),(),()),out++v,())) ?_ ?_
  ·unfold jE
   refine ae.pos (by rw[ac9]; simp only; omega) ?_;refine ae.bind (.of fun F=>hx) ?_;refine ae.bind hv ?_;refine ae.bind (r:=(((v.length:Int),()),(),out++v,())) (.of fun F => ?_) (.of fun F => ?_)
   ·unfold fI
    have:bC F ((),out,())=some ((),(),out,()):=rfl;simp only[this,ada];rw[if_pos (by rw[ac9]; omega)];rfl
   ·simp only[hw]
  ·have:=BU l e Ae hl he n (i+1) (out++v) (by omega) (by rw[adf]; omega)
   rw[List.append_assoc] at this;exact this
def Ib:List Int->By->By
 | [],acc=>acc
 | n::l,acc=>if 40<acc.length+(if bw n=0 then [63] else bR n.toNat).length then acc else Ib l (acc++(if bw n=0 then [63] else bR n.toNat))
theorem Be (l:List Int) (n:Int):l7 (l++[n])=l7 l++ru n:=by
 unfold l7;simp
theorem JU (T:By):∀ (n p:Nat) (R:List Int) (acc:By),p<=T.length->T.length-p<=n->l7 R=acc->acc.length<=40->R.length<=40 ->
  ∃ R',ag gm ((),(acc.length:Int),(),(T,p),R,()) ((),R',())/\l7 R'=Ib ((bF (T.drop p)).map (·.1)) acc:=by
 intro n;induction n with
 | zero =>
  intro p R acc hp hn hR ha hr;rw[List.drop_eq_nil_of_le (by omega),fu];refine ⟨R,ag.fin (.of fun F => ?_),hR⟩;unfold gm;rw[if_neg (by rw[ac9]; simp only; omega)]
 | succ n ih =>
  intro p R acc hp hn hR ha hr;by_cases aH:p<T.length
  case neg =>
   rw[List.drop_eq_nil_of_le (by omega),fu];refine ⟨R,ag.fin (.of fun F => ?_),hR⟩;unfold gm;rw[if_neg (by rw[ac9]; exact aH)]
  have iv:=oe aH;have I8:=jI T p;have Dp:=gu T p;have zI:=pG (T.drop p);have T6:=uK aH;have uB:=bH (T.drop p);rw[hQ iv,List.drop_drop,List.map_cons];generalize (decodeL (T.drop p)).1=c at *
  generalize (decodeL (T.drop p)).2=k at *
  unfold Ib;simp only[Int.toNat_natCast]
  -- the sign that is let out
  obtain ⟨d,G0,Om,Wh⟩:∃ d:Nat,okR d/\(if bw (c:Int)=0 then [63] else bR c)=bR d/\(if bw (c:Int)=0 then (63:Int) else (c:Int))=(d:Int):=by
   by_cases h0:bw (c:Int)=0
   ·exact ⟨63,by unfold okR; omega,by rw[if_pos h0]; rfl,by rw[if_pos h0]; rfl⟩
   ·exact ⟨c,zI,by rw[if_neg h0],by rw[if_neg h0]⟩
  have OB:=fun F=>qn F d G0
  have Mm:=qs d;have hep:=xq d;rw[Om];have hw:IntKind.i64.wrap ((acc.length:Int)+((bR d).length:Int))=((acc.length+(bR d).length:Nat):Int):=by rw[wrap64 _ (by omega) (by omega)]; omega
  have cO:∀ (z:(Unit×Int×Unit×(By×Nat)×List Int×Unit) ⊕ (Unit×List Int×Unit)),(∀ F:Nat,(if decide (40<((acc.length+(bR d).length:Nat):Int))=true then some (Sum.inr ((),R,())) else if decide ((R.length + [(d:Int)].length)*4<=140737488355328)=true then some (Sum.inl ((),((acc.length+(bR d).length:Nat):Int),(),(T,p+k),R++[(d:Int)],())) else none:Option ((Unit×Int×Unit×(By×Nat)×List Int×Unit) ⊕ (Unit×List Int×Unit)))=some z) -> ∀ F,gm F ((),(acc.length:Int),(),(T,p),R,())=some z:=by
   intro z hz F;have hz:=hz F;unfold gm;rw[if_pos (by rw[ac9]; exact aH)];simp only[I8,Dp,mc,ada];have h9:(if decide (bw (c:Int)=0)=true then some ((),(acc.length:Int),63,(),(T,p+k),R,()) else some ((),(acc.length:Int),(c:Int),(),(T,p+k),R,()):Option (Unit×Int×Int×Unit×(By×Nat)×List Int×Unit))=some ((),(acc.length:Int),(d:Int),(),(T,p+k),R,()):=by
    by_cases h0:bw (c:Int)=0
    ·rw[if_pos (adg h0)]
     rw[if_pos h0] at Wh;rw[<-Wh]
    ·rw[if_neg (by rw[ac9]; exact h0)]
     rw[if_neg h0] at Wh;rw[<-Wh]
   rw[h9];simp only[ada,OB F,hw];exact hz
  by_cases WN:40<acc.length+(bR d).length
  ·rw[if_pos WN]
   refine ⟨R,ag.fin (.of (cO _ fun F => ?_)),hR⟩;rw[if_pos (by rw[ac9]; omega)]
  ·rw[if_neg WN]
   -- as many bF as bytes at most
   have hlen:∀ l:List Int,(∀ n∈l,1<=(ru n).length)->l.length<=(l7 l).length:=by
    intro l;induction l using pT with
    | h0=>intro _; exact Nat.zero_le _
    | h1 l a ih2 =>
     intro h;have h1:=ih2 fun n hn=>h n (List.mem_append_left _ hn)
     have h2:=h a (by simp);rw[Be,adf,adf,List.length_singleton];omega
   have yi:∀ n:Int,1<=(ru n).length:=fun n=>by rw[e3]; exact xq _
   have hRd:l7 (R++[(d:Int)])=acc++bR d:=by rw[Be,hR,k6 d G0]
   have hRl:(R++[(d:Int)]).length<=40:=by
    have h3:=hlen (R++[(d:Int)]) (fun n _=>yi n);rw[hRd] at h3;have h4:(acc++bR d).length=acc.length+(bR d).length:=adf;omega
   have Y2:(acc++bR d).length=acc.length+(bR d).length:=adf;obtain ⟨R',i1,i2⟩:=ih (p+k) (R++[(d:Int)]) (acc++bR d) T6 (by omega) hRd (by omega) hRl;refine ⟨R',ag.step (.of (cO _ fun F => ?_)) i1,i2⟩;rw[if_neg (by rw[ac9]; omega),if_pos (by rw[ac9]; simp only[List.length_singleton]; omega),Y2]
def tH (s:By) (e:EnT):By:=if 60<s.length then [] else match oM s with
 | none => []
 | some l=>Ib ((bF (kg (pk e) l)).map (·.1)) []
theorem QU (s:By) (e:EnT) (hs:s.length<=1000) (he:e.key.length<=1000/\e.method.length<=1000/\e.path.length<=1000/\e.body.length<=1000):ae (fun F=>j7 F (s,e)) (tH s e):=by
 unfold j7 tH;refine ae.bind (Uf s hs) ?_;unfold TC;by_cases h6:60<s.length
 ·rw[if_pos h6,if_pos h6]
  exact ae.pos rfl (.ret _)
 rw[if_neg h6,if_neg h6];cases hc:oM s with
 | none=>exact ae.pos rfl (.ret _)
 | some l =>
  obtain ⟨g1,g2⟩:=xx s.length s (Nat.le_refl _) l hc;refine ae.neg (by show ¬ (!true)=true; decide) ?_;have h0:=BU l e (by omega) (fun p hp=>⟨(g2 p hp).1,by have:=(g2 p hp).2; omega⟩) he l.length 0 [] (by omega) (by simp);rw[List.drop_zero,List.nil_append] at h0;refine ae.bind h0.run ?_;refine ae.bind (r:=(kg (pk e) l,((),(),()))) (.ret _) ?_;obtain ⟨R',i1,i2⟩:=JU (kg (pk e) l) (kg (pk e) l).length 0 [] [] (Nat.zero_le _) (by omega) rfl (by decide) (by decide);rw[List.drop_zero] at i2;show ae _ (Ib ((bF (kg (pk e) l)).map (·.1)) []);rw[<-i2];exact ae.bind i1.run (.ret _)
end Go.Vm
namespace Go.Vm
open Go.Proofs
open Go.Lib (decodeL decodeN decodeL_N decode_N decodeN_shape decodeL_le)
theorem y7 (x:By) (hx:x.length<=1000000):∀ (n i:Nat),i+n=x.length->ag dZ (x,(i:Int),()) (if (x.drop i).all zL=true then .inl (x,()) else .inr (false,()))
 | 0,i,h=>by
  refine ag.fin (.of fun F => ?_);unfold dZ;rw[if_neg (by rw[ac9]; simp only; omega),List.drop_eq_nil_of_le (by omega)];rfl
 | n+1,i,h=>by
  have hi:i<x.length:=by omega
  have yn:idx x (i:Int)=some x[i]:=bU _ _ _ (adl hi);have hw:IntKind.i64.wrap ((i:Int)+1)=((i+1:Nat):Int):=by rw[wrap64 _ (by omega) (by omega)]; omega
  rw[ado hi,List.all_cons];have ih:=y7 x hx n (i+1) (by omega);generalize x[i]=c at *
  have body:∀ F,dZ F (x,(i:Int),())=some (if zL c=true then .inl (x,((i+1:Nat):Int),()) else .inr (.inr (false,()))):=by
   intro F;unfold dZ;rw[if_pos (by rw[ac9]; simp only; omega)];simp only[yn,ada];unfold zL;by_cases a1:97<=c.toNat
   ·have a1':(97:Int)<=(c.toNat:Int):=by omega
    by_cases a2:c.toNat<=122
    ·have a2':(c.toNat:Int)<=122:=by omega
     simp only[a1',a2',a1,a2,decide_true,if_true,ada,Bool.true_eq_false,if_false,Bool.and_self,Bool.true_or,Bool.not_true,ade,hw]
    ·have a2':¬ (c.toNat:Int)<=122:=by omega
     have a3:(48:Int)<=(c.toNat:Int):=by omega
     have a4:¬ (c.toNat:Int)<=57:=by omega
     have a5:¬ c.toNat<=57:=by omega
     simp only[a1',a2',a1,a2,a3,a4,a5,yn,decide_true,decide_false,if_true,ada,Bool.and_false,Bool.or_false,Bool.not_false,ade,if_false]
   ·have a1':¬ (97:Int)<=(c.toNat:Int):=by omega
    by_cases a3:48<=c.toNat
    ·have a3':(48:Int)<=(c.toNat:Int):=by omega
     by_cases a4:c.toNat<=57
     ·have a4':(c.toNat:Int)<=57:=by omega
      simp only[a1',a1,a3',a3,a4',a4,yn,decide_true,decide_false,if_true,ada,Bool.false_and,Bool.and_self,Bool.or_true,Bool.not_true,ade,if_false,hw]
     ·have a4':¬ (c.toNat:Int)<=57:=by omega
      simp only[a1',a1,a3',a3,a4',a4,yn,decide_true,decide_false,if_true,ada,Bool.false_and,Bool.and_false,Bool.or_false,Bool.not_false,ade,if_false]
    ·have a3':¬ (48:Int)<=(c.toNat:Int):=by omega
     simp only[a1',a1,a3',a3,yn,decide_true,decide_false,if_true,ada,Bool.false_and,Bool.or_false,Bool.not_false,ade,if_false]
  by_cases hc:zL c=true
  ·rw[hc,Bool.true_and]
   exact ag.step (.of fun F=>(body F).trans (by rw[if_pos hc])) ih
  ·have yh:zL c=false:=by simpa using hc
   rw[yh,Bool.false_and];exact ag.fin (.of fun F=>(body F).trans (by rw[if_neg hc]; rfl))
theorem Cs (x:By) (hx:x.length<=1000000):ae (fun F=>dO F x) (nmP x):=by
 unfold dO nmP;have h:=y7 x hx x.length 0 (by omega);rw[List.drop_zero] at h;refine ae.bind h.run ?_;by_cases ha:x.all zL=true
 ·rw[if_pos ha,ha,Bool.true_and]
  simp only[aA];by_cases h1:1<=x.length
  ·have CO:(1:Int)<=(x.length:Int):=by omega
   refine .of fun F => ?_
   rw[if_pos (adg CO),adg h1,Bool.true_and];simp only[ada];congr 1;rw[Bool.eq_iff_iff,ac9,ac9];omega
  ·have CO:¬ (1:Int)<=(x.length:Int):=by omega
   refine .of fun F => ?_
   rw[if_neg (by rw[ac9]; exact CO),adh h1];rfl
 ·have RY:x.all zL=false:=by simpa using ha
  rw[if_neg ha,RY];exact .of fun F=>rfl
theorem BE (x:By) (hx:x.length<=1000000):∀ (n i:Nat),i+n=x.length->ag eA (x,(i:Int),()) (x,((i+((x.drop i).takeWhile (fun c=>c != 125)).length:Nat):Int),())
 | 0,i,h=>by
  refine ag.fin (.of fun F => ?_);unfold eA;rw[if_neg (by rw[ac9]; simp only; omega),List.drop_eq_nil_of_le (by omega)];rfl
 | n+1,i,h=>by
  have hi:i<x.length:=by omega
  have yn:idx x (i:Int)=some x[i]:=bU _ _ _ (adl hi);have hw:IntKind.i64.wrap ((i:Int)+1)=((i+1:Nat):Int):=by rw[wrap64 _ (by omega) (by omega)]; omega
  have ih:=BE x hx n (i+1) (by omega);rw[ado hi];generalize x[i]=c at *
  have n125:((c.toNat:Int)=125)=(c=125):=nvB c 125;by_cases hc:c=125
  ·rw[List.takeWhile_cons_of_neg (by simpa using hc)]
   refine ag.fin (.of fun F => ?_);unfold eA;rw[if_pos (by rw[ac9]; simp only; omega)];simp only[yn,ada,n125,adg hc];rfl
  ·rw[List.takeWhile_cons_of_pos (by simpa using hc),adb,show i+(((x.drop (i+1)).takeWhile (fun c=>c != 125)).length+1)=i+1+((x.drop (i+1)).takeWhile (fun c=>c != 125)).length by omega]
   refine ag.step (.of fun F => ?_) ih;unfold eA;rw[if_pos (by rw[ac9]; simp only; omega)];simp only[yn,ada,n125,adh hc,Bool.not_false,if_true,hw]
theorem L5 (a:UInt8) (r:By) (hr:r.length<=1000):ae (fun F=>fH F (a::r)) (cr (a::r):Int):=by
 unfold fH;cases r with
 | nil=>exact ae.pos rfl (.ret _)
 | cons b q =>
  have h2:¬ (((a::b::q:By).length:Nat):Int)<2:=by simp; omega
  have hi:idx (a::b::q:By) 1=some b:=bU _ 1 _ rfl;have n37:((b.toNat:Int)=37)=(b=37):=nvB b 37;have n98:((b.toNat:Int)=98)=(b=98):=nvB b 98;have n107:((b.toNat:Int)=107)=(b=107):=nvB b 107;have n109:((b.toNat:Int)=109)=(b=109):=nvB b 109;have n112:((b.toNat:Int)=112)=(b=112):=nvB b 112;have n123:((b.toNat:Int)=123)=(b=123):=nvB b 123;refine ae.neg (by rw[ac9]; exact h2) ?_;simp only[hi,ada,n37,n98,n107,n109,n112,n123];unfold cr;simp only;have step:∀ (p q':Prop) [Decidable p] [Decidable q'],(if decide p=false then some ((a::b::q:By),decide q',()) else some ((a::b::q:By),true,()):Option (By×Bool×Unit))=some ((a::b::q:By),decide (p\/q'),()):=by
   intro p q' _ _;by_cases hp:p
   ·rw[adg hp,if_neg (by decide),adg (.inl hp)]
   ·rw[adh hp,if_pos rfl]
    by_cases hq:q'
    ·rw[adg hq,adg (.inr hq)]
    ·rw[adh hq,adh (fun hh=>hh.elim hp hq)]
  simp only[step,ada,hi,n107,n109,n112];by_cases hc:b=37\/b=98\/b=107\/b=109\/b=112
  ·have yh:(((b=37\/b=98)\/b=107)\/b=109)\/b=112:=by
    rcases hc with h | h | h | h | h <;> simp[h]
   rw[if_pos hc];exact ae.pos (adg yh) (.ret _)
  ·have yh:¬ ((((b=37\/b=98)\/b=107)\/b=109)\/b=112):=by
    rintro ((((h | h) | h) | h) | h) <;> exact hc (by simp[h])
   rw[if_neg hc];refine ae.neg (by rw[ac9]; exact yh) ?_;by_cases hb:b=123
   ·rw[if_pos hb]
    refine ae.neg (by simp only[n123,adg hb]; decide) ?_;simp only[adb] at hr;have hl:=BE (a::b::q) (by simp; omega) (q.length) 2 (by simp; omega);rw[show (a::b::q:By).drop 2=q from rfl] at hl;have GZ:(((2:Nat):Nat):Int)=2:=rfl;refine ae.bind hl.run ?_;have TN:(q.takeWhile (fun c=>c != 125)).length<=q.length:=(List.takeWhile_prefix _).length_le;by_cases hk:(q.takeWhile (fun c=>c != 125)).length<q.length
    ·have iv:¬ (((2+(q.takeWhile (fun c=>c != 125)).length:Nat):Int)=((a::b::q:By).length:Int)):=by simp only[adb]; omega
     have hs:sub (a::b::q:By) 2 ((2+(q.takeWhile (fun c=>c != 125)).length:Nat):Int)=some (q.takeWhile (fun c=>c != 125)):=by
      have:=jM (a::b::q:By) 2 (2+(q.takeWhile (fun c=>c != 125)).length) (by omega) (by simp only[adb]; omega);refine (this : _ = _).trans ?_;rw[show (a::b::q:By).drop 2=q from rfl,Nat.add_sub_cancel_left];congr 1;conv=>rhs; rw[<-List.take_length (l:=q.takeWhile (fun c=>c != 125))]
      exact (congrArg (List.take _) (List.takeWhile_append_dropWhile (p:=fun c=>c != 125) (l:=q)).symm).trans (List.take_append_of_le_length (Nat.le_refl _))
     have hn:=Cs (q.takeWhile (fun c=>c != 125)) (by omega);refine ae.bind (r:=((((2+(q.takeWhile (fun c=>c != 125)).length:Nat):Int),!(nmP (q.takeWhile (fun c=>c != 125))),()):Int×Bool×Unit)) (ae.pos (adh iv) (ae.bind (.of fun F=>hs) (ae.bind hn (.ret _)))) ?_;by_cases zF:nmP (q.takeWhile (fun c=>c != 125))=true
     ·have hg:(if (q.takeWhile (fun c=>c != 125)).length<q.length/\nmP (q.takeWhile (fun c=>c != 125))=true then (q.takeWhile (fun c=>c != 125)).length+3 else 0)=(q.takeWhile (fun c=>c != 125)).length+3:=if_pos ⟨hk,zF⟩
      rw[hg,zF];refine ae.neg (by show ¬ (!true)=true; decide) (.of fun F => ?_);simp only;rw[wrap64 _ (by omega) (by omega)];congr 1;omega
     ·have WE:nmP (q.takeWhile (fun c=>c != 125))=false:=by simpa using zF
      have hg:(if (q.takeWhile (fun c=>c != 125)).length<q.length/\nmP (q.takeWhile (fun c=>c != 125))=true then (q.takeWhile (fun c=>c != 125)).length+3 else 0)=0:=if_neg (fun hh=>zF hh.2);rw[hg,WE];exact ae.pos rfl (.ret _)
    ·have he:(((2+(q.takeWhile (fun c=>c != 125)).length:Nat):Int)=((a::b::q:By).length:Int)):=by simp only[adb]; omega
     have hg:(if (q.takeWhile (fun c=>c != 125)).length<q.length/\nmP (q.takeWhile (fun c=>c != 125))=true then (q.takeWhile (fun c=>c != 125)).length+3 else 0)=0:=if_neg (fun hh=>hk hh.1);rw[hg];refine ae.bind (r:=((((2+(q.takeWhile (fun c=>c != 125)).length:Nat):Int),true,()):Int×Bool×Unit)) (ae.neg (by rw[adg he]; decide) (.ret _)) ?_;exact ae.pos rfl (.ret _)
   ·rw[if_neg hb]
    exact ae.pos (by simp only[n123,adh hb]; rfl) (.ret _)
theorem yc (s:By) (l:List Int) (hl:l.length<=1000000):∀ (n i:Nat),i+n=l.length->ag dv (s,l,(i:Int),()) (if (l.drop i).all (fun x=>decide (bw x≠0))=true then .inl (s,()) else .inr (false,()))
 | 0,i,h=>by
  refine ag.fin (.of fun F => ?_);unfold dv;rw[if_neg (by rw[ac9]; simp only; omega),List.drop_eq_nil_of_le (by omega)];rfl
 | n+1,i,h=>by
  have hi:i<l.length:=by omega
  have yn:idx l (i:Int)=some l[i]:=bU _ _ _ (adl hi);have hw:IntKind.i64.wrap ((i:Int)+1)=((i+1:Nat):Int):=by rw[wrap64 _ (by omega) (by omega)]; omega
  have ih:=yc s l hl n (i+1) (by omega);rw[ado hi,List.all_cons];generalize l[i]=c at *
  by_cases h0:bw c=0
  ·rw[adh (fun hh=>hh h0),Bool.false_and]
   refine ag.fin (.of fun F => ?_);unfold dv;rw[if_pos (by rw[ac9]; simp only; omega)];simp only[yn,ada,kx,adg h0];rfl
  ·rw[adg h0,Bool.true_and]
   refine ag.step (.of fun F => ?_) ih;unfold dv;rw[if_pos (by rw[ac9]; simp only; omega)];simp only[yn,ada,kx,adh h0,ade,if_false,hw]
theorem I1 (s:By) (hs:s.length<=1000):∀ (n p:Nat),s.length-p<=n->p<=s.length->ag bI (s,(p:Int),()) (match ud (s.drop p) with
  | some _ => .inl (s,())
  | none => .inr (false,())):=by
 intro n;induction n with
 | zero =>
  intro p hn hp;refine ag.fin (.of fun F => ?_);unfold bI;rw[if_neg (by rw[ac9]; simp only; omega),List.drop_eq_nil_of_le (by omega),xD]
 | succ n ih =>
  intro p hn hp;by_cases aH:p<s.length
  case neg =>
   refine ag.fin (.of fun F => ?_);unfold bI;rw[if_neg (by rw[ac9]; simp only; omega),List.drop_eq_nil_of_le (by omega),xD]
  have hd:s.drop p=s[p]::s.drop (p+1):=ado aH;have yn:idx s (p:Int)=some s[p]:=bU _ _ _ (adl aH);have UW:=hZ s p (by omega);have hlen:(s.drop p).length=s.length-p:=List.length_drop;have UZ:IntKind.i64.wrap ((p:Int)+1)=((p+1:Nat):Int):=by rw[wrap64 _ (by omega) (by omega)]; omega
  have ih1:=ih (p+1) (by omega) (by omega);have G2:∀ m,(s.drop p).drop m=s.drop (p+m):=fun m=>List.drop_drop
  rw[hd] at UW hlen G2 ⊢
  rw[uW];generalize hr:s.drop (p+1)=r at *
  generalize s[p]=c at *
  have n37:((c.toNat:Int)=37)=(c=37):=nvB c 37;by_cases Ja:c=37
  ·rw[if_pos Ja]
   have YF:=Am (c::r);have h1:=ox (c::r);have hgt:=L5 c r (by simp only[adb] at hlen; omega);have cO:∀ z,ae (fun F=>(if decide ((cr (c::r):Int)=0)=true then some (Sum.inr (Sum.inr (false,()))) else some (Sum.inl (s,IntKind.i64.wrap ((p:Int)+(cr (c::r):Int)),())):Option ((By×Int×Unit) ⊕ (By×Unit ⊕ Bool×Unit)))) z->ae (fun F=>bI F (s,(p:Int),())) z:=by
    intro z hz;unfold bI;refine ae.pos (by rw[ac9]; simp only; omega) ?_;refine ae.bind (.of fun F=>yn) ?_;refine ae.neg (by simp only[n37,adg Ja]; decide) ?_;refine ae.bind (.of fun F=>UW) ?_;exact ae.bind hgt hz
   by_cases hg:cr (c::r)=0
   ·rw[if_pos hg]
    exact ag.fin (cO _ (ae.pos (by rw[ac9]; omega) (.ret _)))
   ·rw[if_neg hg]
    have hw:IntKind.i64.wrap ((p:Int)+(cr (c::r):Int))=((p+cr (c::r):Nat):Int):=by rw[wrap64 _ (by omega) (by omega)]; omega
    have ihg:=ih (p+cr (c::r)) (by omega) (by omega);rw[<-G2] at ihg;refine ag.step (cO (.inl (s,((p+cr (c::r):Nat):Int),())) (ae.neg (by rw[ac9]; omega) (.of fun F=>by rw[hw]))) ?_;cases hx:ud ((c::r).drop (cr (c::r))) with
    | none=>rw[hx] at ihg; exact ihg
    | some l=>rw[hx] at ihg; exact ihg
  ·rw[if_neg Ja]
   refine ag.step (x':=(s,((p+1:Nat):Int),())) (.of fun F => ?_) ?_
   ·unfold bI
    rw[if_pos (by rw[ac9]; simp only; omega)];simp only[yn,ada,n37,adh Ja,Bool.not_false,if_true,UZ]
   ·cases hx:ud r with
    | none=>rw[hx] at ih1; exact ih1
    | some l=>rw[hx] at ih1; exact ih1
theorem ON (s:By):xO s=((bF s).map (·.1)).all (fun x=>decide (bw x≠0)):=by unfold xO; rw[List.all_map]; rfl
def tW (s:By):Bool:=decide (s.length<=60)&&(oM s).isSome
theorem MW (s:By):(xO s&&(ud s).isSome)=(oM s).isSome:=by
 have h:=Af s.length s (Nat.le_refl _);cases hc:oM s with
 | none =>
  rw[hc] at h;rcases h with h | h
  ·rw[h]; rfl
  ·rw[h]; simp
 | some l =>
  rw[hc] at h;obtain ⟨h1,m,h2,_⟩:=h;rw[h1,h2];rfl
theorem Dx (s:By) (hs:s.length<=1000):ae (fun F=>eN F s) (tW s):=by
 unfold eN;have UQ:=ql s;refine ae.bind (mQ s (by omega)) ?_;have h0:=yc s ((bF s).map (·.1)) (by rw[List.length_map]; omega) ((bF s).map (·.1)).length 0 (by omega);rw[List.drop_zero,<-ON] at h0;refine ae.bind h0.run ?_;have YV:=MW s;unfold tW;rw[<-YV];by_cases ha:xO s=true
 ·rw[if_pos ha,ha,Bool.true_and]
  simp only[aA];have h1:=I1 s hs s.length 0 (by omega) (by omega);rw[List.drop_zero] at h1;refine ae.bind h1.run ?_;cases ud s with
  | none=>exact .of fun F=>by simp[bd]
  | some m =>
   refine .of fun F => ?_
   simp only[aA,Option.isSome_some,Bool.and_true];congr 1;rw[Bool.eq_iff_iff,ac9,ac9];omega
 ·have RY:xO s=false:=by simpa using ha
  rw[if_neg ha,RY,Bool.false_and,Bool.and_false];exact .of fun F=>rfl
theorem Sk (s:By) (hs:s.length<=1000):ae (fun F=>lk F s) (tW s):=by
 unfold lk;refine ae.bind (Uf s hs) (.of fun F => ?_);unfold TC tW;by_cases h6:60<s.length
 ·rw[if_pos h6,adh (by omega)]; rfl
 ·rw[if_neg h6,adg (by omega)]
  cases oM s <;> rfl
end Go.Vm
