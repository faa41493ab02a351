import Derived.Test.YtihpjgcbmipdbaaGreatDoorPh5
set_option linter.unusedVariables false
set_option linter.unusedSimpArgs false
namespace Go.Vm
open Go.Lib (decDigits itoa decNat decFrom digitVal)
abbrev PhT:=Int×By×Int×By×Unit
def pC (s:By):Bool:=s.all (fun c=>c != 59)&&tW s
def gO (p:PhT):Bool :=
 if p.1=1 then decide (1<=p.2.2.1)&&decide (p.2.2.1<=80)&&decide (p.2.1=[])&&decide (p.2.2.2.1=[])
 else if p.1=2 then decide (1<=p.2.2.1)&&decide (p.2.2.1<=1073741824)&&nmP p.2.1&&decide (p.2.2.2.1=[])
 else if p.1=3 then decide (p.2.2.1=0)&&nmP p.2.1&&pC p.2.2.2.1
 else if p.1=4 then (decide (p.2.2.1=200) || decide (p.2.2.1=201))&&decide (p.2.1=[])&&pC p.2.2.2.1
 else false
def zV:List PhT->Bool
 | []=>true
 | p::r=>gO p&&(decide (p.1=4) == decide (r=[]))&&zV r
def zP (l:List PhT):Bool:=decide (1<=l.length)&&decide (l.length<=5)&&zV l
abbrev Ut:By:=[111,110,108,121]
abbrev Uu:By:=[110,101,101,100]
theorem Ik {p:PhT} (h:gO p=true) :
  (∃ n:Nat,p=(1,[],(n:Int),[],())/\1<=n/\n<=80)\/(∃ (nm:By) (n:Nat),p=(2,nm,(n:Int),[],())/\nmP nm=true/\1<=n/\n<=1073741824) \/
  (∃ nm t,p=(3,nm,0,t,())/\nmP nm=true/\pC t=true) \/ ∃ (n:Nat) (t:By),p=(4,[],(n:Int),t,())/\(n=200\/n=201)/\pC t=true:=by
 obtain ⟨k,nm,n,t,u⟩:=p;unfold gO at h;simp only at h;split at h
 ·rename_i hk
  subst hk;simp only[adi,ac9] at h;obtain ⟨⟨⟨h1,h2⟩,rfl⟩,rfl⟩:=h;exact .inl ⟨n.toNat,by rw[show ((n.toNat:Nat):Int)=n by omega],by omega,by omega⟩
 split at h
 ·rename_i hk
  subst hk;simp only[adi,ac9] at h;obtain ⟨⟨⟨h1,h2⟩,h3⟩,rfl⟩:=h;exact .inr (.inl ⟨nm,n.toNat,by rw[show ((n.toNat:Nat):Int)=n by omega],h3,by omega,by omega⟩)
 split at h
 ·rename_i hk
  subst hk;simp only[adi,ac9] at h;obtain ⟨⟨rfl,h2⟩,h3⟩:=h;exact .inr (.inr (.inl ⟨nm,t,rfl,h2,h3⟩))
 split at h
 ·rename_i hk
  subst hk;simp only[adi,Bool.or_eq_true,ac9] at h;obtain ⟨⟨h1,rfl⟩,h3⟩:=h;exact .inr (.inr (.inr ⟨n.toNat,t,by rw[show ((n.toNat:Nat):Int)=n by omega],by omega,h3⟩))
 ·cases h
end Go.Vm
namespace Go.Vm
open Go.Lib (decDigits itoa)
theorem BA:∀ l:List PhT,zV l=true -> ∀ p∈l,gO p=true
 | [],h,p,hp=>by cases hp
 | q::l,h,p,hp=>by
  unfold zV at h;rw[adi,adi] at h;rcases List.mem_cons.1 hp with rfl | hp
  ·exact h.1.1
  ·exact BA l h.2 p hp
theorem MS {l:List PhT} (h:zP l=true):(∀ p∈l,gO p=true)/\1<=l.length/\l.length<=5:=by
 unfold zP at h;simp only[adi,ac9] at h;exact ⟨BA l h.2,h.1.1,h.1.2⟩
end Go.Vm
namespace Go.Vm
open Go.Proofs
open Go.Lib (decodeL decodeN decodeL_N decode_N decodeN_shape decodeL_le)
theorem tw:∀ s:By,(∀ b∈s,b.toNat<128)->(bF s).map (·.1)=s.map fun b=>(b.toNat:Int)
 | [],h=>by rw[fu]; rfl
 | c::s,h=>by
  rw[MI c (h c (adn ..)),List.map_cons,List.map_cons,tw s fun b hb=>h b (adm _ hb)]
end Go.Vm
namespace Go.Vm
open Go.Proofs
open Go.Lib (decodeL decodeN decodeL_N decode_N decodeN_shape decodeL_le)
theorem BB (g name body:By) (V:V9) (l:List Me) (hl:l.length<=1000) (hb:body.length<=1000) (hn:V.2.2.2.2.1=l.map (·.1)) (hi:∀ (i:Nat) (h:i<l.length),V.2.2.2.2.2.1[i]? = some (cg 7 l[i].2.1)) (h7:∀ m∈l,(cg 7 m.2.1).length<=400)
  (hg:sub g 2 (IntKind.i64.wrap ((g.length:Int)-1))=some name):∀ (n i:Nat),i+n=l.length->ag dA (g,(),(i:Int),V,()) (if (firstM name (l.drop i)).2=true then .inr ((if pI (vP (firstM name (l.drop i)).1)=4 then y8 (vP (firstM name (l.drop i)).1) else (firstM name (l.drop i)).1),()) else .inl ())
 | 0,i,h=>by
  refine ag.fin (.of fun F => ?_);unfold dA;rw[if_neg (by rw[ac9]; simp only[hn,List.length_map]; omega),List.drop_eq_nil_of_le (by omega)];rfl
 | n+1,i,h=>by
  have ES:i<l.length:=by omega
  have hx:idx V.2.2.2.2.1 (i:Int)=some l[i].1:=by rw[hn]; exact bU _ _ _ (by simp[ES])
  have Y5:idx V.2.2.2.2.2.1 (i:Int)=some (cg 7 l[i].2.1):=bU _ _ _ (hi i ES);have hw:IntKind.i64.wrap ((i:Int)+1)=((i+1:Nat):Int):=by rw[wrap64 _ (by omega) (by omega)]; omega
  have ih:=BB g name body V l hl hb hn hi h7 hg n (i+1) (by omega);have h4:=h7 l[i] (List.getElem_mem ES);rw[ado ES];generalize l[i]=m at *
  unfold firstM;by_cases hc:m.1=name
  ·rw[if_pos hc]
   have ho:=Ma (cg 7 m.2.1) (by omega);obtain ⟨q1,q2,_⟩:=uX (cg 7 m.2.1);refine ag.fin ?_;unfold dA;refine ae.pos (by rw[ac9]; simp only[hn,List.length_map]; omega) ?_;refine ae.bind (r:=((g,(),(i:Int),true,V,()):By×Unit×Int×Bool×V9×Unit)) (ae.bind (.of fun F=>hx) (ae.bind (.of fun F=>hg) (.of fun F=>by rw[adg hc]))) ?_;refine ae.pos rfl ?_;refine ae.bind (r:=(((),(i:Int),(),V,(ofP (cg 7 m.2.1)).1,()):Unit×Int×Unit×V9×V9×Unit)) (ae.bind (.of fun F=>Y5) (ae.bind ho (.ret _))) ?_;rw[if_pos rfl];simp only;by_cases hk:pI (vP (cg 7 m.2.1))=4
   ·rw[if_pos hk,<-q2]
    exact ae.pos (by rw[ac9,q1]; exact hk) (.ret _)
   ·rw[if_neg hk]
    refine ae.neg (by rw[ac9,q1]; exact hk) ?_;exact ae.bind (.of fun F=>Y5) (.ret _)
  ·rw[if_neg hc]
   refine ag.step (x':=(g,(),((i+1:Nat):Int),V,())) ?_ ih;unfold dA;refine ae.pos (by rw[ac9]; simp only[hn,List.length_map]; omega) ?_;refine ae.bind (r:=((g,(),(i:Int),false,V,()):By×Unit×Int×Bool×V9×Unit)) (ae.bind (.of fun F=>hx) (ae.bind (.of fun F=>hg) (.of fun F=>by rw[adh hc]))) ?_;exact ae.neg adj (.of fun F=>by simp only[hw])
def U3 (g:By):Prop:=∃ b q,g=37::b::q/\(((b=37\/b=98\/b=107\/b=109\/b=112)/\q=[])\/(b=123/\q ≠ []))
theorem TF (r:By) (h:cr (37::r)≠0):U3 ((37::r:By).take (cr (37::r))):=by
 unfold cr at h ⊢
 cases r with
 | nil=>exact absurd rfl h
 | cons b q =>
  simp only at h ⊢
  by_cases hc:b=37\/b=98\/b=107\/b=109\/b=112
  ·rw[if_pos hc]
   exact ⟨b,[],rfl,.inl ⟨hc,rfl⟩⟩
  ·rw[if_neg hc] at h ⊢
   by_cases hb:b=123
   ·rw[if_pos hb] at h ⊢
    by_cases hk:(q.takeWhile (fun c=>c != 125)).length<q.length/\nmP (q.takeWhile (fun c=>c != 125))=true
    ·rw[if_pos hk]
     refine ⟨b,q.take ((q.takeWhile (fun c=>c != 125)).length+1),?_,?_⟩
     ·rw[show (q.takeWhile (fun c=>c != 125)).length+3=((q.takeWhile (fun c=>c != 125)).length+1)+1+1 by omega,List.take_succ_cons,List.take_succ_cons]
     ·refine .inr ⟨hb,?_⟩
      intro hh;have:=congrArg List.length hh;rw[List.length_take] at this;simp only[List.length_nil] at this;omega
    ·rw[if_neg hk] at h; exact absurd rfl h
   ·rw[if_neg hb] at h; exact absurd rfl h
theorem N7 (g:By) (e:EnT) (hg:U3 g) (u7:g.length<=1000) (he:e.body.length<=1000):ae (fun F=>gj F (g,e)) (pk e g):=by
 obtain ⟨b,q,rfl,hb⟩:=hg;unfold gj;rcases hb with ⟨h,rfl⟩ | ⟨rfl,hq⟩
 ·rcases h with rfl | rfl | rfl | rfl | rfl
  ·show ae _ ([37]:By)
   exact ae.neg (by simp) (ae.neg (by simp) (ae.neg (by simp) (ae.neg (by simp) (ae.pos (by simp) (.ret _)))))
  ·show ae _ e.body
   exact ae.pos (by simp) (.ret _)
  ·show ae _ e.key
   exact ae.neg (by simp) (ae.pos (by simp) (.ret _))
  ·show ae _ e.method
   exact ae.neg (by simp) (ae.neg (by simp) (ae.pos (by simp) (.ret _)))
  ·show ae _ e.path
   exact ae.neg (by simp) (ae.neg (by simp) (ae.neg (by simp) (ae.pos (by simp) (.ret _))))
 ·show ae _ (Iv e.body (q.take (q.length-1)))
  refine ae.neg (by simp) (ae.neg (by simp) (ae.neg (by simp) (ae.neg (by simp) (ae.neg (by simp) ?_))));refine ae.bind (Ma e.body he) ?_;obtain ⟨_,_,_,q4,q5⟩:=uX e.body;have hv:=Ij e.body;have Lf:(ofP e.body).1.2.2.2.2.1=(ly (vP e.body)).map (·.1):=q4.trans (BV _);have Lg:∀ (i:Nat) (h:i<(ly (vP e.body)).length),(ofP e.body).1.2.2.2.2.2.1[i]? = some (cg 7 (ly (vP e.body))[i].2.1):=by
   rw[q5];cases hc:vP e.body with
   | obj l =>
    intro i h;have h':i<l.length:=h;show (l.map fun m=>S9 8 m.2.1)[i]? = some (cg 7 l[i].2.1);rw[List.getElem?_map,adl h'];rfl
   | _=>intro i h; exact absurd h (Nat.not_lt_zero _)
  have Ae:(ly (vP e.body)).length<=1000 /\ ∀ m∈ly (vP e.body),(cg 7 m.2.1).length<=400:=by
   cases hc:vP e.body with
   | obj l =>
    obtain ⟨_,h2,h3⟩:=uL hv hc;exact ⟨by show l.length<=1000; omega,fun m hm=>(h3 m hm).2⟩
   | _=>exact ⟨Nat.zero_le _,fun m hm=>by cases hm⟩
  have hql:=List.length_pos_iff.2 hq;simp only[adb] at u7;have hs:sub (37::123::q:By) 2 (IntKind.i64.wrap (((37::123::q:By).length:Int)-1))=some (q.take (q.length-1)):=by
   have hw:IntKind.i64.wrap (((37::123::q:By).length:Int)-1)=((q.length+1:Nat):Int):=by
    simp only[adb];rw[wrap64 _ (by omega) (by omega)];omega
   rw[hw];have:=jM (37::123::q:By) 2 (q.length+1) (by omega) (by simp);rw[show (37::123::q:By).drop 2=q from rfl,show q.length+1-2=q.length-1 by omega] at this;exact this
  have hL:=BB (37::123::q) (q.take (q.length-1)) e.body (ofP e.body).1 (ly (vP e.body)) Ae.1 he Lf Lg Ae.2 hs (ly (vP e.body)).length 0 (by omega);rw[List.drop_zero] at hL;refine ae.bind hL.run ?_;unfold Iv;by_cases h2:(firstM (q.take (q.length-1)) (ly (vP e.body))).2=true
  ·rw[if_pos h2,if_pos h2]
   exact .ret _
  ·rw[if_neg h2,if_neg h2]
   exact .ret _
theorem HL (s:By) (hs:s.length<=1000) (e:EnT) (he:e.key.length<=1000/\e.method.length<=1000/\e.path.length<=1000/\e.body.length<=1000):∀ (n p:Nat) (out:By) (m:List Pc),s.length-p<=n->p<=s.length->out.length<=1000*p->ud (s.drop p)=some m->ag cG (s,(),out,(p:Int),e,()) (out++kg (pk e) m,()):=by
 intro n;induction n with
 | zero =>
  intro p out m hn hp ho ht;rw[List.drop_eq_nil_of_le (by omega),xD] at ht;cases ht;refine ag.fin (.of fun F => ?_);unfold cG;rw[if_neg (by rw[ac9]; simp only; omega)];show some (Sum.inr (out,()))=some (Sum.inr (out++[],()));rw[List.append_nil]
 | succ n ih =>
  intro p out m hn hp ho ht;by_cases aH:p<s.length
  case neg =>
   rw[List.drop_eq_nil_of_le (by omega),xD] at ht;cases ht;refine ag.fin (.of fun F => ?_);unfold cG;rw[if_neg (by rw[ac9]; simp only; omega)];show some (Sum.inr (out,()))=some (Sum.inr (out++[],()));rw[List.append_nil]
  have hd:s.drop p=s[p]::s.drop (p+1):=ado aH;have yn:idx s (p:Int)=some s[p]:=bU _ _ _ (adl aH);have UW:=hZ s p (by omega);have hlen:(s.drop p).length=s.length-p:=List.length_drop;have UZ:IntKind.i64.wrap ((p:Int)+1)=((p+1:Nat):Int):=by rw[wrap64 _ (by omega) (by omega)]; omega
  have ih1:=fun out m=>ih (p+1) out m (by omega) (by omega)
  have G2:∀ m,(s.drop p).drop m=s.drop (p+m):=fun m=>List.drop_drop
  have Oo:∀ g:Nat,p+g<=s.length->sub s (p:Int) ((p+g:Nat):Int)=some ((s.drop p).take g):=by
   intro g hg;have:=jM s p (p+g) (by omega) hg;rw[Nat.add_sub_cancel_left] at this;exact this
  rw[hd] at UW hlen G2 Oo ht;rw[uW] at ht;generalize hr:s.drop (p+1)=r at *
  generalize s[p]=c at *
  have n37:((c.toNat:Int)=37)=(c=37):=nvB c 37;by_cases Ja:c=37
  ·rw[if_pos Ja] at ht
   by_cases hg:cr (c::r)=0
   ·rw[if_pos hg] at ht; cases ht
   rw[if_neg hg] at ht;obtain ⟨m',hm,rfl⟩:=Option.map_eq_some_iff.1 ht;have YF:=Am (c::r);have h1:=ox (c::r);have hgt:=L5 c r (by simp only[adb] at hlen; omega);have hw:IntKind.i64.wrap ((p:Int)+(cr (c::r):Int))=((p+cr (c::r):Nat):Int):=by rw[wrap64 _ (by omega) (by omega)]; omega
   have Xh:=Oo (cr (c::r)) (by omega);have hgS:U3 ((c::r).take (cr (c::r))):=by
    subst Ja;exact TF r hg
   have hvl:=Cg e ((c::r).take (cr (c::r))) he;have hvt:=N7 ((c::r).take (cr (c::r))) e hgS (by simp only[List.length_take]; omega) he.2.2.2;have ihg:=ih (p+cr (c::r)) (out++pk e ((c::r).take (cr (c::r)))) m' (by omega) (by omega) (by rw[adf]; omega) (by rw[<-G2]; exact hm);rw[uH,if_pos rfl,<-List.append_assoc];refine ag.step ?_ ihg;unfold cG;refine ae.pos (by rw[ac9]; simp only; omega) ?_;refine ae.bind (.of fun F=>yn) ?_;refine ae.bind (r:=((s,(),out++pk e ((c::r).take (cr (c::r))),(p:Int),(cr (c::r):Int),e,()):By×Unit×By×Int×Int×EnT×Unit)) ?_ (.of fun F=>by simp only[hw]);refine ae.pos (by simp only[n37,adg Ja]) ?_;refine ae.bind (.of fun F=>UW) ?_;refine ae.bind hgt ?_;refine ae.bind (r:=((s,(),out++pk e ((c::r).take (cr (c::r))),(p:Int),(cr (c::r):Int),e,()):By×Unit×By×Int×Int×EnT×Unit)) (ae.bind (.of fun F=>by simp only[hw]; exact Xh) ?_) (.ret _);refine ae.bind hvt ?_;exact ae.pos (by rw[ac9]; simp only; omega) (.ret _)
  ·rw[if_neg Ja] at ht
   obtain ⟨m',hm,rfl⟩:=Option.map_eq_some_iff.1 ht;have Aw:sub s (p:Int) ((p+1:Nat):Int)=some [c]:=Oo 1 (by omega);rw[uH,if_neg adj,<-List.append_assoc];refine ag.step (x':=(s,(),out++[c],((p+1:Nat):Int),e,())) (.of fun F => ?_) (ih1 (out++[c]) m' (by rw[adf,List.length_singleton]; omega) hm);unfold cG;rw[if_pos (by rw[ac9]; simp only; omega)];simp only[yn,ada,n37,adh Ja,ade,if_false,UZ,Aw];rw[if_pos (by rw[ac9]; simp only[List.length_singleton]; omega)];simp only[ada,UZ]
theorem AJ (l:List Int) (hl:l.length<=1000000) (zI:∀ n∈l,∃ c:Nat,n=(c:Int)/\okR c):∀ (n i:Nat) (acc:By),i+n=l.length->acc.length<=40->ag dQ (acc,l,(i:Int),()) (Ib (l.drop i) acc,())
 | 0,i,acc,h,ha=>by
  refine ag.fin (.of fun F => ?_);unfold dQ;rw[if_neg (by rw[ac9]; simp only; omega),List.drop_eq_nil_of_le (by omega)];rfl
 | n+1,i,acc,h,ha=>by
  have hi:i<l.length:=by omega
  have yn:idx l (i:Int)=some l[i]:=bU _ _ _ (adl hi);have hw:IntKind.i64.wrap ((i:Int)+1)=((i+1:Nat):Int):=by rw[wrap64 _ (by omega) (by omega)]; omega
  have ih:=fun acc=>AJ l hl zI n (i+1) acc (by omega)
  obtain ⟨c,hc,hco⟩:=zI l[i] (List.getElem_mem hi);rw[ado hi];rw[hc] at yn ⊢
  have hb:=fun F=>ub F c hco
  rw[k6 c hco] at hb;unfold Ib;rw[Int.toNat_natCast];have u7:(if bw (c:Int)=0 then [63] else bR c:By).length<=4:=by
   split
   ·exact Nat.le_of_ble_eq_true rfl
   ·exact qs _
  have cO:∀ F,dQ F (acc,l,(i:Int),())=if decide (40<IntKind.i64.wrap ((acc.length:Int)+((if bw (c:Int)=0 then [63] else bR c:By).length:Int)))=true then some (Sum.inr (acc,())) else if decide (acc.length+(if bw (c:Int)=0 then [63] else bR c:By).length<=9223372036854775807)=true then some (Sum.inl (acc++(if bw (c:Int)=0 then [63] else bR c),l,IntKind.i64.wrap ((i:Int)+1),())) else none:=by
   intro F;unfold dQ;rw[if_pos (by rw[ac9]; simp only; omega)];simp only[yn,ada,kx];by_cases h0:bw (c:Int)=0
   ·rw[if_pos h0,if_neg (by rw[adg h0]; decide)]
    rfl
   ·rw[if_neg h0,if_pos (by rw[adh h0]; rfl),hb]
    rfl
  generalize (if bw (c:Int)=0 then [63] else bR c:By)=w at u7 cO;have YK:IntKind.i64.wrap ((acc.length:Int)+(w.length:Int))=((acc.length+w.length:Nat):Int):=by rw[wrap64 _ (by omega) (by omega)]; omega
  by_cases WN:40<acc.length+w.length
  ·rw[if_pos WN]
   refine ag.fin (.of fun F=>(cO F).trans ?_);rw[YK,if_pos (by rw[ac9]; omega)]
  ·rw[if_neg WN]
   refine ag.step (.of fun F=>(cO F).trans ?_) (ih (acc++w) (by rw[adf]; omega));rw[YK,if_neg (by rw[ac9]; omega),if_pos (by rw[ac9]; omega),hw]
theorem Ny:∀ s:By,∀ n∈(bF s).map (·.1),∃ c:Nat,n=(c:Int)/\okR c:=by
 refine DX ?_ ?_
 ·rw[fu]; intro n hn; cases hn
 ·intro l h ih n hn
  rw[hQ h,List.map_cons] at hn;rcases List.mem_cons.1 hn with rfl | hn
  ·exact ⟨_,rfl,pG l⟩
  ·exact ih n hn
theorem N8 (val:By->By) (l:List Pc) (h:∀ p∈l,(if p.1=true then val p.2.1 else p.2.1).length<=1000):(kg val l).length<=1000*l.length:=by
 induction l with
 | nil=>exact Nat.zero_le _
 | cons p l ih =>
  have h1:=h p (adn ..);have h2:=ih fun q hq=>h q (adm _ hq)
  rw[uH,adf,adb];omega
theorem Qh (s:By) (e:EnT) (hs:s.length<=1000) (he:e.key.length<=1000/\e.method.length<=1000/\e.path.length<=1000/\e.body.length<=1000):ae (fun F=>gF F (s,e)) (tH s e):=by
 unfold gF tH;refine ae.bind (Dx s hs) ?_;unfold tW;by_cases h6:60<s.length
 ·rw[if_pos h6,adh (by omega)]
  exact ae.pos rfl (.ret _)
 rw[if_neg h6,adg (by omega)];have h:=Af s.length s (Nat.le_refl _);cases hc:oM s with
 | none=>exact ae.pos rfl (.ret _)
 | some l =>
  rw[hc] at h;obtain ⟨h1,m,h2,_,h4⟩:=h;obtain ⟨g1,g2⟩:=xx s.length s (Nat.le_refl _) l hc;refine ae.neg (by show ¬ (!true)=true; decide) ?_;have hl:=HL s hs e he s.length 0 [] m (by omega) (by omega) (by simp) (by rw[List.drop_zero]; exact h2);rw[List.nil_append,<-h4] at hl;refine ae.bind hl.run ?_;have Mk:=N8 (pk e) l fun p hp=>by
   split
   ·exact Cg e _ he
   ·have:=(g2 p hp).2; omega
  have UQ:=ql (kg (pk e) l);refine ae.bind (mQ (kg (pk e) l) (by omega)) ?_;have ho:=AJ ((bF (kg (pk e) l)).map (·.1)) (by rw[List.length_map]; omega) (Ny _) ((bF (kg (pk e) l)).map (·.1)).length 0 [] (by omega) (by decide);rw[List.drop_zero] at ho;exact ae.bind ho.run (.ret _)
end Go.Vm
namespace Go.Vm
open Go.Proofs
abbrev DoT:=Int×Int×By×Int×By×Int×Int×Int×By×By×Unit
abbrev zDo:DoT:=(0,0,[],0,[],0,0,0,[],[],())
abbrev Y9:By:=[114,101,102,117,115,101,100,32]
abbrev EnT.pt (e:EnT):Int:=e.2.2.2.2.2.1
abbrev EnT.tk (e:EnT):Int:=e.2.2.2.2.1
abbrev EnT.ep (e:EnT):Int:=e.2.2.2.1
def Dz (s:By) (n:Int):Bool:=decide (((bF s).length:Int)<=n)&&((bF s).map (·.1)).all fun x=>decide (1<=bw x/\bw x<=3)
def BW (body name:By) (n:Int):Bool:=(firstM name (ly (vP body))).2&&(decide (pI (vP (firstM name (ly (vP body))).1)=3)&&(decide (1<=Bi (vP (firstM name (ly (vP body))).1))&&decide (Bi (vP (firstM name (ly (vP body))).1)<=n)))
def Ek (ok:Bool) (why:By):DoT:=if ok=true then (1,0,[],0,[],0,0,0,[],[],()) else (2,402,Y9++why,0,[],0,0,0,[],[],())
def doT (x:PhT) (e:EnT):DoT :=
 if x.1=1 then Ek (Dz e.body x.2.2.1) Ut
 else if x.1=2 then Ek (BW e.body x.2.1 x.2.2.1) (Uu++32::x.2.1)
 else if x.1=3 then (3,0,[],e.1,e.key,e.ep,e.pt,e.tk,x.2.1,tH x.2.2.2.1 e,())
 else (2,x.2.2.1,tH x.2.2.2.1 e,0,[],0,0,0,[],[],())
def nC (p:List PhT) (e:EnT):DoT×Int :=
 if zP p=false then (zDo,1) else if e.pt<0\/(p.length:Int)<=e.pt then (zDo,6) else
 match p[e.pt.toNat]? with
 | none=>(zDo,6)
 | some x=>(doT x e,0)
def iL (p:List PhT) (n:Nat):Nat:=((p.take n).filter fun x=>decide (x.1=3)).length
def pS (p:List PhT) (point:Int):Int:=(iL p point.toNat:Nat)
theorem zq {p:List PhT} {n:Nat} {x:PhT} (h:p[n]? = some x):iL p (n+1)=iL p n+if x.1=3 then 1 else 0:=by
 unfold iL;rw[List.take_add_one,h,List.filter_append,adf];congr 1;by_cases c:x.1=3 <;> simp[c]
theorem Ez (p:List PhT) (n:Nat):iL p n<=p.length:=by
 unfold iL;have h1:=List.length_filter_le (fun x:PhT=>decide (x.1=3)) (p.take n);rw[List.length_take] at h1;omega
theorem BD {p:List PhT} {n:Nat} (h:p.length<=n):iL p n=iL p p.length:=by
 unfold iL;rw[List.take_of_length_le h,List.take_of_length_le (Nat.le_refl _)]
end Go.Vm
namespace Go.Vm
open Go.Proofs
abbrev JbT:=Int×Int×Int×By×Int×Int×Bool×Int×Unit
abbrev RpT:=Int×By×Int×Int×Int×Int×Unit
abbrev AnT:=Int×Int×Int×By×Int×Int×Unit
abbrev CaT:=Int×By×Int×Int×Int×By×By×Unit
abbrev PlT:=Int×Int×By×Int×Int×Int×Int×By×Int×Int×Int×By×By×By×By×Int×By×Int×Int×Int×By×By×Int×Int×Int×By×Int×Int×Unit
abbrev zCa:CaT:=(0,[],0,0,0,[],[],())
abbrev zAn:AnT:=(0,0,0,[],0,0,())
def MM (k:Int) (e:Ent) (c:CaT) (a:AnT):PlT :=
 (k,e.te,e.key,e.st,e.ep,e.tk,e.pt,e.pr,e.le,e.ex,e.su,e.tx,e.me,e.pa,e.bo,c.1,c.2.1,c.2.2.1,c.2.2.2.1,c.2.2.2.2.1,c.2.2.2.2.2.1,c.2.2.2.2.2.2.1,a.1,a.2.1,a.2.2.1,a.2.2.2.1,a.2.2.2.2.1,a.2.2.2.2.2.1,())
abbrev zPl:PlT:=MM 0 Ent.zero zCa zAn
abbrev JbT.cl (j:JbT):Int:=j.1
abbrev JbT.se (j:JbT):Int:=j.2.1
abbrev JbT.te (j:JbT):Int:=j.2.2.1
abbrev JbT.ky (j:JbT):By:=j.2.2.2.1
abbrev JbT.eo (j:JbT):Int:=j.2.2.2.2.1
abbrev JbT.to (j:JbT):Int:=j.2.2.2.2.2.1
abbrev JbT.wa (j:JbT):Bool:=j.2.2.2.2.2.2.1
abbrev JbT.ph (j:JbT):Int:=j.2.2.2.2.2.2.2.1
abbrev RpT.code (r:RpT):Int:=r.2.2.2.2.2.1
def XK (j:JbT) (e:Ent):Bool:=decide (j.te=e.te)&&(decide (j.ky=e.key)&&(decide (j.eo=e.ep)&&decide (j.to=e.tk)))
def vL (j:JbT) (e:Ent) (now:Int):Bool:=XK j e&&vz e now
def tZ (j:JbT) (r:RpT):Bool:=j.wa&&(decide (j.te=r.1)&&(decide (j.ky=r.2.1)&&(decide (j.eo=r.2.2.1)&&(decide (j.ph=r.2.2.2.1)&&decide (j.to=r.2.2.2.2.1)))))
def tq (j:JbT):AnT:=(j.cl,j.se,503,[],1,0,())
def AL (j:JbT):PlT:=MM 1 Ent.zero zCa (tq j)
def vZ (j:JbT) (k:Int) (x:Ent×Int) (a:AnT):PlT:=if x.2=0 then MM k x.1 zCa a else AL j
abbrev DoT.ca (d:DoT):CaT:=d.2.2.2
def xl (j:JbT) (e:Ent) (p:List PhT) (now:Int) (c:CfT):PlT :=
 if vL j e now=false then AL j else if j.wa=true then zPl
 else if (nC p e.t).2≠0 then AL j
 else if (nC p e.t).1.1=3 then MM 2 Ent.zero (nC p e.t).1.ca zAn
 else if (nC p e.t).1.1=1 then vZ j 3 (nK e j.to now c) zAn
 else vZ j 4 (vm e j.to (nC p e.t).1.2.1 (nC p e.t).1.2.2.1 now c) (j.cl,j.se,(nC p e.t).1.2.1,(nC p e.t).1.2.2.1,0,e.ep,())
def IE (j:JbT) (e:Ent) (p:List PhT) (r:RpT) (now:Int) (c:CfT):PlT :=
 if tZ j r=false\/r.code<1\/3<r.code then zPl else if vL j e now=false then AL j
 else if r.code=1 then vZ j 3 (nK e j.to now c) zAn
 else if r.code=2/\pS p e.pt=0 then vZ j 4 (sa e j.to) (tq j)
 else vZ j 4 (yR e j.to now) (tq j)
end Go.Vm
namespace Go.Vm
open Go.Proofs
theorem kI (F:Nat) (n lo hi:Int) (h:lo<=hi):eO F (n,lo,hi)=some (brT n lo hi):=by
 unfold eO brT;by_cases h1:n<lo
 ·have h2:¬ hi<lo:=by omega
  simp[h1,h2]
 ·simp[h1]
theorem Iz (F:Nat) (n lo hi:Int):bm F (n,lo,hi)=some (brT n lo hi):=by
 unfold bm brT;by_cases h1:n<lo
 ·simp[h1]
 ·by_cases h2:hi<n <;> simp[h1,h2]
theorem vY (F:Nat) (n:Int):kC F n=some (ze n):=by
 unfold kC;rw[kI F n 0 1099511627776 (by decide)];rfl
theorem Bg (F:Nat) (n:Int):cJ F n=some (ze n):=by
 unfold cJ;rw[Iz];rfl
theorem VU {n lo hi:Int} (h1:lo<=n) (h2:n<=hi):brT n lo hi=n:=by
 unfold brT;rw[if_neg (by omega),if_neg (by omega)]
theorem L7 (F:Nat) (now s:Int) (h:1<=s/\s<=1073741824):oR F (now,s)=some (tL now s):=by
 unfold oR;have e:oi F s=some s:=by
  unfold oi;rw[kI F s 0 1073741824 (by decide),VU (by omega) (by omega)];rfl
 have ht:=Hq now;simp only[vY,e,ada];rw[wrap64 _ (by omega) (by omega)];rfl
theorem IB (F:Nat) (now s:Int) (h:1<=s/\s<=1073741824):eQ F (now,s)=some (tL now s):=by
 unfold eQ;have ht:=Hq now;simp only[Bg,ada];rw[wrap64 _ (by omega) (by omega)];rfl
def cfg (c:CfT):CfT:=(brT c.1 1 4,uu c,Ba c,brT c.2.2.2.1 1 200,brT c.2.2.2.2.1 500 20000,brT c.2.2.2.2.2.1 1000 60000,())
theorem EI (F:Nat) (c:CfT):kU F c=some (cfg c):=by
 unfold kU;rw[kI F c.1 1 4 (by decide),kI F c.2.1 1 1073741824 (by decide),kI F c.2.2.1 1 1073741824 (by decide),kI F c.2.2.2.1 1 200 (by decide),kI F c.2.2.2.2.1 500 20000 (by decide),kI F c.2.2.2.2.2.1 1000 60000 (by decide)];rfl
theorem BG (F:Nat) (c:CfT):eC F c=some (cfg c):=by
 unfold eC;simp only[Iz];rfl
theorem TJ (F:Nat) (e:Ent) (now:Int):om F (e.t,now)=some (vz e now):=by
 unfold om vz;simp only[Ent.t,vY];by_cases h:e.st=1
 ·simp[h]
  rfl
 ·simp[h]
theorem QA (F:Nat) (e:Ent) (now:Int):gK F (e.t,now)=some (vz e now):=by
 unfold gK vz;simp only[Ent.t,Bg];by_cases h:e.st=1
 ·simp[h]
  rfl
 ·simp[h]
theorem xA (F:Nat) (e:Ent) (tok:Int) (hm:dJ F e.t=some (iC e)):ib F (e.t,tok)=some (okP e tok):=by
 have h1:pE F e.t=some (decide (e.st=1)&&iC e):=by
  unfold pE;have e1:e.t.2.2.1=e.st:=rfl;simp only[hm,e1];by_cases h:e.st=1 <;> simp[h]
 unfold ib okP;have e2:e.t.2.2.2.2.1=e.tk:=rfl;simp only[h1,ada,e2];cases (decide (e.st=1)&&iC e) with
 | true=>by_cases h:e.tk=tok <;> simp[h]
 | false=>simp
theorem xS (F:Nat) (e:Ent) (tok:Int) (hm:aT F e.t=some (iC e)):cW F (e.t,tok)=some (okP e tok):=by
 unfold cW okP;have e1:e.t.2.2.1=e.st:=rfl;have e2:e.t.2.2.2.2.1=e.tk:=rfl;simp only[hm,e1];by_cases h:e.st=1
 ·cases iC e with
  | true=>by_cases h2:e.tk=tok <;> simp[h,h2,e2]
  | false=>simp[h]
 ·simp[h]
theorem LA {e:Ent} (h:iC e=true):0<=e.pt/\e.pt<=5:=by
 unfold iC Bc at h;simp only[adi,ac9] at h;omega
theorem Su (F:Nat) (e:Ent) (tok now:Int) (c:CfT) (hm:dJ F e.t=some (iC e)):jH F (e.t,tok,now,c)=some ((nK e tok now c).1.t,(nK e tok now c).2):=by
 unfold jH nK;simp only[xA F e tok hm,ada,EI];by_cases h:okP e tok=0
 ·rw[if_pos h,if_neg (by simp[h])]
  have hb:=LA (Ck h).2.1;have e1:e.t.2.2.2.2.2.1=e.pt:=rfl;by_cases h5:e.pt=5
  ·rw[if_pos h5,if_pos (by rw[e1]; exact adg h5)]
   rfl
  ·rw[if_neg h5,if_neg (by rw[e1,ac9]; exact h5),e1]
   have hp:=L7 F now (uu c) (Ec c);have e2:(cfg c).2.1=uu c:=rfl;rw[e2,hp,wrap64 _ (by omega) (by omega)];rfl
 ·rw[if_neg h,if_pos (by simp[h])]
  rfl
theorem Qo (F:Nat) (e:Ent) (tok now:Int) (c:CfT) (hm:aT F e.t=some (iC e)):dM F (e.t,tok,now,c)=some ((nK e tok now c).1.t,(nK e tok now c).2):=by
 unfold dM nK;simp only[xS F e tok hm,ada];have e1:e.t.2.2.2.2.2.1=e.pt:=rfl;by_cases h:okP e tok=0
 ·rw[if_pos h,if_pos (adg h),ada]
  have hb:=LA (Ck h).2.1;by_cases h5:e.pt=5
  ·rw[if_pos h5,if_pos (by show decide (e.pt=5)=true; exact adg h5),ada]
   rfl
  ·rw[if_neg h5,if_neg (by show ¬ decide (e.pt=5)=true; rw[ac9]; exact h5),ada,if_neg (by simp[h])]
   have hp:=IB F now (uu c) (Ec c);have e2:(cfg c).2.1=uu c:=rfl;simp only[BG,ada];rw[e2,hp,ada,e1,wrap64 _ (by omega) (by omega)];rfl
 ·rw[if_neg h,if_neg (by rw[ac9]; exact h),ada,if_neg adj,ada,if_pos (by simp[h])]
  rfl
def jd (e:Ent) (status:Int) (text:B8) (now:Int) (c:CfT):Ent:={ zg e 2 with su:=status,tx:=text,ex:=tL now (Ba c) }
theorem MA (F:Nat) (e:Ent) (tok status:Int) (text:B8) (now:Int) (c:CfT) (hm:dJ F e.t=some (iC e)) (RN:dJ F (jd e status text now c).t=some (iC (jd e status text now c))) :
  jj F (e.t,tok,status,text,now,c)=some ((vm e tok status text now c).1.t,(vm e tok status text now c).2):=by
 unfold jj vm;simp only[xA F e tok hm,ada,EI];by_cases h:okP e tok=0
 ·rw[if_pos h,if_neg (by simp[h])]
  have ho:od F (e.t,2)=some (zg e 2).t:=rfl;have hp:=L7 F now (Ba c) (LZ c);have e2:(cfg c).2.2.1=Ba c:=rfl;rw[ho,ada,e2,hp,ada,ada];show ((dJ F (jd e status text now c).t).bind fun v5=>if (!v5)=true then some (Ent.zero.t,1) else some ((jd e status text now c).t,0)) = _;rw[RN,ada];show _=some ((if iC (jd e status text now c)=true then (jd e status text now c,0) else (Ent.zero,1):Ent×Int).1.t,(if iC (jd e status text now c)=true then (jd e status text now c,0) else (Ent.zero,1):Ent×Int).2);cases iC (jd e status text now c) <;> rfl
 ·rw[if_neg h,if_pos (by simp[h])]
  rfl
theorem Ki (F:Nat) (e:Ent) (tok status:Int) (text:B8) (now:Int) (c:CfT) (hm:aT F e.t=some (iC e)) (RN:aT F (jd e status text now c).t=some (iC (jd e status text now c))) :
  eD F (e.t,tok,status,text,now,c)=some ((vm e tok status text now c).1.t,(vm e tok status text now c).2):=by
 unfold eD vm;simp only[xS F e tok hm,ada,BG];by_cases h:okP e tok=0
 ·rw[if_pos h,if_neg (by simp[h])]
  have hp:=IB F now (Ba c) (LZ c);have e2:(cfg c).2.2.1=Ba c:=rfl;rw[e2,hp,ada];show ((aT F (jd e status text now c).t).bind fun v5=>if (!v5)=true then some (Ent.zero.t,1) else some ((jd e status text now c).t,0)) = _;rw[RN,ada];show _=some ((if iC (jd e status text now c)=true then (jd e status text now c,0) else (Ent.zero,1):Ent×Int).1.t,(if iC (jd e status text now c)=true then (jd e status text now c,0) else (Ent.zero,1):Ent×Int).2);cases iC (jd e status text now c) <;> rfl
 ·rw[if_neg h,if_pos (by simp[h])]
  rfl
theorem PA (F:Nat) (e:Ent) (tok:Int) (hm:dJ F e.t=some (iC e)):lC F (e.t,tok)=some ((sa e tok).1.t,(sa e tok).2):=by
 unfold lC sa;simp only[xA F e tok hm,ada];by_cases h:okP e tok=0
 ·rw[if_pos h,if_neg (by simp[h])]
  rfl
 ·rw[if_neg h,if_pos (by simp[h])]
  rfl
theorem NK (F:Nat) (e:Ent) (tok:Int) (hm:aT F e.t=some (iC e)):fc F (e.t,tok)=some ((sa e tok).1.t,(sa e tok).2):=by
 unfold fc sa;simp only[xS F e tok hm,ada];by_cases h:okP e tok=0
 ·rw[if_pos h,if_neg (by simp[h])]
  obtain ⟨h1,h2,_⟩:=Ck h;obtain ⟨h3,h4,_⟩:=P8 h1 h2;show _=some ((zg e 3).t,0);unfold zg Ent.t;simp only[h3,h4]
 ·rw[if_neg h,if_pos (by simp[h])]
  rfl
theorem KF (F:Nat) (e:Ent) (tok now:Int) (hm:dJ F e.t=some (iC e)):iO F (e.t,tok,now)=some ((yR e tok now).1.t,(yR e tok now).2):=by
 unfold iO yR;simp only[xA F e tok hm,ada,vY];by_cases h:okP e tok=0
 ·rw[if_pos h,if_neg (by simp[h])]
  rfl
 ·rw[if_neg h,if_pos (by simp[h])]
  rfl
theorem Hw (F:Nat) (e:Ent) (tok now:Int) (hm:aT F e.t=some (iC e)):dT F (e.t,tok,now)=some ((yR e tok now).1.t,(yR e tok now).2):=by
 unfold dT yR;simp only[xS F e tok hm,ada,Bg];by_cases h:okP e tok=0
 ·rw[if_pos h,if_neg (by simp[h])]
  rfl
 ·rw[if_neg h,if_pos (by simp[h])]
  rfl
end Go.Vm
