import Derived.Test.YtihpjgcbmipdbaaGreatDoorFjsort
import Derived.Test.YtihpjgcbmipdbaaGreatDoorPj8
set_option linter.unusedVariables false
set_option linter.unusedSimpArgs false
namespace Go.Vm
open Go.Lib (decodeL decodeN decodeL_N decode_N decodeN_shape decodeL_le decNat decFrom digitVal atoi)
theorem xo {c:UInt8} {n:Nat} (h:pf c=some n):c.toNat<128:=by
 unfold pf at h
 repeat' split at h
 all_goals first | (cases h; done) | omega
theorem IP {s:By} {n:Nat} (h:qy s=some n):∀ j,j<4 -> ∃ c,s[j]? = some c/\c.toNat<128:=by
 unfold qy at h;split at h
 ·obtain ⟨a,ha,h⟩:=adk.1 h
  obtain ⟨b,hb,h⟩:=adk.1 h;obtain ⟨c,hc,h⟩:=adk.1 h;obtain ⟨d,hd,h⟩:=adk.1 h;intro j hj
  match j,hj with
  | 0,_=>exact ⟨_,rfl,xo ha⟩
  | 1,_=>exact ⟨_,rfl,xo hb⟩
  | 2,_=>exact ⟨_,rfl,xo hc⟩
  | 3,_=>exact ⟨_,rfl,xo hd⟩
 ·cases h
theorem QL {n c k:Nat} {r:By} (h:yG n r=some (c,k)):k=12 /\ ∀ j,j<6 -> ∃ c,r[j]? = some c/\c.toNat<128:=by
 unfold yG at h;split at h
 ·rename_i q
  obtain ⟨m,hm,h⟩:=adk.1 h;have h3:=IP hm;by_cases hc:56320<=m/\m<=57343
  ·rw[if_pos hc] at h
   injection h with h
   injection h with h4 h5
   refine ⟨h5.symm,fun j hj => ?_⟩
   match j,hj with
   | 0,_=>exact ⟨_,rfl,by decide⟩
   | 1,_=>exact ⟨_,rfl,by decide⟩
   | j+2,hj=>exact h3 j (by omega)
  ·rw[if_neg hc] at h; cases h
 ·cases h
theorem Qm {r:By} {c k:Nat} (h:zY r=some (c,k)):∀ j,j+2<k -> ∃ c,r[j]? = some c/\c.toNat<128:=by
 unfold zY at h;obtain ⟨n,hn,h⟩:=adk.1 h;have h1:=IP hn;by_cases c1:n<55296\/57343<n
 ·rw[if_pos c1] at h
  injection h with h
  injection h with h2 h3
  intro j hj;exact h1 j (by omega)
 rw[if_neg c1] at h;by_cases c2:56320<=n
 ·rw[if_pos c2] at h; cases h
 rw[if_neg c2] at h;obtain ⟨q1,q2⟩:=QL h;intro j hj;by_cases hj4:j<4
 ·exact h1 j hj4
 ·obtain ⟨c,h5,h6⟩:=q2 (j-4) (by omega)
  rw[List.getElem?_drop,show 4+(j-4)=j by omega] at h5;exact ⟨c,h5,h6⟩
theorem Qt {s:By} {c k:Nat} (h:sD s=some (c,k)):∀ j,j+1<k -> ∃ c,s[j]? = some c/\c.toNat<128:=by
 have two:∀ (x:UInt8) (r:By),x.toNat<128->k=2 -> ∀ j,j+1<k -> ∃ c,(x::r)[j]? = some c/\c.toNat<128:=by
  intro x r hx hk j hj;have:j=0:=by omega
  subst this;exact ⟨x,rfl,hx⟩
 unfold sD at h;split at h
 ·cases h
 ·rename_i x r
  by_cases h1:x=34\/x=92\/x=47
  ·rw[if_pos h1] at h
   injection h with h; injection h with _ h
   exact two x r (by rcases h1 with rfl | rfl | rfl <;> decide) h.symm
  rw[if_neg h1] at h;by_cases h2:x=98
  ·rw[if_pos h2] at h; injection h with h; injection h with _ h; exact two x r (by rw[h2]; decide) h.symm
  rw[if_neg h2] at h;by_cases h3:x=102
  ·rw[if_pos h3] at h; injection h with h; injection h with _ h; exact two x r (by rw[h3]; decide) h.symm
  rw[if_neg h3] at h;by_cases h4:x=110
  ·rw[if_pos h4] at h; injection h with h; injection h with _ h; exact two x r (by rw[h4]; decide) h.symm
  rw[if_neg h4] at h;by_cases h5:x=114
  ·rw[if_pos h5] at h; injection h with h; injection h with _ h; exact two x r (by rw[h5]; decide) h.symm
  rw[if_neg h5] at h;by_cases h6:x=116
  ·rw[if_pos h6] at h; injection h with h; injection h with _ h; exact two x r (by rw[h6]; decide) h.symm
  rw[if_neg h6] at h;by_cases h7:x=117
  ·rw[if_pos h7] at h
   intro j hj;cases j with
   | zero=>exact ⟨x,rfl,by rw[h7]; decide⟩
   | succ j=>exact Qm h j (by omega)
  ·rw[if_neg h7] at h; cases h
theorem xN {c:UInt8} (q:By) (h:c.toNat<128):decodeL (c::q)=(c.toNat,1):=by
 rw[decodeL_N];unfold decodeN;simp only[List.getD_cons_zero];rw[if_pos h]
theorem Lo {c:UInt8} (q:By) (h:¬ c.toNat<128):128<=(decodeL (c::q)).1:=by
 rw[decodeL_N];rcases decodeN_shape (c::q).length ((c::q).getD 0 0).toNat ((c::q).getD 1 0).toNat ((c::q).getD 2 0).toNat ((c::q).getD 3 0).toNat with ⟨h0,e⟩ | ⟨_,_,_,h1,e⟩ | ⟨_,_,_,_,h1,_,e⟩ | ⟨_,_,_,_,_,h1,_,e⟩ | e
 ·exact absurd h0 h
 ·rw[e]; exact h1
 ·rw[e]; exact Nat.le_trans (by decide) h1
 ·rw[e]; exact Nat.le_trans (by decide) h1
 ·rw[e]; exact (by decide:128<=65533)
theorem qn (F c:Nat) (h:okR c):bL F (c:Int)=some ((bR c).length:Int):=by
 obtain ⟨h1,h2⟩:=h;have gen:∀ (A B C D E:Int) (n:Int),(if decide (n<0)=true then some (-1) else if decide (n<=A)=true then some 1 else if decide (n<=B)=true then some 2 else (if decide (C<=n)=true then some (n,decide (n<=D),()) else some (n,false,()):Option (Int×Bool×Unit)).bind fun v0=>if v0.2.1=true then some (-1) else if decide (v0.1<=E)=true then some 3 else if decide (v0.1<=1114111)=true then some 4 else some (-1:Int)) =
   if n<0 then some (-1) else if n<=A then some 1 else if n<=B then some 2 else if C<=n/\n<=D then some (-1) else if n<=E then some 3 else if n<=1114111 then some 4 else some (-1):=by
  intro A B C D E n;by_cases q1:n<0 <;> by_cases q2:n<=A <;> by_cases q3:n<=B <;> by_cases q4:C<=n <;> by_cases q5:n<=D <;> by_cases q6:n<=E <;> simp only[q1,q2,q3,q4,q5,q6,decide_true,decide_false,if_true,if_false,ade,ada,and_self,and_true,and_false,false_and,true_and,ac9]
 refine (gen 127 2047 55296 57343 65535 (c:Int)).trans ?_;rw[if_neg (by omega)];unfold bR;by_cases c1:c<128
 ·rw[if_pos (by omega),if_pos c1]; rfl
 rw[if_neg (by omega),if_neg c1];by_cases c2:c<2048
 ·rw[if_pos (by omega),if_pos c2]; rfl
 rw[if_neg (by omega),if_neg c2,if_neg (by omega)];by_cases c3:c<65536
 ·rw[if_pos (by omega),if_pos c3]; rfl
 rw[if_neg (by omega),if_neg c3,if_pos (by omega)]; rfl
theorem Y8 (q:By) (iv:q ≠ []) (h:(decodeL q).1=65533):decide (q.take 3=[239,191,189]) = !decide ((decodeL q).2=1):=by
 have e:bR 65533=[239,191,189]:=by decide
 by_cases h1:(decodeL q).2=1
 ·have:¬ q.take 3=[239,191,189]:=by
   intro hh;have hq:q=bR 65533++q.drop 3:=by rw[e,<-hh,List.take_append_drop]
   have:=BP 65533 (by decide) (q.drop 3);rw[<-hq] at this;rw[this] at h1;exact absurd h1 (by decide)
  rw[adh this,adg h1]; rfl
 ·have ht:=jK q iv (fun hh=>h1 hh.2)
  rw[h,e] at ht;have hl:=congrArg List.length ht;have hle:=decodeL_le q iv;rw[List.length_take,Nat.min_eq_left hle] at hl;rw[hl] at ht;rw[adg (show q.take 3=[239,191,189] from ht),adh h1]; rfl
abbrev TS:=Unit×By×Unit×Int×Unit×(By×Nat)×RS×acX×By×Unit
def tS (R:By) (b:Int) (i:Nat) (rs:RS) (out:By):TS:=((),R,(),b,(),(R,i),rs,((),(),()),out,())
abbrev TY:=Unit×RS×Unit ⊕ Unit×By×RS×Unit
def tR (s:By) (a:Int) (k e:Int) (out q:By):TY:=match txt q with
 | some (t,q') => .inr ((),out++t,st s q' k e,())
 | none => .inl ((),(s,a,k,e,()),())
theorem M8 (F:Nat) (R:By) (b:Int) (i:Nat) (s:By) (a k e:Int) (out:By) (h1:i<R.length) (h2:(i:Int)<b):aB F (tS R b i (s,a,k,e,()) out)=some (.inl (tS R b (i+runeLen R i) (s,a,k,e,()) out)):=by
 unfold aB tS;simp only[h1,h2,decide_true,if_true]
theorem CE (R:By) (s:By) (a k e:Int) (out:By) (y:TY):∀ (n i:Nat),i+n<=R.length->(∀ j,i<=j->j<i+n -> ∃ c,R[j]? = some c/\c.toNat<128)->ag aB (tS R ((i+n:Nat):Int) (i+n) (s,a,k,e,()) out) y->ag aB (tS R ((i+n:Nat):Int) i (s,a,k,e,()) out) y
 | 0,i,_,_,h=>h
 | n+1,i,hl,ha,h=>by
  have ih:=CE R s a k e out y n (i+1) (by omega) (fun j h1 h2=>ha j (by omega) (by omega)) (by rw[show i+1+n=i+(n+1) by omega]; exact h);rw[show i+1+n=i+(n+1) by omega] at ih;refine ag.step (.of fun F=>M8 F R _ i s a k e out (by omega) (by omega)) ?_;obtain ⟨c,hc,Dq⟩:=ha i (Nat.le_refl _) (by omega);have hd:R.drop i=c::R.drop (i+1):=by
   obtain ⟨h5,h6⟩:=List.getElem?_eq_some_iff.1 hc;rw[ado h5,h6]
  rw[gu,hd,xN _ Dq];exact ih
theorem Nh (s R:By) (hR:R <:+ s) (hs:s.length<=1000) (k e:Int) (a:Nat) (ha:s.length=R.length+a+1) :
  ∀ (n i:Nat) (out:By),R.length-i<=n->i<=R.length->out.length<=4*i->ag aB (tS R (i:Int) i (s,(a:Int),k,e,()) out) (tR s a k e out (R.drop i)):=by
 intro n;induction n with
 | zero =>
  intro i out hn hi ho;have:i=R.length:=by omega
  subst this;refine ag.fin (.of fun F => ?_);unfold aB tS tR;rw[List.drop_length,xh];simp
 | succ n ih =>
  intro i out hn hi ho;by_cases aH:i<R.length
  case neg =>
   have:i=R.length:=by omega
   subst this;refine ag.fin (.of fun F => ?_);unfold aB tS tR;rw[List.drop_length,xh];simp
  obtain ⟨c,q,hq⟩:∃ c q,R.drop i=c::q:=⟨_,_,ado aH⟩
  have hql:q.length+1=R.length-i:=by have:=congrArg List.length hq; simp at this; omega
  have Je:c::q <:+ s:=hq ▸ (List.drop_suffix i R).trans hR;have CN:¬ (i:Int)<(i:Int):=by omega
  have I8:cT R i=((decodeL (c::q)).1:Int):=by rw[jI,hq]
  have Dp:runeLen R i=(decodeL (c::q)).2:=by rw[gu,hq]
  have zI:=pG (c::q);have jf:sub R (i:Int) (R.length:Int)=some (c::q):=by rw[hZ R i hi,hq]
  rw[hq];by_cases c1:c=34
  ·subst c1
   have hd:=xN (c:=34) q (by decide);refine ag.fin (.of fun F => ?_);unfold tR;rw[lv,if_pos rfl];unfold aB tS;have hv:cT R i=34:=by rw[I8,hd]; rfl
   have OB:=qn F 34 (by decide);have T8:bL F 34=some ((bR 34).length:Int):=OB;simp only[aH,decide_true,if_true,CN,decide_false,ade,if_false,hv,T8,ada,bO,bd,List.append_nil];have hp:IntKind.i64.wrap ((a:Int)+IntKind.i64.wrap ((i:Int)+2))=((s.length-q.length:Nat):Int):=by
    rw[wrap64 ((i:Int)+2) (by omega) (by omega),wrap64 _ (by omega) (by omega)];omega
   rw[hp];rfl
  by_cases c2:c=92
  ·subst c2
   have hd:=xN (c:=92) q (by decide);have hv:cT R i=92:=by rw[I8,hd]; rfl
   have hl1:runeLen R i=1:=by rw[Dp,hd]
   have OB:=fun F=>qn F 92 (by decide)
   have T8:∀ F,bL F 92=some ((bR 92).length:Int):=OB
   have CM:=Rn q;unfold Vk at CM;unfold tR;rw[lv,if_neg (by decide),if_pos rfl];cases he:sD q with
   | none =>
    rw[he,kL] at CM;refine ag.fin ?_;unfold aB tS;simp only[aH,decide_true,if_true,CN,decide_false,ade,if_false,hv,T8,ada,jf];have:¬ (92:Int)=34:=by decide
    simp only[this,decide_false,ade,if_false];refine ae.bind (CM.bind (.ret _)) ?_;exact .ret _
   | some x =>
    obtain ⟨n',k'⟩:=x;rw[he,kH] at CM;obtain ⟨q1,q2,q3,q4⟩:=FD he;have aai:=Qt he;have Zu:¬ (k':Int)=0:=by omega
    have hw:∀ F,∃ m,bP F (((),out,()),(n':Int))=some ((m,()),(),out++ru (n':Int),()):=fun F=>Iu F n' q1 out (by omega)
    rw[ada];refine ag.step (x':=tS R ((i+1+(k'-1):Nat):Int) (i+1) (s,(a:Int),k,e,()) (out++bR n')) ?_ ?_
    ·unfold aB tS
     simp only[aH,decide_true,if_true,CN,decide_false,ade,if_false,hv,T8,ada,jf];have:¬ (92:Int)=34:=by decide
     simp only[this,decide_false,ade,if_false];refine ae.bind (CM.bind (.ret _)) ?_;refine .of fun F => ?_
     obtain ⟨m,hm⟩:=hw F;simp only[aA,Zu,decide_false,ade,if_false,hm,ada,hl1,k6 n' q1];rw[wrap64 _ (by omega) (by omega)];congr 7;omega
    ·have YD:=CE R s a k e (out++bR n') (match (txt ((92::q).drop k')).map fun y=>(bR n'++y.1,y.2) with
      | some (t,q') => .inr ((),out++t,st s q' k e,())
      | none => .inl ((),(s,(a:Int),k,e,()),())) (k'-1) (i+1) (by omega) (fun j h1 h2 => ?_) ?_
     ·exact YD
     ·obtain ⟨c,h5,h6⟩:=aai (j-(i+1)) (by omega)
      refine ⟨c,?_,h6⟩;have:(R.drop i)[j-i]? = some c:=by
       rw[hq,show j-i=(j-(i+1))+1 by omega];exact h5
      rw[List.getElem?_drop,show i+(j-i)=j by omega] at this;exact this
     ·have Mm:=qs n'
      have:=ih (i+1+(k'-1)) (out++bR n') (by omega) (by omega) (by rw[adf]; omega);have e1:R.drop (i+1+(k'-1))=(92::q).drop k':=by
       rw[show i+1+(k'-1)=i+k' by omega,<-List.drop_drop,hq]
      rw[e1] at this;unfold tR at this;cases ht:txt ((92::q).drop k') with
      | none=>rw[ht] at this; exact this
      | some y=>rw[ht] at this; simp only[List.append_assoc] at this; exact this
  ·-- a sign
   have uB:=bH (c::q);have hle:=decodeL_le (c::q) (by simp);have n34:¬ ((decodeL (c::q)).1:Int)=34:=by
    by_cases hc:c.toNat<128
    ·rw[xN q hc]
     intro hh;exact c1 (UInt8.toNat_inj.1 (show c.toNat=34 by simp only at hh; omega))
    ·have:=Lo q hc; omega
   have n92:¬ ((decodeL (c::q)).1:Int)=92:=by
    by_cases hc:c.toNat<128
    ·rw[xN q hc]
     intro hh;exact c2 (UInt8.toNat_inj.1 (show c.toNat=92 by simp only at hh; omega))
    ·have:=Lo q hc; omega
   unfold tR;rw[lv,if_neg c1,if_neg c2];have OB:=fun F=>qn F _ zI
   have hw:∀ F,∃ m,bP F (((),out,()),((decodeL (c::q)).1:Int))=some ((m,()),(),out++ru ((decodeL (c::q)).1:Int),()):=fun F=>Iu F _ zI out (by omega)
   rw[k6 _ zI] at hw;have aa3:=xq (decodeL (c::q)).1;have WQ:=Y8 (c::q) (by simp);have aaj:=hle;rw[adb] at aaj;have I9:=jK (c::q) (by simp);generalize hD1:(decodeL (c::q)).1=D1 at *
   generalize hD2:(decodeL (c::q)).2=D2 at *
   generalize YE:(65533:Nat)=FF at *
   have RF:(65533:Int)=(FF:Int):=by rw[<-YE]; rfl
   have US:([239,191,189]:By).length=3:=rfl;by_cases b1:D1<32
   ·have b1':(D1:Int)<32:=by omega
    rw[if_pos (.inl b1)];refine ag.fin (.of fun F => ?_);unfold aB tS;simp only[aH,decide_true,if_true,CN,decide_false,ade,if_false,I8,OB,ada,n34,n92,b1',Bool.true_eq_false,aA]
   have b1':¬ (D1:Int)<32:=by omega
   have stepOk:(D1=FF -> ¬ D2=1)->ag aB (tS R (i:Int) i (s,(a:Int),k,e,()) out) (match (txt ((c::q).drop D2)).map fun y=>((c::q).take D2++y.1,y.2) with
     | some (t,q') => .inr ((),out++t,st s q' k e,())
     | none => .inl ((),(s,(a:Int),k,e,()),())):=by
    intro UT;have ht:=I9 (fun hh=>UT hh.1 hh.2);have hlD:(bR D1).length=D2:=by rw[<-ht,List.length_take,Nat.min_eq_left hle]
    rw[hlD] at OB;refine ag.step (x':=tS R ((i+D2:Nat):Int) (i+D2) (s,(a:Int),k,e,()) (out++bR D1)) (.of fun F => ?_) ?_
    ·obtain ⟨m,hm⟩:=hw F
     unfold aB tS;have hD0:¬ (D2:Int)=0:=by omega
     by_cases b2:D1=FF
     ·have b2':(D1:Int)=(FF:Int):=by rw[b2]
      have h3:=WQ b2;rw[adh (UT b2)] at h3;simp only[aH,decide_true,if_true,CN,decide_false,ade,if_false,I8,Dp,OB,ada,n34,n92,b1',RF,adg b2',jf,Aq,US,h3,Bool.not_false,Bool.not_true,aA,hD0,hm];rw[wrap64 _ (by omega) (by omega)];rfl
     ·have b2':¬ (D1:Int)=(FF:Int):=by omega
      simp only[aH,decide_true,if_true,CN,decide_false,ade,if_false,I8,Dp,OB,ada,n34,n92,b1',RF,adh b2',aA,hD0,hm];rw[wrap64 _ (by omega) (by omega)];rfl
    ·have Mm:=qs D1
     simp only[adb] at hle;have:=ih (i+D2) (out++bR D1) (by omega) (by omega) (by rw[adf]; omega);have e1:R.drop (i+D2)=(c::q).drop D2:=by rw[<-List.drop_drop,hq]
     rw[e1] at this;rw[ht];unfold tR at this;cases hx:txt ((c::q).drop D2) with
     | none=>rw[hx] at this; exact this
     | some y=>rw[hx] at this; simp only[List.append_assoc] at this; exact this
   by_cases b2:D1=FF/\D2=1
   ·rw[if_pos (.inr b2)]
    obtain ⟨b2,b3⟩:=b2;have b2':(D1:Int)=(FF:Int):=by rw[b2]
    have h3:=WQ b2;rw[adg b3] at h3;refine ag.fin (.of fun F => ?_);unfold aB tS;simp only[aH,decide_true,if_true,CN,decide_false,ade,if_false,I8,Dp,OB,ada,n34,n92,b1',RF,adg b2',jf,Aq,US,h3,Bool.not_false,Bool.not_true,aA]
   ·rw[if_neg (fun hh=>hh.elim b1 b2)]
    exact stepOk (fun h1 h2=>b2 ⟨h1,h2⟩)
theorem Qw (s r:By) (h:34::r <:+ s) (hs:s.length<=1000) (k e:Int):ae (fun F=>de F (st s (34::r) k e)) (match txt r with
  | some (t,q)=>(t,st s q k e)
  | none=>([],st s (34::r) k (if e=0 then 3 else e))):=by
 have hl:=fw h;simp only[adb] at hl;have hr:r <:+ s:=cQ h;have sn:=Nh s r hr hs k e (s.length-(r.length+1)) (by omega) r.length 0 [] (by omega) (by omega) (by simp);unfold de;have jf:sub s (IntKind.i64.wrap (((s.length-(34::r).length:Nat):Int)+1)) (s.length:Int)=some r:=by rw[el h hs,Au hr]
 unfold st;simp only[jf,ada];refine ae.bind sn.run ?_;unfold tR;rw[List.drop_zero];cases ht:txt r with
 | none =>
  refine .of fun F => ?_
  simp only[aA,kr,ada,adb]
 | some y =>
  refine .of fun F => ?_
  simp only[bd,st,List.nil_append]
theorem DG {l:By} (h:∀ c∈l,bN c=true) (iv:l ≠ []):decNat l=some (sY l):=by
 have main:∀ (l:By) (n:Nat),(∀ c∈l,bN c=true)->decFrom n l=some (l.foldl (fun n c=>n*10+(c.toNat-48)) n):=by
  intro l;induction l with
  | nil=>intro n _; rfl
  | cons c l ih =>
   intro n hd;have hc:=hd c (adn ..);have hv:digitVal c=some (c.toNat-48):=by
    unfold digitVal;simp[bN] at hc;rw[if_pos ⟨hc.1,hc.2⟩]
   unfold decFrom;rw[hv];exact ih _ (fun x hx=>hd x (adm _ hx))
 unfold decNat sY;rw[main l 0 h];cases l with
 | nil=>exact absurd rfl iv
 | cons c l=>rfl
theorem Ih (F:Nat) (s:By) (a k e:Int) (c:UInt8) (q:By) (hq:c::q <:+ s) (hs:s.length<=1000) (hd:bN c=true) (f:Nat) (c0:UInt8) (hf:idx s (f:Int)=some c0) (Mk:f<=s.length-(c::q).length) (ab1:s.length-(c::q).length-f<15) :
  cf F ((),((s.length-(c::q).length:Nat):Int),(f:Int),(s,a,k,e,()),())=some (if c0=48 then .inr ((),((s.length-q.length:Nat):Int),(s,a,k,e,()),()) else .inl ((),((s.length-q.length:Nat):Int),(f:Int),(s,a,k,e,()),())):=by
 simp[bN] at hd;have d1:(48:Int)<=(c.toNat:Int):=by omega
 have d2:(c.toNat:Int)<=57:=by omega
 have e1:=tI hq;have e2:=kp hq;have e3:=el hq hs;have hl:=fw hq;have d3:IntKind.i64.wrap (((s.length-(c::q).length:Nat):Int)-(f:Int))<15:=by rw[wrap64 _ (by omega) (by omega)]; omega
 unfold cf;simp only[e1,decide_true,if_true,e2,ada,d1,d2,d3,hf,e3];by_cases hc:c0=48
 ·subst hc
  rfl
 ·have:¬ (c0.toNat:Int)=48:=by
   intro hh;exact hc (UInt8.toNat_inj.1 (show c0.toNat=48 by omega))
  simp only[this,decide_false,ade,if_false,hc]
theorem qq (F:Nat) (s:By) (a k e:Int) (x:By) (hx:x <:+ s) (hs:s.length<=1000) (f:Nat) (Mk:f<=s.length-x.length) (h:x=[]\/(∃ c q,x=c::q/\bN c=false)\/15<=s.length-x.length-f) :
  cf F ((),((s.length-x.length:Nat):Int),(f:Int),(s,a,k,e,()),())=some (.inr ((),((s.length-x.length:Nat):Int),(s,a,k,e,()),())):=by
 have hl:=fw hx;unfold cf;cases x with
 | nil =>
  have:¬ ((s.length-([]:By).length:Nat):Int)<(s.length:Int):=KB;simp only[this,decide_false,ade,if_false,ada]
 | cons c q =>
  have e1:=tI hx;have e2:=kp hx;by_cases hd:bN c=true
  ·simp[bN] at hd
   have d1:(48:Int)<=(c.toNat:Int):=by omega
   have d2:(c.toNat:Int)<=57:=by omega
   have Y3:15<=s.length-(c::q).length-f:=by
    rcases h with h | ⟨c',q',h,h'⟩ | h
    ·cases h
    ·injection h with h1 h2; subst h1; simp[bN] at h'; omega
    ·exact h
   have d3:¬ IntKind.i64.wrap (((s.length-(c::q).length:Nat):Int)-(f:Int))<15:=by rw[wrap64 _ (by omega) (by omega)]; omega
   simp only[e1,decide_true,if_true,e2,ada,d1,d2,d3,decide_false,ade,if_false]
  ·simp[bN] at hd
   by_cases d1:48<=c.toNat
   ·have d1':(48:Int)<=(c.toNat:Int):=by omega
    have d2:¬ (c.toNat:Int)<=57:=by have:=hd d1; omega
    simp only[e1,decide_true,if_true,e2,ada,d1',d2,decide_false,ade,if_false]
   ·have d1':¬ (48:Int)<=(c.toNat:Int):=by omega
    simp only[e1,decide_true,if_true,e2,ada,d1',decide_false,ade,if_false]
theorem Ps (s:By) (hs:s.length<=1000) (a k e:Int) (f:Nat) (c0:UInt8) (hf:idx s (f:Int)=some c0) (h48:c0≠48):∀ (n:Nat) (x:By),x <:+ s->x.length<=n->f<=s.length-x.length->s.length-x.length-f<=15 ->
  ag cf ((),((s.length-x.length:Nat):Int),(f:Int),(s,a,k,e,()),()) ((),((s.length-(x.drop ((x.takeWhile bN).take (15-(s.length-x.length-f))).length).length:Nat):Int),(s,a,k,e,()),()):=by
 intro n;induction n with
 | zero =>
  intro x hx hn Mk Y3;have:x=[]:=List.length_eq_zero_iff.1 (by omega);subst this;exact ag.fin (.of fun F=>(qq F s a k e [] hx hs f Mk (.inl rfl)).trans (by simp))
 | succ n ih =>
  intro x hx hn Mk Y3;cases x with
  | nil=>exact ag.fin (.of fun F=>(qq F s a k e [] hx hs f Mk (.inl rfl)).trans (by simp))
  | cons c q =>
   have hl:=fw hx;simp only[adb] at hl hn;by_cases hd:bN c=true
   ·by_cases hc:s.length-(c::q).length-f<15
    ·have i2:=ih q (cQ hx) (by omega) (by simp only[adb] at Mk; omega) (by simp only[adb] at hc; omega)
     refine ag.step (.of fun F=>(Ih F s a k e c q hx hs hd f c0 hf Mk hc).trans (by rw[if_neg h48])) ?_;have e1:15-(s.length-(c::q).length-f)=(15-(s.length-q.length-f))+1:=by simp only[adb] at hc Mk ⊢; omega
     rw[List.takeWhile_cons_of_pos hd,e1,List.take_succ_cons,adb,List.drop_succ_cons];exact i2
    ·have:15-(s.length-(c::q).length-f)=0:=by omega
     rw[this,List.take_zero,List.length_nil,List.drop_zero];exact ag.fin (.of fun F=>qq F s a k e _ hx hs f Mk (.inr (.inr (by omega))))
   ·have Ox:bN c=false:=by simpa using hd
    rw[List.takeWhile_cons_of_neg hd,List.take_nil,List.length_nil,List.drop_zero];exact ag.fin (.of fun F=>qq F s a k e _ hx hs f Mk (.inr (.inl ⟨c,q,rfl,Ox⟩)))
theorem Hx (s:By) (hs:s.length<=1000) (a k e:Int) (x:By) (hx:x <:+ s) :
  ag cf ((),((s.length-x.length:Nat):Int),((s.length-x.length:Nat):Int),(s,a,k,e,()),()) ((),((s.length-(x.drop (ed x).length).length:Nat):Int),(s,a,k,e,()),()):=by
 cases x with
 | nil=>exact ag.fin (.of fun F=>qq F s a k e [] hx hs _ (Nat.le_refl _) (.inl rfl))
 | cons c q =>
  have hf:=kp hx;by_cases hd:bN c=true
  ·by_cases hc:c=48
   ·subst hc
    refine ag.fin (.of fun F=>(Ih F s a k e 48 q hx hs hd _ 48 hf (Nat.le_refl _) (by omega)).trans ?_);rw[if_pos rfl];rfl
   ·have:=Ps s hs a k e _ c hf hc _ (c::q) hx (Nat.le_refl _) (Nat.le_refl _) (by omega)
    unfold ed;simp only;rw[if_neg hc];rw[Nat.sub_self,Nat.sub_zero] at this;exact this
  ·have Ox:bN c=false:=by simpa using hd
   have hc:c≠48:=by rintro rfl; exact hd (by decide)
   unfold ed;simp only;rw[if_neg hc,List.takeWhile_cons_of_neg hd];exact ag.fin (.of fun F=>qq F s a k e _ hx hs _ (Nat.le_refl _) (.inr (.inl ⟨c,q,rfl,Ox⟩)))
theorem Ag {s r:By} (h:r <:+ s) (m:Nat) (hm:m<=r.length):sub s ((s.length-r.length:Nat):Int) ((s.length-(r.length-m):Nat):Int)=some (r.take m):=by
 have hl:=fw h;rw[jM s _ _ (by omega) (by omega)];obtain ⟨t,rfl⟩:=h;have e1:(t++r).length-r.length=t.length:=by simp
 rw[e1,List.drop_left' rfl];congr 2;simp;omega
theorem OU (s q:By) (c:UInt8) (h:c::q <:+ s) (hs:s.length<=1000) (k:Int) (hc:c=45\/bN c=true):ae (fun F=>ey F (st s (c::q) k 0)) (match yq (c::q) with
  | some (n,r)=>(.int n,st s r k 0)
  | none=>(.nil,st s (c::q) k 3)):=by
 have hl:=fw h;simp only[adb] at hl;have fin:∀ (a:By) (n:Option Int) (y:By),Go.Lib.atoi a=n->a.length<=18->ae (fun F=>(lI F a).bind fun v11=>some ((),((s.length-y.length:Nat):Int),v11.1,v11.2,((s,((s.length-(c::q).length:Nat):Int),k,0,()):RS),())) (match n with
   | some n=>((),((s.length-y.length:Nat):Int),n,false,(s,((s.length-(c::q).length:Nat):Int),k,0,()),())
   | none=>((),((s.length-y.length:Nat):Int),0,true,(s,((s.length-(c::q).length:Nat):Int),k,0,()),())):=by
  intro a n y ha Wz;refine .of fun F => ?_
  unfold lI LM;rw[if_pos (by simpa using Wz),ha,ada];cases n <;> rfl
 unfold ey;have e1:=kp h;unfold st;simp only[e1,ada];by_cases c45:c=45
 ·subst c45
  have e3:=el h hs;have e4:(((45:UInt8).toNat:Int))=45:=rfl;simp only[e4,decide_true,if_true,e3,ada];refine ae.bind (Hx s hs _ k 0 q (cQ h)).run ?_;have Dr:=uv q;have jf:=Ag h ((ed q).length+1) (by simp only[adb]; omega);have e5:(45::q).length-((ed q).length+1)=(q.drop (ed q).length).length:=by simp only[adb,List.length_drop]; omega
  rw[e5] at jf;have I4:(45::q).take ((ed q).length+1)=45::ed q:=by rw[List.take_succ_cons,<-ua q]
  rw[I4] at jf;simp only[jf,ada];unfold yq;simp only[if_true];by_cases iv:ed q=[]
  ·rw[if_pos iv]
   have Rr:Go.Lib.atoi (45::ed q)=none:=by rw[iv]; rfl
   refine ae.bind (fin _ _ (q.drop (ed q).length) Rr (by simp; omega)) ?_;refine .of fun F => ?_
   simp only[Bool.not_true,Bool.not_false,if_true,kr,ada]
  ·rw[if_neg iv]
   have Rr:Go.Lib.atoi (45::ed q)=some (-(sY (ed q):Int)):=by
    show (if ((45:UInt8) == 45)=true then Option.map (fun m:Nat => -(m:Int)) (decNat (ed q)) else if ((45:UInt8) == 43)=true then Option.map (fun m:Nat=>(m:Int)) (decNat (ed q)) else Option.map (fun m:Nat=>(m:Int)) (decNat (45::ed q))) = _;rw[if_pos (by decide),DG (tJ q) iv];rfl
   refine ae.bind (fin _ _ (q.drop (ed q).length) Rr (by simp; omega)) ?_;exact .of fun F=>rfl
 ·have hd:bN c=true:=hc.resolve_left c45
  have n45:¬ (c.toNat:Int)=45:=by
   intro hh;exact c45 (UInt8.toNat_inj.1 (show c.toNat=45 by omega))
  simp only[n45,decide_false,ade,if_false,ada];refine ae.bind (Hx s hs _ k 0 (c::q) h).run ?_;have Dr:=uv (c::q);have jf:=Ag h (ed (c::q)).length Dr.2;have e5:(c::q).length-(ed (c::q)).length=((c::q).drop (ed (c::q)).length).length:=by simp
  rw[e5,<-ua (c::q)] at jf;simp only[jf,ada];unfold yq;simp only;rw[if_neg c45];have iv:ed (c::q) ≠ []:=by
   unfold ed;simp only;split
   ·simp
   ·rw[List.takeWhile_cons_of_pos hd]; simp
  rw[if_neg iv];obtain ⟨x,l,TO⟩:∃ x l,ed (c::q)=x::l:=by
   cases hh:ed (c::q) with
   | nil=>exact absurd hh iv
   | cons x l=>exact ⟨x,l,rfl⟩
  have hxd:bN x=true:=tJ (c::q) x (by rw[TO]; exact adn ..);have Rr:Go.Lib.atoi (ed (c::q))=some (sY (ed (c::q)):Int):=by
   have hdn:=DG (tJ (c::q)) iv;rw[TO] at hdn ⊢
   show (if (x == 45)=true then Option.map (fun m:Nat => -(m:Int)) (decNat l) else if (x == 43)=true then Option.map (fun m:Nat=>(m:Int)) (decNat l) else Option.map (fun m:Nat=>(m:Int)) (decNat (x::l))) = _;rw[if_neg (by rw[beq_iff_eq]; rintro rfl; exact absurd hxd (by decide)),if_neg (by rw[beq_iff_eq]; rintro rfl; exact absurd hxd (by decide)),hdn];rfl
  refine ae.bind (fin _ _ ((c::q).drop (ed (c::q)).length) Rr (by omega)) ?_;exact .of fun F=>rfl
end Go.Vm
