/- JSON: the program's strings and numbers are the plain ones. No condition but on lengths. -/
import Derived.Test.YtcnigpigmhpakaaGreatDoorFjsort
import Derived.Test.YtcnigpigmhpakaaGreatDoorPj8
namespace Go.Vm
open Go.Lib (decodeL decodeN decodeL_N decode_N decodeN_shape decodeL_le decNat decFrom digitVal atoi)
set_option linter.unusedVariables false
set_option linter.unusedSimpArgs false
/-! ### what escapes are made of -/
theorem qN {c:UInt8} {n:Nat} (h:lR c=some n):c.toNat<128:=by
 unfold lR at h
 repeat' split at h
 all_goals first | (cases h; done) | omega
theorem Ae {s:By} {n:Nat} (h:lE s=some n) : ∀ j,j<4 → ∃ c,s[j]? = some c∧c.toNat<128:=by
 unfold lE at h
 split at h
 ·obtain ⟨a,ha,h⟩:=Option.bind_eq_some_iff.1 h
  obtain ⟨b,hb,h⟩:=Option.bind_eq_some_iff.1 h
  obtain ⟨c,hc,h⟩:=Option.bind_eq_some_iff.1 h
  obtain ⟨d,hd,h⟩:=Option.bind_eq_some_iff.1 h
  intro j hj
  match j,hj with
  | 0,_=>exact ⟨_,rfl,qN ha⟩
  | 1,_=>exact ⟨_,rfl,qN hb⟩
  | 2,_=>exact ⟨_,rfl,qN hc⟩
  | 3,_=>exact ⟨_,rfl,qN hd⟩
 ·cases h
theorem FH {n c k:Nat} {r:By} (h:sF n r=some (c,k)):k=12 ∧ ∀ j,j<6 → ∃ c,r[j]? = some c∧c.toNat<128:=by
 unfold sF at h
 split at h
 ·rename_i q
  obtain ⟨m,hm,h⟩:=Option.bind_eq_some_iff.1 h
  have h3:=Ae hm
  by_cases hc:56320≤m∧m≤57343
  ·rw [if_pos hc] at h
   injection h with h
   injection h with h4 h5
   refine ⟨h5.symm,fun j hj => ?_⟩
   match j,hj with
   | 0,_=>exact ⟨_,rfl,by decide⟩
   | 1,_=>exact ⟨_,rfl,by decide⟩
   | j+2,hj=>exact h3 j (by omega)
  ·rw [if_neg hc] at h; cases h
 ·cases h
theorem Gc {r:By} {c k:Nat} (h:sf r=some (c,k)) : ∀ j,j+2<k → ∃ c,r[j]? = some c∧c.toNat<128:=by
 unfold sf at h
 obtain ⟨n,hn,h⟩:=Option.bind_eq_some_iff.1 h
 have h1:=Ae hn
 by_cases c1:n<55296∨57343<n
 ·rw [if_pos c1] at h
  injection h with h
  injection h with h2 h3
  intro j hj
  exact h1 j (by omega)
 rw [if_neg c1] at h
 by_cases c2:56320≤n
 ·rw [if_pos c2] at h; cases h
 rw [if_neg c2] at h
 obtain ⟨q1,q2⟩:=FH h
 intro j hj
 by_cases hj4:j<4
 ·exact h1 j hj4
 ·obtain ⟨c,h5,h6⟩:=q2 (j - 4) (by omega)
  rw [List.getElem?_drop,show 4+(j - 4)=j by omega] at h5
  exact ⟨c,h5,h6⟩
theorem Gq {s:By} {c k:Nat} (h:lT s=some (c,k)) : ∀ j,j+1<k → ∃ c,s[j]? = some c∧c.toNat<128:=by
 have two : ∀ (x:UInt8) (r:By),x.toNat<128→k=2 → ∀ j,j+1<k → ∃ c,(x :: r)[j]? = some c∧c.toNat<128:=by
  intro x r hx hk j hj
  have:j=0:=by omega
  subst this
  exact ⟨x,rfl,hx⟩
 unfold lT at h
 split at h
 ·cases h
 ·rename_i x r
  by_cases h1:x=34∨x=92∨x=47
  ·rw [if_pos h1] at h
   injection h with h; injection h with _ h
   exact two x r (by rcases h1 with rfl | rfl | rfl <;> decide) h.symm
  rw [if_neg h1] at h
  by_cases h2:x=98
  ·rw [if_pos h2] at h; injection h with h; injection h with _ h; exact two x r (by rw [h2]; decide) h.symm
  rw [if_neg h2] at h
  by_cases h3:x=102
  ·rw [if_pos h3] at h; injection h with h; injection h with _ h; exact two x r (by rw [h3]; decide) h.symm
  rw [if_neg h3] at h
  by_cases h4:x=110
  ·rw [if_pos h4] at h; injection h with h; injection h with _ h; exact two x r (by rw [h4]; decide) h.symm
  rw [if_neg h4] at h
  by_cases h5:x=114
  ·rw [if_pos h5] at h; injection h with h; injection h with _ h; exact two x r (by rw [h5]; decide) h.symm
  rw [if_neg h5] at h
  by_cases h6:x=116
  ·rw [if_pos h6] at h; injection h with h; injection h with _ h; exact two x r (by rw [h6]; decide) h.symm
  rw [if_neg h6] at h
  by_cases h7:x=117
  ·rw [if_pos h7] at h
   intro j hj
   cases j with
   | zero=>exact ⟨x,rfl,by rw [h7]; decide⟩
   | succ j=>exact Gc h j (by omega)
  ·rw [if_neg h7] at h; cases h
/-! ### signs -/
theorem rh {c:UInt8} (q:By) (h:c.toNat<128):decodeL (c :: q)=(c.toNat,1):=by
 rw [decodeL_N]
 unfold decodeN
 simp only [List.getD_cons_zero]
 rw [if_pos h]
theorem CT {c:UInt8} (q:By) (h : ¬ c.toNat<128):128≤(decodeL (c :: q)).1:=by
 rw [decodeL_N]
 rcases decodeN_shape (c :: q).length ((c :: q).getD 0 0).toNat ((c :: q).getD 1 0).toNat ((c :: q).getD 2 0).toNat ((c :: q).getD 3 0).toNat with ⟨h0,e⟩ | ⟨_,_,_,h1,e⟩ | ⟨_,_,_,_,h1,_,e⟩ | ⟨_,_,_,_,_,h1,_,e⟩ | e
 ·exact absurd h0 h
 ·rw [e]; exact h1
 ·rw [e]; exact Nat.le_trans (by decide) h1
 ·rw [e]; exact Nat.le_trans (by decide) h1
 ·rw [e]; exact (by decide:128≤65533)
theorem sG (F c:Nat) (h:okR c):dv F (c:Int)=some ((cj c).length:Int):=by
 obtain ⟨h1,h2⟩:=h
 have gen : ∀ (A B C D E:Int) (n:Int),(if decide (n<0)=true then some (-1) else if decide (n≤A)=true then some 1 else if decide (n≤B)=true then some 2 else (if decide (C≤n)=true then some (n,decide (n≤D),()) else some (n,false,()):Option (Int×Bool×Unit)).bind fun v0=>if v0.2.1=true then some (-1) else if decide (v0.1≤E)=true then some 3 else if decide (v0.1≤1114111)=true then some 4 else some (-1:Int)) =
   if n<0 then some (-1) else if n≤A then some 1 else if n≤B then some 2 else if C≤n∧n≤D then some (-1) else if n≤E then some 3 else if n≤1114111 then some 4 else some (-1):=by
  intro A B C D E n
  by_cases q1:n<0 <;> by_cases q2:n≤A <;> by_cases q3:n≤B <;> by_cases q4:C≤n <;> by_cases q5:n≤D <;> by_cases q6:n≤E <;> simp only [q1,q2,q3,q4,q5,q6,decide_true,decide_false,if_true,if_false,Bool.false_eq_true,Option.bind_some,and_self,and_true,and_false,false_and,true_and,decide_eq_true_eq]
 refine (gen 127 2047 55296 57343 65535 (c:Int)).trans ?_
 rw [if_neg (by omega)]
 unfold cj
 by_cases c1:c<128
 ·rw [if_pos (by omega),if_pos c1]; rfl
 rw [if_neg (by omega),if_neg c1]
 by_cases c2:c<2048
 ·rw [if_pos (by omega),if_pos c2]; rfl
 rw [if_neg (by omega),if_neg c2,if_neg (by omega)]
 by_cases c3:c<65536
 ·rw [if_pos (by omega),if_pos c3]; rfl
 rw [if_neg (by omega),if_neg c3,if_pos (by omega)]; rfl
theorem KL (q:By) (hne:q ≠ []) (h:(decodeL q).1=65533):decide (q.take 3 = [239,191,189]) = !decide ((decodeL q).2=1):=by
 have e:cj 65533 = [239,191,189]:=by decide
 by_cases h1:(decodeL q).2=1
 ·have : ¬ q.take 3 = [239,191,189]:=by
   intro hh
   have hq:q=cj 65533 ++ q.drop 3:=by rw [e, ← hh,List.take_append_drop]
   have:=qZ 65533 (by decide) (q.drop 3)
   rw [← hq] at this
   rw [this] at h1
   exact absurd h1 (by decide)
  rw [decide_eq_false this,decide_eq_true h1]; rfl
 ·have ht:=iO q hne (fun hh=>h1 hh.2)
  rw [h,e] at ht
  have hl:=congrArg List.length ht
  have hle:=decodeL_le q hne
  rw [List.length_take,Nat.min_eq_left hle] at hl
  rw [hl] at ht
  rw [decide_eq_true (show q.take 3 = [239,191,189] from ht),decide_eq_false h1]; rfl
/-! ### strings -/
abbrev TS:=Unit×By×Unit×Int×Unit×(By×Nat)×RS×(Unit×Unit×Unit)×By×Unit
def tS (R:By) (b:Int) (i:Nat) (rs:RS) (out:By):TS:=((),R,(),b,(),(R,i),rs,((),(),()),out,())
abbrev TY:=Unit×RS×Unit ⊕ Unit×By×RS×Unit
def tR (s:By) (a:Int) (k e:Int) (out q:By):TY:=match txt q with
 | some (t,q') => .inr ((),out ++ t,st s q' k e,())
 | none => .inl ((),(s,a,k,e,()),())
theorem Ev (F:Nat) (R:By) (b:Int) (i:Nat) (s:By) (a k e:Int) (out:By) (h1:i<R.length) (h2:(i:Int)<b):aA F (tS R b i (s,a,k,e,()) out)=some (.inl (tS R b (i+runeLen R i) (s,a,k,e,()) out)):=by
 unfold aA tS
 simp only [h1,h2,decide_true,if_true]
theorem uv (R:By) (s:By) (a k e:Int) (out:By) (y:TY) : ∀ (n i:Nat),i+n≤R.length→(∀ j,i≤j→j<i+n → ∃ c,R[j]? = some c∧c.toNat<128)→af aA (tS R ((i+n:Nat):Int) (i+n) (s,a,k,e,()) out) y→af aA (tS R ((i+n:Nat):Int) i (s,a,k,e,()) out) y
 | 0,i,_,_,h=>h
 | n+1,i,hl,ha,h=>by
  have ih:=uv R s a k e out y n (i+1) (by omega) (fun j h1 h2=>ha j (by omega) (by omega)) (by rw [show i+1+n=i+(n+1) by omega]; exact h)
  rw [show i+1+n=i+(n+1) by omega] at ih
  refine af.step (.of fun F=>Ev F R _ i s a k e out (by omega) (by omega)) ?_
  obtain ⟨c,hc,hc2⟩:=ha i (Nat.le_refl _) (by omega)
  have hd:R.drop i=c :: R.drop (i+1):=by
   obtain ⟨h5,h6⟩:=List.getElem?_eq_some_iff.1 hc
   rw [List.drop_eq_getElem_cons h5,h6]
  rw [qq,hd,rh _ hc2]
  exact ih
theorem DY (s R:By) (hR:R <:+ s) (hs:s.length≤1000) (k e:Int) (a:Nat) (ha:s.length=R.length+a+1) :
  ∀ (n i:Nat) (out:By),R.length - i≤n→i≤R.length→out.length≤4 * i→af aA (tS R (i:Int) i (s,(a:Int),k,e,()) out) (tR s a k e out (R.drop i)):=by
 intro n
 induction n with
 | zero =>
  intro i out hn hi ho
  have:i=R.length:=by omega
  subst this
  refine af.fin (.of fun F => ?_)
  unfold aA tS tR
  rw [List.drop_length,rr]
  simp
 | succ n ih =>
  intro i out hn hi ho
  by_cases hlt:i<R.length
  case neg =>
   have:i=R.length:=by omega
   subst this
   refine af.fin (.of fun F => ?_)
   unfold aA tS tR
   rw [List.drop_length,rr]
   simp
  obtain ⟨c,q,hq⟩ : ∃ c q,R.drop i=c :: q:=⟨_,_,List.drop_eq_getElem_cons hlt⟩
  have hql:q.length+1=R.length - i:=by have:=congrArg List.length hq; simp at this; omega
  have hqs:c :: q <:+ s:=hq ▸ (List.drop_suffix i R).trans hR
  have hnb : ¬ (i:Int)<(i:Int):=by omega
  have hra:eY R i=((decodeL (c :: q)).1:Int):=by rw [xU,hq]
  have hrl:runeLen R i=(decodeL (c :: q)).2:=by rw [qq,hq]
  have hok:=rU (c :: q)
  have hsub:sub R (i:Int) (R.length:Int)=some (c :: q):=by rw [iH R i hi,hq]
  rw [hq]
  by_cases c1:c=34
  ·subst c1
   have hd:=rh (c:=34) q (by decide)
   refine af.fin (.of fun F => ?_)
   unfold tR
   rw [fu,if_pos rfl]
   unfold aA tS
   have hv:eY R i=34:=by rw [hra,hd]; rfl
   have hrn:=sG F 34 (by decide)
   have hrn':dv F 34=some ((cj 34).length:Int):=hrn
   simp only [hlt,decide_true,if_true,hnb,decide_false,Bool.false_eq_true,if_false,hv,hrn',Option.bind_some,dU,aZ,List.append_nil]
   have hp:IntKind.i64.wrap ((a:Int)+IntKind.i64.wrap ((i:Int)+2))=((s.length - q.length:Nat):Int):=by
    rw [wrap64 ((i:Int)+2) (by omega) (by omega),wrap64 _ (by omega) (by omega)]
    omega
   rw [hp]
   rfl
  by_cases c2:c=92
  ·subst c2
   have hd:=rh (c:=92) q (by decide)
   have hv:eY R i=92:=by rw [hra,hd]; rfl
   have hl1:runeLen R i=1:=by rw [hrl,hd]
   have hrn:=fun F=>sG F 92 (by decide)
   have hrn' : ∀ F,dv F 92=some ((cj 92).length:Int):=hrn
   have hesc:=Ff q
   unfold JH at hesc
   unfold tR
   rw [fu,if_neg (by decide),if_pos rfl]
   cases he:lT q with
   | none =>
    rw [he,iP] at hesc
    refine af.fin ?_
    unfold aA tS
    simp only [hlt,decide_true,if_true,hnb,decide_false,Bool.false_eq_true,if_false,hv,hrn',Option.bind_some,hsub]
    have : ¬ (92:Int)=34:=by decide
    simp only [this,decide_false,Bool.false_eq_true,if_false]
    refine ae.bind (hesc.bind (.ret _)) ?_
    exact .ret _
   | some x =>
    obtain ⟨n',k'⟩:=x
    rw [he,iN] at hesc
    obtain ⟨q1,q2,q3,q4⟩:=yv he
    have hasc:=Gq he
    have hk0 : ¬ (k':Int)=0:=by omega
    have hw : ∀ F, ∃ m,bw F (((),out,()),(n':Int))=some ((m,()),(),out ++ pN (n':Int),()):=fun F=>zI F n' q1 out (by omega)
    rw [Option.bind_some]
    refine af.step (x':=tS R ((i+1+(k' - 1):Nat):Int) (i+1) (s,(a:Int),k,e,()) (out ++ cj n')) ?_ ?_
    ·unfold aA tS
     simp only [hlt,decide_true,if_true,hnb,decide_false,Bool.false_eq_true,if_false,hv,hrn',Option.bind_some,hsub]
     have : ¬ (92:Int)=34:=by decide
     simp only [this,decide_false,Bool.false_eq_true,if_false]
     refine ae.bind (hesc.bind (.ret _)) ?_
     refine .of fun F => ?_
     obtain ⟨m,hm⟩:=hw F
     simp only [aE,hk0,decide_false,Bool.false_eq_true,if_false,hm,Option.bind_some,hl1,lI n' q1]
     rw [wrap64 _ (by omega) (by omega)]
     congr 7
     omega
    ·have hskip:=uv R s a k e (out ++ cj n') (match (txt ((92 :: q).drop k')).map fun y=>(cj n' ++ y.1,y.2) with
      | some (t,q') => .inr ((),out ++ t,st s q' k e,())
      | none => .inl ((),(s,(a:Int),k,e,()),())) (k' - 1) (i+1) (by omega) (fun j h1 h2 => ?_) ?_
     ·exact hskip
     ·obtain ⟨c,h5,h6⟩:=hasc (j - (i+1)) (by omega)
      refine ⟨c,?_,h6⟩
      have:(R.drop i)[j - i]? = some c:=by
       rw [hq,show j - i=(j - (i+1))+1 by omega]
       exact h5
      rw [List.getElem?_drop,show i+(j - i)=j by omega] at this
      exact this
     ·have hel:=qT n'
      have:=ih (i+1+(k' - 1)) (out ++ cj n') (by omega) (by omega) (by rw [List.length_append]; omega)
      have e1:R.drop (i+1+(k' - 1))=(92 :: q).drop k':=by
       rw [show i+1+(k' - 1)=i+k' by omega, ← List.drop_drop,hq]
      rw [e1] at this
      unfold tR at this
      cases ht:txt ((92 :: q).drop k') with
      | none=>rw [ht] at this; exact this
      | some y=>rw [ht] at this; simp only [List.append_assoc] at this; exact this
  ·-- a sign
   have hpos:=fw (c :: q)
   have hle:=decodeL_le (c :: q) (by simp)
   have n34 : ¬ ((decodeL (c :: q)).1:Int)=34:=by
    by_cases hc:c.toNat<128
    ·rw [rh q hc]
     intro hh
     exact c1 (UInt8.toNat_inj.1 (show c.toNat=34 by simp only at hh; omega))
    ·have:=CT q hc; omega
   have n92 : ¬ ((decodeL (c :: q)).1:Int)=92:=by
    by_cases hc:c.toNat<128
    ·rw [rh q hc]
     intro hh
     exact c2 (UInt8.toNat_inj.1 (show c.toNat=92 by simp only at hh; omega))
    ·have:=CT q hc; omega
   unfold tR
   rw [fu,if_neg c1,if_neg c2]
   have hrn:=fun F=>sG F _ hok
   have hw : ∀ F, ∃ m,bw F (((),out,()),((decodeL (c :: q)).1:Int))=some ((m,()),(),out ++ pN ((decodeL (c :: q)).1:Int),()):=fun F=>zI F _ hok out (by omega)
   rw [lI _ hok] at hw
   have hencp:=zN (decodeL (c :: q)).1
   have hff:=KL (c :: q) (by simp)
   have hle':=hle
   rw [List.length_cons] at hle'
   have hten:=iO (c :: q) (by simp)
   generalize hD1:(decodeL (c :: q)).1=D1 at *
   generalize hD2:(decodeL (c :: q)).2=D2 at *
   generalize hFF:(65533:Nat)=FF at *
   have hFFi:(65533:Int)=(FF:Int):=by rw [← hFF]; rfl
   have hlen3:([239,191,189]:By).length=3:=rfl
   by_cases b1:D1<32
   ·have b1':(D1:Int)<32:=by omega
    rw [if_pos (.inl b1)]
    refine af.fin (.of fun F => ?_)
    unfold aA tS
    simp only [hlt,decide_true,if_true,hnb,decide_false,Bool.false_eq_true,if_false,hra,hrn,Option.bind_some,n34,n92,b1',Bool.true_eq_false,aE]
   have b1' : ¬ (D1:Int)<32:=by omega
   have stepOk:(D1=FF → ¬ D2=1)→af aA (tS R (i:Int) i (s,(a:Int),k,e,()) out) (match (txt ((c :: q).drop D2)).map fun y=>((c :: q).take D2 ++ y.1,y.2) with
     | some (t,q') => .inr ((),out ++ t,st s q' k e,())
     | none => .inl ((),(s,(a:Int),k,e,()),())):=by
    intro hgood
    have ht:=hten (fun hh=>hgood hh.1 hh.2)
    have hlD:(cj D1).length=D2:=by rw [← ht,List.length_take,Nat.min_eq_left hle]
    rw [hlD] at hrn
    refine af.step (x':=tS R ((i+D2:Nat):Int) (i+D2) (s,(a:Int),k,e,()) (out ++ cj D1)) (.of fun F => ?_) ?_
    ·obtain ⟨m,hm⟩:=hw F
     unfold aA tS
     have hD0 : ¬ (D2:Int)=0:=by omega
     by_cases b2:D1=FF
     ·have b2':(D1:Int)=(FF:Int):=by rw [b2]
      have h3:=hff b2
      rw [decide_eq_false (hgood b2)] at h3
      simp only [hlt,decide_true,if_true,hnb,decide_false,Bool.false_eq_true,if_false,hra,hrl,hrn,Option.bind_some,n34,n92,b1',hFFi,decide_eq_true b2',hsub,ub,hlen3,h3,Bool.not_false,Bool.not_true,aE,hD0,hm]
      rw [wrap64 _ (by omega) (by omega)]
      rfl
     ·have b2' : ¬ (D1:Int)=(FF:Int):=by omega
      simp only [hlt,decide_true,if_true,hnb,decide_false,Bool.false_eq_true,if_false,hra,hrl,hrn,Option.bind_some,n34,n92,b1',hFFi,decide_eq_false b2',aE,hD0,hm]
      rw [wrap64 _ (by omega) (by omega)]
      rfl
    ·have hel:=qT D1
     simp only [List.length_cons] at hle
     have:=ih (i+D2) (out ++ cj D1) (by omega) (by omega) (by rw [List.length_append]; omega)
     have e1:R.drop (i+D2)=(c :: q).drop D2:=by rw [← List.drop_drop,hq]
     rw [e1] at this
     rw [ht]
     unfold tR at this
     cases hx:txt ((c :: q).drop D2) with
     | none=>rw [hx] at this; exact this
     | some y=>rw [hx] at this; simp only [List.append_assoc] at this; exact this
   by_cases b2:D1=FF∧D2=1
   ·rw [if_pos (.inr b2)]
    obtain ⟨b2,b3⟩:=b2
    have b2':(D1:Int)=(FF:Int):=by rw [b2]
    have h3:=hff b2
    rw [decide_eq_true b3] at h3
    refine af.fin (.of fun F => ?_)
    unfold aA tS
    simp only [hlt,decide_true,if_true,hnb,decide_false,Bool.false_eq_true,if_false,hra,hrl,hrn,Option.bind_some,n34,n92,b1',hFFi,decide_eq_true b2',hsub,ub,hlen3,h3,Bool.not_false,Bool.not_true,aE]
   ·rw [if_neg (fun hh=>hh.elim b1 b2)]
    exact stepOk (fun h1 h2=>b2 ⟨h1,h2⟩)
theorem GJ (s r:By) (h:34 :: r <:+ s) (hs:s.length≤1000) (k e:Int):ae (fun F=>cm F (st s (34 :: r) k e)) (match txt r with
  | some (t,q)=>(t,st s q k e)
  | none=>([],st s (34 :: r) k (if e=0 then 3 else e))):=by
 have hl:=dS h
 simp only [List.length_cons] at hl
 have hr:r <:+ s:=cr h
 have hloop:=DY s r hr hs k e (s.length - (r.length+1)) (by omega) r.length 0 [] (by omega) (by omega) (by simp)
 unfold cm
 have hsub:sub s (IntKind.i64.wrap (((s.length - (34 :: r).length:Nat):Int)+1)) (s.length:Int)=some r:=by rw [dk h hs,ua hr]
 unfold st
 simp only [hsub,Option.bind_some]
 refine ae.bind hloop.run ?_
 unfold tR
 rw [List.drop_zero]
 cases ht:txt r with
 | none =>
  refine .of fun F => ?_
  simp only [aE,iE,Option.bind_some,List.length_cons]
 | some y =>
  refine .of fun F => ?_
  simp only [aZ,st,List.nil_append]
/-! ### numbers -/
theorem xK {l:By} (h : ∀ c∈l,bj c=true) (hne:l ≠ []):decNat l=some (oe l):=by
 have main : ∀ (l:By) (n:Nat),(∀ c∈l,bj c=true)→decFrom n l=some (l.foldl (fun n c=>n * 10+(c.toNat - 48)) n):=by
  intro l
  induction l with
  | nil=>intro n _; rfl
  | cons c l ih =>
   intro n hd
   have hc:=hd c (List.mem_cons_self ..)
   have hv:digitVal c=some (c.toNat - 48):=by
    unfold digitVal
    simp [bj] at hc
    rw [if_pos ⟨hc.1,hc.2⟩]
   unfold decFrom
   rw [hv]
   exact ih _ (fun x hx=>hd x (List.mem_cons_of_mem _ hx))
 unfold decNat oe
 rw [main l 0 h]
 cases l with
 | nil=>exact absurd rfl hne
 | cons c l=>rfl
theorem Ai (F:Nat) (s:By) (a k e:Int) (c:UInt8) (q:By) (hq:c :: q <:+ s) (hs:s.length≤1000) (hd:bj c=true) (f:Nat) (c0:UInt8) (hf:idx s (f:Int)=some c0) (hfl:f≤s.length - (c :: q).length) (hcnt:s.length - (c :: q).length - f<15) :
  bG F ((),((s.length - (c :: q).length:Nat):Int),(f:Int),(s,a,k,e,()),())=some (if c0=48 then .inr ((),((s.length - q.length:Nat):Int),(s,a,k,e,()),()) else .inl ((),((s.length - q.length:Nat):Int),(f:Int),(s,a,k,e,()),())):=by
 simp [bj] at hd
 have d1:(48:Int)≤(c.toNat:Int):=by omega
 have d2:(c.toNat:Int)≤57:=by omega
 have e1:=ox hq
 have e2:=iC hq
 have e3:=dk hq hs
 have hl:=dS hq
 have d3:IntKind.i64.wrap (((s.length - (c :: q).length:Nat):Int) - (f:Int))<15:=by rw [wrap64 _ (by omega) (by omega)]; omega
 unfold bG
 simp only [e1,decide_true,if_true,e2,Option.bind_some,d1,d2,d3,hf,e3]
 by_cases hc:c0=48
 ·subst hc
  rfl
 ·have : ¬ (c0.toNat:Int)=48:=by
   intro hh
   exact hc (UInt8.toNat_inj.1 (show c0.toNat=48 by omega))
  simp only [this,decide_false,Bool.false_eq_true,if_false,hc]
theorem mq (F:Nat) (s:By) (a k e:Int) (x:By) (hx:x <:+ s) (hs:s.length≤1000) (f:Nat) (hfl:f≤s.length - x.length) (h:x = []∨(∃ c q,x=c :: q∧bj c=false)∨15≤s.length - x.length - f) :
  bG F ((),((s.length - x.length:Nat):Int),(f:Int),(s,a,k,e,()),())=some (.inr ((),((s.length - x.length:Nat):Int),(s,a,k,e,()),())):=by
 have hl:=dS hx
 unfold bG
 cases x with
 | nil =>
  have : ¬ ((s.length - ([]:By).length:Nat):Int)<(s.length:Int):=Cc
  simp only [this,decide_false,Bool.false_eq_true,if_false,Option.bind_some]
 | cons c q =>
  have e1:=ox hx
  have e2:=iC hx
  by_cases hd:bj c=true
  ·simp [bj] at hd
   have d1:(48:Int)≤(c.toNat:Int):=by omega
   have d2:(c.toNat:Int)≤57:=by omega
   have h15:15≤s.length - (c :: q).length - f:=by
    rcases h with h | ⟨c',q',h,h'⟩ | h
    ·cases h
    ·injection h with h1 h2; subst h1; simp [bj] at h'; omega
    ·exact h
   have d3 : ¬ IntKind.i64.wrap (((s.length - (c :: q).length:Nat):Int) - (f:Int))<15:=by rw [wrap64 _ (by omega) (by omega)]; omega
   simp only [e1,decide_true,if_true,e2,Option.bind_some,d1,d2,d3,decide_false,Bool.false_eq_true,if_false]
  ·simp [bj] at hd
   by_cases d1:48≤c.toNat
   ·have d1':(48:Int)≤(c.toNat:Int):=by omega
    have d2 : ¬ (c.toNat:Int)≤57:=by have:=hd d1; omega
    simp only [e1,decide_true,if_true,e2,Option.bind_some,d1',d2,decide_false,Bool.false_eq_true,if_false]
   ·have d1' : ¬ (48:Int)≤(c.toNat:Int):=by omega
    simp only [e1,decide_true,if_true,e2,Option.bind_some,d1',decide_false,Bool.false_eq_true,if_false]
theorem FZ (s:By) (hs:s.length≤1000) (a k e:Int) (f:Nat) (c0:UInt8) (hf:idx s (f:Int)=some c0) (h48:c0≠48) : ∀ (n:Nat) (x:By),x <:+ s→x.length≤n→f≤s.length - x.length→s.length - x.length - f≤15 →
  af bG ((),((s.length - x.length:Nat):Int),(f:Int),(s,a,k,e,()),()) ((),((s.length - (x.drop ((x.takeWhile bj).take (15 - (s.length - x.length - f))).length).length:Nat):Int),(s,a,k,e,()),()):=by
 intro n
 induction n with
 | zero =>
  intro x hx hn hfl h15
  have:x = []:=List.length_eq_zero_iff.1 (by omega)
  subst this
  exact af.fin (.of fun F=>(mq F s a k e [] hx hs f hfl (.inl rfl)).trans (by simp))
 | succ n ih =>
  intro x hx hn hfl h15
  cases x with
  | nil=>exact af.fin (.of fun F=>(mq F s a k e [] hx hs f hfl (.inl rfl)).trans (by simp))
  | cons c q =>
   have hl:=dS hx
   simp only [List.length_cons] at hl hn
   by_cases hd:bj c=true
   ·by_cases hc:s.length - (c :: q).length - f<15
    ·have i2:=ih q (cr hx) (by omega) (by simp only [List.length_cons] at hfl; omega) (by simp only [List.length_cons] at hc; omega)
     refine af.step (.of fun F=>(Ai F s a k e c q hx hs hd f c0 hf hfl hc).trans (by rw [if_neg h48])) ?_
     have e1:15 - (s.length - (c :: q).length - f)=(15 - (s.length - q.length - f))+1:=by simp only [List.length_cons] at hc hfl ⊢; omega
     rw [List.takeWhile_cons_of_pos hd,e1,List.take_succ_cons,List.length_cons,List.drop_succ_cons]
     exact i2
    ·have:15 - (s.length - (c :: q).length - f)=0:=by omega
     rw [this,List.take_zero,List.length_nil,List.drop_zero]
     exact af.fin (.of fun F=>mq F s a k e _ hx hs f hfl (.inr (.inr (by omega))))
   ·have hd':bj c=false:=by simpa using hd
    rw [List.takeWhile_cons_of_neg hd,List.take_nil,List.length_nil,List.drop_zero]
    exact af.fin (.of fun F=>mq F s a k e _ hx hs f hfl (.inr (.inl ⟨c,q,rfl,hd'⟩)))
theorem Bd (s:By) (hs:s.length≤1000) (a k e:Int) (x:By) (hx:x <:+ s) :
  af bG ((),((s.length - x.length:Nat):Int),((s.length - x.length:Nat):Int),(s,a,k,e,()),()) ((),((s.length - (x.drop (cM x).length).length:Nat):Int),(s,a,k,e,()),()):=by
 cases x with
 | nil=>exact af.fin (.of fun F=>mq F s a k e [] hx hs _ (Nat.le_refl _) (.inl rfl))
 | cons c q =>
  have hf:=iC hx
  by_cases hd:bj c=true
  ·by_cases hc:c=48
   ·subst hc
    refine af.fin (.of fun F=>(Ai F s a k e 48 q hx hs hd _ 48 hf (Nat.le_refl _) (by omega)).trans ?_)
    rw [if_pos rfl]
    rfl
   ·have:=FZ s hs a k e _ c hf hc _ (c :: q) hx (Nat.le_refl _) (Nat.le_refl _) (by omega)
    unfold cM
    simp only
    rw [if_neg hc]
    rw [Nat.sub_self,Nat.sub_zero] at this
    exact this
  ·have hd':bj c=false:=by simpa using hd
   have hc:c≠48:=by rintro rfl; exact hd (by decide)
   unfold cM
   simp only
   rw [if_neg hc,List.takeWhile_cons_of_neg hd]
   exact af.fin (.of fun F=>mq F s a k e _ hx hs _ (Nat.le_refl _) (.inr (.inl ⟨c,q,rfl,hd'⟩)))
theorem tU {s r:By} (h:r <:+ s) (m:Nat) (hm:m≤r.length):sub s ((s.length - r.length:Nat):Int) ((s.length - (r.length - m):Nat):Int)=some (r.take m):=by
 have hl:=dS h
 rw [rY s _ _ (by omega) (by omega)]
 obtain ⟨t,rfl⟩:=h
 have e1:(t ++ r).length - r.length=t.length:=by simp
 rw [e1,List.drop_left' rfl]
 congr 2
 simp
 omega
theorem Hk (s q:By) (c:UInt8) (h:c :: q <:+ s) (hs:s.length≤1000) (k:Int) (hc:c=45∨bj c=true):ae (fun F=>dh F (st s (c :: q) k 0)) (match pM (c :: q) with
  | some (n,r)=>(.int n,st s r k 0)
  | none=>(.nil,st s (c :: q) k 3)):=by
 have hl:=dS h
 simp only [List.length_cons] at hl
 have fin : ∀ (a:By) (n:Option Int) (y:By),Go.Lib.atoi a=n→a.length≤18→ae (fun F=>(iV F a).bind fun v11=>some ((),((s.length - y.length:Nat):Int),v11.1,v11.2,((s,((s.length - (c :: q).length:Nat):Int),k,0,()):RS),())) (match n with
   | some n=>((),((s.length - y.length:Nat):Int),n,false,(s,((s.length - (c :: q).length:Nat):Int),k,0,()),())
   | none=>((),((s.length - y.length:Nat):Int),0,true,(s,((s.length - (c :: q).length:Nat):Int),k,0,()),())):=by
  intro a n y ha hla
  refine .of fun F => ?_
  unfold iV Dr
  rw [if_pos (by simpa using hla),ha,Option.bind_some]
  cases n <;> rfl
 unfold dh
 have e1:=iC h
 unfold st
 simp only [e1,Option.bind_some]
 by_cases c45:c=45
 ·subst c45
  have e3:=dk h hs
  have e4:(((45:UInt8).toNat:Int))=45:=rfl
  simp only [e4,decide_true,if_true,e3,Option.bind_some]
  refine ae.bind (Bd s hs _ k 0 q (cr h)).run ?_
  have hdl:=o8 q
  have hsub:=tU h ((cM q).length+1) (by simp only [List.length_cons]; omega)
  have e5:(45 :: q).length - ((cM q).length+1)=(q.drop (cM q).length).length:=by simp only [List.length_cons,List.length_drop]; omega
  rw [e5] at hsub
  have htk:(45 :: q).take ((cM q).length+1)=45 :: cM q:=by rw [List.take_succ_cons, ← oW q]
  rw [htk] at hsub
  simp only [hsub,Option.bind_some]
  unfold pM
  simp only [if_true]
  by_cases hne:cM q = []
  ·rw [if_pos hne]
   have hat:Go.Lib.atoi (45 :: cM q)=none:=by rw [hne]; rfl
   refine ae.bind (fin _ _ (q.drop (cM q).length) hat (by simp; omega)) ?_
   refine .of fun F => ?_
   simp only [Bool.not_true,Bool.not_false,if_true,iE,Option.bind_some]
  ·rw [if_neg hne]
   have hat:Go.Lib.atoi (45 :: cM q)=some (-(oe (cM q):Int)):=by
    show (if ((45:UInt8) == 45)=true then Option.map (fun m:Nat => -(m:Int)) (decNat (cM q)) else if ((45:UInt8) == 43)=true then Option.map (fun m:Nat=>(m:Int)) (decNat (cM q)) else Option.map (fun m:Nat=>(m:Int)) (decNat (45 :: cM q))) = _
    rw [if_pos (by decide),xK (oK q) hne]
    rfl
   refine ae.bind (fin _ _ (q.drop (cM q).length) hat (by simp; omega)) ?_
   exact .of fun F=>rfl
 ·have hd:bj c=true:=hc.resolve_left c45
  have n45 : ¬ (c.toNat:Int)=45:=by
   intro hh
   exact c45 (UInt8.toNat_inj.1 (show c.toNat=45 by omega))
  simp only [n45,decide_false,Bool.false_eq_true,if_false,Option.bind_some]
  refine ae.bind (Bd s hs _ k 0 (c :: q) h).run ?_
  have hdl:=o8 (c :: q)
  have hsub:=tU h (cM (c :: q)).length hdl.2
  have e5:(c :: q).length - (cM (c :: q)).length=((c :: q).drop (cM (c :: q)).length).length:=by simp
  rw [e5, ← oW (c :: q)] at hsub
  simp only [hsub,Option.bind_some]
  unfold pM
  simp only
  rw [if_neg c45]
  have hne:cM (c :: q) ≠ []:=by
   unfold cM
   simp only
   split
   ·simp
   ·rw [List.takeWhile_cons_of_pos hd]; simp
  rw [if_neg hne]
  obtain ⟨x,l,hxl⟩ : ∃ x l,cM (c :: q)=x :: l:=by
   cases hh:cM (c :: q) with
   | nil=>exact absurd hh hne
   | cons x l=>exact ⟨x,l,rfl⟩
  have hxd:bj x=true:=oK (c :: q) x (by rw [hxl]; exact List.mem_cons_self ..)
  have hat:Go.Lib.atoi (cM (c :: q))=some (oe (cM (c :: q)):Int):=by
   have hdn:=xK (oK (c :: q)) hne
   rw [hxl] at hdn ⊢
   show (if (x == 45)=true then Option.map (fun m:Nat => -(m:Int)) (decNat l) else if (x == 43)=true then Option.map (fun m:Nat=>(m:Int)) (decNat l) else Option.map (fun m:Nat=>(m:Int)) (decNat (x :: l))) = _
   rw [if_neg (by rw [beq_iff_eq]; rintro rfl; exact absurd hxd (by decide)),if_neg (by rw [beq_iff_eq]; rintro rfl; exact absurd hxd (by decide)),hdn]
   rfl
  refine ae.bind (fin _ _ ((c :: q).drop (cM (c :: q)).length) hat (by omega)) ?_
  exact .of fun F=>rfl
end Go.Vm
