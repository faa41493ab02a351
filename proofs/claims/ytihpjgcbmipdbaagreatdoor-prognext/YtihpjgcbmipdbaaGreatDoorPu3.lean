import Derived.Test.YtihpjgcbmipdbaaGreatDoorPh3
import Derived.Test.YtihpjgcbmipdbaaGreatDoorPjv
import Derived.Test.YtihpjgcbmipdbaaGreatDoorPu5
/- Phrases: what the program fills is the plain text. No condition but on lengths. -/
namespace Go.Vm
open Go.Lib (decodeL decodeN decodeL_N decode_N decodeN_shape decodeL_le)
set_option linter.unusedVariables false
set_option linter.unusedSimpArgs false
/-! ### values -/
abbrev EnT:=Int×By×Int×Int×Int×Int×By×Int×Int×Int×By×By×By×By×Unit
abbrev EnT.key (e:EnT):By:=e.2.1
abbrev EnT.method (e:EnT):By:=e.2.2.2.2.2.2.2.2.2.2.2.1
abbrev EnT.path (e:EnT):By:=e.2.2.2.2.2.2.2.2.2.2.2.2.1
abbrev EnT.body (e:EnT):By:=e.2.2.2.2.2.2.2.2.2.2.2.2.2.1
def vY (body name:By):By:=if (firstM name (iS (vP body))).2=true then (if lF (vP (firstM name (iS (vP body))).1)=4 then rC (vP (firstM name (iS (vP body))).1) else (firstM name (iS (vP body))).1) else []
def lB (e:EnT) (g:By):By:=match g with
 | _ :: b :: q=>if b=98 then e.body else if b=107 then e.key else if b=109 then e.method else if b=112 then e.path else if b=37 then [37] else vY e.body (q.take (q.length - 1))
 | _ => []
theorem yn (name:By) : ∀ l:List Me,(∀ m∈l,(bG 7 m.2.1).length≤400)→(firstM name l).1.length≤400
 | [],h=>Nat.zero_le _
 | m :: l,h=>by
  unfold firstM
  split
  ·exact h m (List.mem_cons_self ..)
  ·exact yn name l fun x hx=>h x (List.mem_cons_of_mem _ hx)
theorem vX (body name:By):(firstM name (iS (vP body))).1.length≤400:=by
 have hv:=Bp body
 cases hc:vP body with
 | obj l=>exact yn name l fun m hm=>((pI hv hc).2.2 m hm).2
 | _=>exact Nat.zero_le _
theorem Iq (s:By):(rC (vP s)).length≤400:=by
 have hv:=Bp s
 cases hc:vP s with
 | str t =>
  rw [hc] at hv
  rcases hv with h | ⟨_,h2⟩
  ·cases h
  ·have e:bG 8 (.str t)=quo t:=rfl
   rw [e] at h2
   have:=zX t
   unfold quo at h2
   simp only [List.length_cons,List.length_append,List.length_nil] at h2
   show t.length≤400
   omega
 | _=>exact Nat.zero_le _
theorem Jk (body name:By):(vY body name).length≤400:=by
 unfold vY
 split
 ·split
  ·exact Iq _
  ·exact vX body name
 ·exact Nat.zero_le _
theorem Hh (body name:By) (hb:body.length≤1000):ae (fun F=>iC F (body,name)) (vY body name):=by
 unfold iC
 refine ae.bind (Ef body name hb) ?_
 have h4:=vX body name
 unfold vY
 generalize firstM name (iS (vP body))=v at h4
 cases hv:v.2 with
 | false=>exact ae.pos rfl (.ret _)
 | true =>
  refine ae.neg (by decide) ?_
  refine ae.bind (LD v.1 (by omega)) ?_
  rw [if_pos rfl]
  by_cases hk:lF (vP v.1)=4
  ·rw [if_pos hk]
   exact ae.pos (decide_eq_true hk) (.ret _)
  ·rw [if_neg hk]
   exact ae.neg (by rw [decide_eq_true_eq]; exact hk) (.ret _)
def Je (g:By):Prop := ∃ b q,g=37 :: b :: q∧(b=37∨b=98∨b=107∨b=109∨b=112∨(b=123∧q ≠ []))
theorem I6 (p:Pc) (e:EnT) (hp:p.1=true→Je p.2.1) (hpl:p.2.1.length≤1000) (he:e.body.length≤1000):ae (fun F=>jq F (p,e)) (if p.1=true then lB e p.2.1 else p.2.1):=by
 obtain ⟨g,t,u⟩:=p
 unfold jq
 cases g with
 | false=>exact ae.pos rfl (.ret _)
 | true =>
  obtain ⟨b,q,hq,hb⟩:=hp rfl
  simp only at hq hpl
  subst hq
  have hi:idx (37 :: b :: q:By) 1=some b:=bn _ 1 _ rfl
  have nv : ∀ k:UInt8,((b.toNat:Int)=(k.toNat:Int))=(b=k):=fun k=>nvB b k
  have n98:((b.toNat:Int)=98)=(b=98):=nv 98
  have n107:((b.toNat:Int)=107)=(b=107):=nv 107
  have n109:((b.toNat:Int)=109)=(b=109):=nv 109
  have n112:((b.toNat:Int)=112)=(b=112):=nv 112
  have n37:((b.toNat:Int)=37)=(b=37):=nv 37
  refine ae.neg (by show ¬ (!true)=true; decide) ?_
  refine ae.bind (.of fun F=>hi) ?_
  rw [if_pos rfl]
  unfold lB
  simp only [n98,n107,n109,n112,n37]
  by_cases c1:b=98
  ·rw [if_pos c1]; exact ae.pos (decide_eq_true c1) (.ret _)
  rw [if_neg c1]
  refine ae.neg (by rw [decide_eq_true_eq]; exact c1) ?_
  by_cases c2:b=107
  ·rw [if_pos c2]; exact ae.pos (decide_eq_true c2) (.ret _)
  rw [if_neg c2]
  refine ae.neg (by rw [decide_eq_true_eq]; exact c2) ?_
  by_cases c3:b=109
  ·rw [if_pos c3]; exact ae.pos (decide_eq_true c3) (.ret _)
  rw [if_neg c3]
  refine ae.neg (by rw [decide_eq_true_eq]; exact c3) ?_
  by_cases c4:b=112
  ·rw [if_pos c4]; exact ae.pos (decide_eq_true c4) (.ret _)
  rw [if_neg c4]
  refine ae.neg (by rw [decide_eq_true_eq]; exact c4) ?_
  by_cases c5:b=37
  ·rw [if_pos c5]; exact ae.pos (decide_eq_true c5) (.ret _)
  rw [if_neg c5]
  refine ae.neg (by rw [decide_eq_true_eq]; exact c5) ?_
  have hqn:q ≠ []:=by
   rcases hb with h | h | h | h | h | h
   ·exact absurd h c5
   ·exact absurd h c1
   ·exact absurd h c2
   ·exact absurd h c3
   ·exact absurd h c4
   ·exact h.2
  have hql:=List.length_pos_iff.2 hqn
  simp only [List.length_cons] at hpl
  have hs:sub (37 :: b :: q:By) 2 (IntKind.i64.wrap (((37 :: b :: q:By).length:Int) - 1))=some (q.take (q.length - 1)):=by
   have hw:IntKind.i64.wrap (((37 :: b :: q:By).length:Int) - 1)=((q.length+1:Nat):Int):=by
    simp only [List.length_cons]
    rw [wrap64 _ (by omega) (by omega)]
    omega
   rw [hw]
   have:=fE (37 :: b :: q:By) 2 (q.length+1) (by omega) (by simp)
   rw [show (37 :: b :: q:By).drop 2=q from rfl,show q.length+1 - 2=q.length - 1 by omega] at this
   exact this
  refine ae.bind (r:=((vY e.body (q.take (q.length - 1)),()):By×Unit)) (ae.bind (.of fun F=>hs) (ae.bind (Hh _ _ he) (.ret _))) (.ret _)
theorem JL (r:By) (h:bM (37 :: r)≠0):Je ((37 :: r:By).take (bM (37 :: r))):=by
 unfold bM at h ⊢
 cases r with
 | nil=>exact absurd rfl h
 | cons b q =>
  simp only at h ⊢
  by_cases hc:b=37∨b=98∨b=107∨b=109∨b=112
  ·rw [if_pos hc]
   refine ⟨b,[],rfl,?_⟩
   rcases hc with h | h | h | h | h <;> simp [h]
  ·rw [if_neg hc] at h ⊢
   by_cases hb:b=123
   ·rw [if_pos hb] at h ⊢
    by_cases hk:(q.takeWhile (fun c=>c != 125)).length<q.length∧nmP (q.takeWhile (fun c=>c != 125))=true
    ·rw [if_pos hk]
     refine ⟨b,q.take ((q.takeWhile (fun c=>c != 125)).length+1),?_,?_⟩
     ·rw [show (q.takeWhile (fun c=>c != 125)).length+3=((q.takeWhile (fun c=>c != 125)).length+1)+1+1 by omega,List.take_succ_cons,List.take_succ_cons]
     ·refine .inr (.inr (.inr (.inr (.inr ⟨hb,?_⟩))))
      intro hh
      have:=congrArg List.length hh
      rw [List.length_take] at this
      simp only [List.length_nil] at this
      omega
    ·rw [if_neg hk] at h; exact absurd rfl h
   ·rw [if_neg hb] at h; exact absurd rfl h
theorem se : ∀ (n:Nat) (s:By),s.length≤n → ∀ l,lG s=some l→l.length≤s.length ∧ ∀ p∈l,(p.1=true→Je p.2.1)∧p.2.1.length≤s.length
 | 0,s,h,l,hl=>by
  obtain rfl:s = []:=List.length_eq_zero_iff.1 (by omega)
  rw [rL] at hl
  cases hl
  exact ⟨Nat.le_refl _,fun p hp=>by cases hp⟩
 | n+1,s,h,l,hl=>by
  cases s with
  | nil =>
   rw [rL] at hl
   cases hl
   exact ⟨Nat.le_refl _,fun p hp=>by cases hp⟩
  | cons c r =>
   have hp:=bC (c :: r)
   have hgl:=uO (c :: r)
   simp only [List.length_cons] at h hgl ⊢
   rw [tq] at hl
   split at hl
   ·cases hl
   split at hl
   ·rename_i h37
    subst h37
    split at hl
    ·cases hl
    ·rename_i hg
     obtain ⟨l',h1,rfl⟩:=Option.map_eq_some_iff.1 hl
     obtain ⟨i1,i2⟩:=se n ((37 :: r:By).drop (bM (37 :: r))) (by rw [List.length_drop,List.length_cons]; omega) l' h1
     rw [List.length_drop,List.length_cons] at i1 i2
     refine ⟨by rw [List.length_cons]; omega,fun p hp => ?_⟩
     rcases List.mem_cons.1 hp with rfl | hp
     ·exact ⟨fun _=>JL r hg,by simp only [List.length_take,List.length_cons]; omega⟩
     ·exact ⟨(i2 p hp).1,by have:=(i2 p hp).2; omega⟩
   ·obtain ⟨l',h1,rfl⟩:=Option.map_eq_some_iff.1 hl
    obtain ⟨i1,i2⟩:=se n ((c :: r).drop (decodeL (c :: r)).2) (by rw [List.length_drop,List.length_cons]; omega) l' h1
    rw [List.length_drop,List.length_cons] at i1 i2
    refine ⟨by rw [List.length_cons]; omega,fun p hp => ?_⟩
    rcases List.mem_cons.1 hp with rfl | hp
    ·exact ⟨fun hh=>absurd hh Bool.false_ne_true,by simp only [List.length_take,List.length_cons]; omega⟩
    ·exact ⟨(i2 p hp).1,by have:=(i2 p hp).2; omega⟩
/-! ### filling -/
theorem wW (e:EnT) (g:By) (h:e.key.length≤1000∧e.method.length≤1000∧e.path.length≤1000∧e.body.length≤1000):(lB e g).length≤1000:=by
 unfold lB
 split
 ·repeat' split
  ·exact h.2.2.2
  ·exact h.1
  ·exact h.2.1
  ·exact h.2.2.1
  ·exact Nat.le_of_ble_eq_true rfl
  ·exact Nat.le_trans (Jk _ _) (by decide)
 ·exact Nat.zero_le _
theorem mU (val:By→By) (p:Pc) (l:List Pc):iq val (p :: l)=(if p.1=true then val p.2.1 else p.2.1) ++ iq val l:=by unfold iq; rw [List.flatMap_cons]
theorem vR (l:List Pc) (e:EnT) (hll:l.length≤1000) (hl : ∀ p∈l,(p.1=true→Je p.2.1)∧p.2.1.length≤1000) (he:e.key.length≤1000∧e.method.length≤1000∧e.path.length≤1000∧e.body.length≤1000) : ∀ (n i:Nat) (out:By),i+n=l.length→out.length≤1000 * i →
  af gQ ((),(),l,(l.length:Int),(i:Int),e,((),(),()),out,()) ((),((),(),()),out ++ iq (lB e) (l.drop i),())
 | 0,i,out,h,ho=>by
  refine af.fin (.of fun F => ?_)
  unfold gQ
  rw [if_neg (by rw [decide_eq_true_eq]; simp only; omega),List.drop_eq_nil_of_le (by omega)]
  show some (Sum.inr ((),((),(),()),out,()))=some (Sum.inr ((),((),(),()),out ++ [],()))
  rw [List.append_nil]
 | n+1,i,out,h,ho=>by
  have hi:i<l.length:=by omega
  have hx:idx l (i:Int)=some l[i]:=bn _ _ _ (List.getElem?_eq_getElem hi)
  obtain ⟨p1,p2⟩:=hl l[i] (List.getElem_mem hi)
  have hv:=I6 l[i] e p1 p2 he.2.2.2
  have hvl:(if l[i].1=true then lB e l[i].2.1 else l[i].2.1).length≤1000:=by
   split
   ·exact wW e _ he
   ·exact p2
  have hw:IntKind.i64.wrap ((i:Int)+1)=((i+1:Nat):Int):=by rw [wrap64 _ (by omega) (by omega)]; omega
  rw [List.drop_eq_getElem_cons hi,mU]
  generalize (if l[i].1=true then lB e l[i].2.1 else l[i].2.1)=v at hv hvl
  refine af.step (x':=((),(),l,(l.length:Int),((i+1:Nat):Int),e,((),(),()),out ++ v,())) ?_ ?_
  ·unfold gQ
   refine ae.pos (by rw [decide_eq_true_eq]; simp only; omega) ?_
   refine ae.bind (.of fun F=>hx) ?_
   refine ae.bind hv ?_
   refine ae.bind (r:=(((v.length:Int),()),(),out ++ v,())) (.of fun F => ?_) (.of fun F => ?_)
   ·unfold dY
    have:b8 F ((),out,())=some ((),(),out,()):=rfl
    simp only [this,Option.bind_some]
    rw [if_pos (by rw [decide_eq_true_eq]; omega)]
    rfl
   ·simp only [hw]
  ·have:=vR l e hll hl he n (i+1) (out ++ v) (by omega) (by rw [List.length_append]; omega)
   rw [List.append_assoc] at this
   exact this
def Bg:List Int→By→By
 | [],acc=>acc
 | n :: l,acc=>if 40<acc.length+(if bA n=0 then [63] else bw n.toNat).length then acc else Bg l (acc ++ (if bA n=0 then [63] else bw n.toNat))
theorem vE (l:List Int) (n:Int):jH (l ++ [n])=jH l ++ nF n:=by
 unfold jH
 simp
theorem C8 (T:By) : ∀ (n p:Nat) (R:List Int) (acc:By),p≤T.length→T.length - p≤n→jH R=acc→acc.length≤40→R.length≤40 →
  ∃ R',af eL ((),(acc.length:Int),(),(T,p),R,()) ((),R',())∧jH R'=Bg ((bX (T.drop p)).map (·.1)) acc:=by
 intro n
 induction n with
 | zero =>
  intro p R acc hp hn hR ha hr
  rw [List.drop_eq_nil_of_le (by omega),fF]
  refine ⟨R,af.fin (.of fun F => ?_),hR⟩
  unfold eL
  rw [if_neg (by rw [decide_eq_true_eq]; simp only; omega)]
 | succ n ih =>
  intro p R acc hp hn hR ha hr
  by_cases hlt:p<T.length
  case neg =>
   rw [List.drop_eq_nil_of_le (by omega),fF]
   refine ⟨R,af.fin (.of fun F => ?_),hR⟩
   unfold eL
   rw [if_neg (by rw [decide_eq_true_eq]; exact hlt)]
  have hne:=nU hlt
  have hra:=lh T p
  have hrl:=fU T p
  have hok:=mf (T.drop p)
  have hnx:=uM hlt
  have hpos:=bC (T.drop p)
  rw [gN hne,List.drop_drop,List.map_cons]
  generalize (decodeL (T.drop p)).1=c at *
  generalize (decodeL (T.drop p)).2=k at *
  unfold Bg
  simp only [Int.toNat_natCast]
  -- the sign that is let out
  obtain ⟨d,hd1,hd2,hd3⟩ : ∃ d:Nat,okR d∧(if bA (c:Int)=0 then [63] else bw c)=bw d∧(if bA (c:Int)=0 then (63:Int) else (c:Int))=(d:Int):=by
   by_cases h0:bA (c:Int)=0
   ·exact ⟨63,by unfold okR; omega,by rw [if_pos h0]; rfl,by rw [if_pos h0]; rfl⟩
   ·exact ⟨c,hok,by rw [if_neg h0],by rw [if_neg h0]⟩
  have hrn:=fun F=>mO F d hd1
  have hel:=mP d
  have hep:=rH d
  rw [hd2]
  have hw:IntKind.i64.wrap ((acc.length:Int)+((bw d).length:Int))=((acc.length+(bw d).length:Nat):Int):=by rw [wrap64 _ (by omega) (by omega)]; omega
  have hbody : ∀ (z:(Unit×Int×Unit×(By×Nat)×List Int×Unit) ⊕ (Unit×List Int×Unit)),(∀ F:Nat,(if decide (40<((acc.length+(bw d).length:Nat):Int))=true then some (Sum.inr ((),R,())) else if decide ((R.length + [(d:Int)].length) * 4≤140737488355328)=true then some (Sum.inl ((),((acc.length+(bw d).length:Nat):Int),(),(T,p+k),R ++ [(d:Int)],())) else none:Option ((Unit×Int×Unit×(By×Nat)×List Int×Unit) ⊕ (Unit×List Int×Unit)))=some z) → ∀ F,eL F ((),(acc.length:Int),(),(T,p),R,())=some z:=by
   intro z hz F
   have hz:=hz F
   unfold eL
   rw [if_pos (by rw [decide_eq_true_eq]; exact hlt)]
   simp only [hra,hrl,nz,Option.bind_some]
   have h9:(if decide (bA (c:Int)=0)=true then some ((),(acc.length:Int),63,(),(T,p+k),R,()) else some ((),(acc.length:Int),(c:Int),(),(T,p+k),R,()):Option (Unit×Int×Int×Unit×(By×Nat)×List Int×Unit))=some ((),(acc.length:Int),(d:Int),(),(T,p+k),R,()):=by
    by_cases h0:bA (c:Int)=0
    ·rw [if_pos (decide_eq_true h0)]
     rw [if_pos h0] at hd3
     rw [← hd3]
    ·rw [if_neg (by rw [decide_eq_true_eq]; exact h0)]
     rw [if_neg h0] at hd3
     rw [← hd3]
   rw [h9]
   simp only [Option.bind_some,hrn F,hw]
   exact hz
  by_cases h40:40<acc.length+(bw d).length
  ·rw [if_pos h40]
   refine ⟨R,af.fin (.of (hbody _ fun F => ?_)),hR⟩
   rw [if_pos (by rw [decide_eq_true_eq]; omega)]
  ·rw [if_neg h40]
   -- as many bX as bytes at most
   have hlen : ∀ l:List Int,(∀ n∈l,1≤(nF n).length)→l.length≤(jH l).length:=by
    intro l
    induction l using mA with
    | h0=>intro _; exact Nat.zero_le _
    | h1 l a ih2 =>
     intro h
     have h1:=ih2 fun n hn=>h n (List.mem_append_left _ hn)
     have h2:=h a (by simp)
     rw [vE,List.length_append,List.length_append,List.length_singleton]
     omega
   have henc : ∀ n:Int,1≤(nF n).length:=fun n=>by rw [e3]; exact rH _
   have hRd:jH (R ++ [(d:Int)])=acc ++ bw d:=by rw [vE,hR,iZ d hd1]
   have hRl:(R ++ [(d:Int)]).length≤40:=by
    have h3:=hlen (R ++ [(d:Int)]) (fun n _=>henc n)
    rw [hRd] at h3
    have h4:(acc ++ bw d).length=acc.length+(bw d).length:=List.length_append
    omega
   have hal:(acc ++ bw d).length=acc.length+(bw d).length:=List.length_append
   obtain ⟨R',i1,i2⟩:=ih (p+k) (R ++ [(d:Int)]) (acc ++ bw d) hnx (by omega) hRd (by omega) hRl
   refine ⟨R',af.step (.of (hbody _ fun F => ?_)) i1,i2⟩
   rw [if_neg (by rw [decide_eq_true_eq]; omega),if_pos (by rw [decide_eq_true_eq]; simp only [List.length_singleton]; omega),hal]
def oY (s:By) (e:EnT):By:=if 60<s.length then [] else match lG s with
 | none => []
 | some l=>Bg ((bX (iq (lB e) l)).map (·.1)) []
theorem HM (s:By) (e:EnT) (hs:s.length≤1000) (he:e.key.length≤1000∧e.method.length≤1000∧e.path.length≤1000∧e.body.length≤1000):ae (fun F=>iA F (s,e)) (oY s e):=by
 unfold iA oY
 refine ae.bind (KH s hs) ?_
 unfold Jm
 by_cases h6:60<s.length
 ·rw [if_pos h6,if_pos h6]
  exact ae.pos rfl (.ret _)
 rw [if_neg h6,if_neg h6]
 cases hc:lG s with
 | none=>exact ae.pos rfl (.ret _)
 | some l =>
  obtain ⟨g1,g2⟩:=se s.length s (Nat.le_refl _) l hc
  refine ae.neg (by show ¬ (!true)=true; decide) ?_
  have h0:=vR l e (by omega) (fun p hp=>⟨(g2 p hp).1,by have:=(g2 p hp).2; omega⟩) he l.length 0 [] (by omega) (by simp)
  rw [List.drop_zero,List.nil_append] at h0
  refine ae.bind h0.run ?_
  refine ae.bind (r:=(iq (lB e) l,((),(),()))) (.ret _) ?_
  obtain ⟨R',i1,i2⟩:=C8 (iq (lB e) l) (iq (lB e) l).length 0 [] [] (Nat.zero_le _) (by omega) rfl (by decide) (by decide)
  rw [List.drop_zero] at i2
  show ae _ (Bg ((bX (iq (lB e) l)).map (·.1)) [])
  rw [← i2]
  exact ae.bind i1.run (.ret _)
end Go.Vm
/- The document's signs of a text, plainly. No condition but on lengths. -/
namespace Go.Vm
open Go.Lib (decodeL decodeN decodeL_N decode_N decodeN_shape decodeL_le)
set_option linter.unusedVariables false
set_option linter.unusedSimpArgs false
theorem Fc (s:B8) (hs:s.length≤1000000000000) (p:Nat) (hp:p≤s.length) (out at':List Int) (ho:out.length+(s.length - p)≤1000000000000) (ha:at'.length+(s.length - p)≤1000000000000) :
  af bK (s,(),(),(p:Int),out,at',()) ((),(),out ++ (bX (s.drop p)).map (·.1),at' ++ ats p (bX (s.drop p)),()):=by
 have main : ∀ n p out at',s.length - p≤n→p≤s.length→out.length+(s.length - p)≤1000000000000→at'.length+(s.length - p)≤1000000000000 →
   af bK (s,(),(),(p:Int),out,at',()) ((),(),out ++ (bX (s.drop p)).map (·.1),at' ++ ats p (bX (s.drop p)),()):=by
  intro n
  induction n with
  | zero =>
   intro p out at' hn hp ho ha
   have:p=s.length:=by omega
   subst this
   refine af.fin (ae.of fun F => ?_)
   unfold bK
   have h : ¬ ((s.length:Nat):Int)<(s.length:Int):=by omega
   simp [h,fF,ats]
  | succ n ih =>
   intro p out at' hn hp ho ha
   by_cases hlt:p<s.length
   ·have hpos:=bC (s.drop p)
    have hnx:=uM hlt
    have h:(p:Int)<(s.length:Int):=by omega
    have e1:((out.length:Int)+1) * 8≤140737488355328:=by omega
    have e2:((at'.length:Int)+1) * 8≤140737488355328:=by omega
    rw [gN (nU hlt),sP]
    refine af.step (x':=(s,(),(),((p+(decodeL (s.drop p)).2:Nat):Int),out ++ [((decodeL (s.drop p)).1:Int)],at' ++ [(p:Int)],())) (ae.of fun F => ?_) ?_
    ·unfold bK
     have e1':(out.length+1) * 8≤140737488355328:=by omega
     have e2':(at'.length+1) * 8≤140737488355328:=by omega
     simp only [h,decide_true,if_true,ek s p hp,Option.bind_some,BT F _ (nU hlt),List.length_cons,List.length_nil,Nat.zero_add,e1',e2']
     rw [wrap64 _ (by omega) (by omega)]
     rfl
    ·have:=ih (p+(decodeL (s.drop p)).2) (out ++ [((decodeL (s.drop p)).1:Int)]) (at' ++ [(p:Int)]) (by omega) hnx (by simp; omega) (by simp; omega)
     simpa [ats,Gr hlt] using this
   ·have:p=s.length:=by omega
    subst this
    refine af.fin (ae.of fun F => ?_)
    unfold bK
    have h : ¬ ((s.length:Nat):Int)<(s.length:Int):=by omega
    simp [h,fF,ats]
 exact main _ p out at' (Nat.le_refl _) hp ho ha
theorem oX (s:B8) (hs:s.length≤1000000000000):ae (fun F=>cB F s) ((bX s).map (·.1),ats 0 (bX s)):=by
 unfold cB
 have:=Fc s hs 0 (by omega) [] [] (by simp; omega) (by simp; omega)
 refine this.run.bind ?_
 exact ae.of fun F=>by simp
end Go.Vm
