/- Tables: what the document prints, parses and finds is the plain one; small tables. No condition but on lengths. -/
import Derived.Test.YtihpjgcbmipdbaaGreatDoorPr4
namespace Go.Vm
open Go.Proofs
set_option linter.unusedVariables false
set_option linter.unusedSimpArgs false
def vE (r:RlT):Prop:=r.1.length≤900∧r.2.1.length≤900∧r.2.2.1.length≤100000 ∧ ∀ p∈r.2.2.1,xX p
theorem vE.r {r:RlT} (h:vE r):yp r:=⟨by have:=h.1; omega,by have:=h.2.1; omega,h.2.2.1,h.2.2.2⟩
theorem xo (l:List RlT) (hl:l.length≤1000000) (hb : ∀ r∈l,vE r) : ∀ (n i:Nat),i+n=l.length→af cJ (l,(i:Int),()) (if (l.drop i).all iO=true then .inl (l,()) else .inr (false,()))
 | 0,i,h=>by
  refine af.fin (.of fun F => ?_)
  unfold cJ
  rw [if_neg (by rw [decide_eq_true_eq]; simp only; omega),List.drop_eq_nil_of_le (by omega)]
  rfl
 | n+1,i,h=>by
  have hi:i<l.length:=by omega
  have hx:idx l (i:Int)=some l[i]:=aV _ _ _ (List.getElem?_eq_getElem hi)
  have hw:IntKind.i64.wrap ((i:Int)+1)=((i+1:Nat):Int):=by rw [wrap64 _ (by omega) (by omega)]; omega
  have ih:=xo l hl hb n (i+1) (by omega)
  obtain ⟨b1,b2,b3,b4⟩:=hb l[i] (List.getElem_mem hi)
  rw [List.drop_eq_getElem_cons hi,List.all_cons]
  generalize l[i]=r at *
  obtain ⟨m,p,pr,u⟩:=r
  simp only at b1 b2 b3 b4
  have e:iO (m,p,pr,u)=(lM m && jw p && kY pr):=rfl
  have hbody:ae (fun F=>cJ F (l,(i:Int),())) (if iO (m,p,pr,u)=true then .inl (l,((i+1:Nat):Int),()) else .inr (.inr (false,()))):=by
   rw [e]
   unfold cJ
   refine ae.pos (by rw [decide_eq_true_eq]; simp only; omega) ?_
   refine ae.bind (r:=((l,(i:Int), !(lM m && jw p),()):List RlT×Int×Bool×Unit)) (ae.bind (.of fun F=>hx) (ae.bind (GR m) ?_)) ?_
   ·cases lM m with
    | true=>exact ae.pos rfl (ae.bind (.of fun F=>hx) (ae.bind (wi p b2) (.ret _)))
    | false=>exact ae.neg (by decide) (.ret _)
   refine ae.bind (r:=((l,(i:Int), !(lM m && jw p && kY pr),()):List RlT×Int×Bool×Unit)) ?_ ?_
   ·cases (lM m && jw p) with
    | true=>exact ae.pos rfl (ae.bind (.of fun F=>hx) (ae.bind (IK pr (by omega) b4) (.ret _)))
    | false=>exact ae.neg Bool.noConfusion (.ret _)
   ·cases (lM m && jw p && kY pr) with
    | true=>exact ae.neg Bool.false_ne_true (.of fun F=>by simp only [hw,if_true])
    | false=>exact ae.pos rfl (.ret _)
  cases hc:iO (m,p,pr,u) with
  | true =>
   rw [hc,if_pos rfl] at hbody
   rw [Bool.true_and]
   exact af.step hbody ih
  | false =>
   rw [hc,if_neg Bool.false_ne_true] at hbody
   rw [Bool.false_and,if_neg Bool.false_ne_true]
   exact af.fin hbody
theorem Ls (l:List RlT) (hl:l.length≤1000000) (hb : ∀ r∈l,vE r):ae (fun F=>fu F l) (vC l):=by
 unfold fu vC
 have h:=xo l hl hb l.length 0 (by omega)
 rw [List.drop_zero] at h
 refine ae.bind h.run ?_
 by_cases ha:l.all iO=true
 ·rw [if_pos ha,ha,Bool.and_true]
  refine ae.bind (r:=((decide (1≤l.length) && decide (l.length≤8),()):Bool×Unit)) (.of fun F => ?_) (.ret _)
  by_cases h0:1≤l.length
  ·rw [if_pos (by rw [decide_eq_true_eq]; simp only; omega),decide_eq_true h0,Bool.true_and]
   simp only
   congr 2
   rw [Bool.eq_iff_iff,decide_eq_true_eq,decide_eq_true_eq]; omega
  ·rw [if_neg (by rw [decide_eq_true_eq]; simp only; omega),decide_eq_false h0,Bool.false_and]
 ·have ha':l.all iO=false:=by simpa using ha
  rw [if_neg ha,ha',Bool.and_false]
  exact .ret _
def vZ (l:List By):By:=l.flatMap fun p=>10 :: p
theorem LN (p:By) (l:List By):gA 10 (p :: l)=p ++ vZ l:=by
 induction l generalizing p with
 | nil=>show p=p ++ []; rw [List.append_nil]
 | cons q r ih =>
  rw [jJ 10 p (by simp),ih q]
  show p ++ 10 :: (q ++ vZ r)=p ++ (10 :: q ++ vZ r)
  rfl
theorem sR (F':Unit) (l:List RlT) (r:RlT) (i:Nat) (out:By) (hx:idx l (i:Int)=some r) (hr:iO r=true) (ho:out.length≤1000000) :
  ae (fun F=>(idx l (i:Int)).bind fun v2=>if decide (out.length+v2.1.length≤9223372036854775807)=true then if decide ((out ++ v2.1).length+([32]:By).length≤9223372036854775807)=true then (idx l (i:Int)).bind fun v3=>if decide ((out ++ v2.1 ++ [32]).length+v3.2.1.length≤9223372036854775807)=true then if decide ((out ++ v2.1 ++ [32] ++ v3.2.1).length+([58,32]:By).length≤9223372036854775807)=true then (idx l (i:Int)).bind fun v4=>(bX F v4.2.2.1).bind fun v5=>if decide ((out ++ v2.1 ++ [32] ++ v3.2.1 ++ [58,32]).length+v5.length≤9223372036854775807)=true then some (Sum.inl (l,out ++ v2.1 ++ [32] ++ v3.2.1 ++ [58,32] ++ v5,IntKind.i64.wrap ((i:Int)+1),())) else none else none else none else none else none:Nat→Option ((List RlT×By×Int×Unit) ⊕ (By×Unit)))
   (.inl (l,out ++ fD r,IntKind.i64.wrap ((i:Int)+1),())):=by
 obtain ⟨q1,q2,q3,q4⟩:=sF hr
 have hm:kY r.2.2.1=true:=by
  unfold iO at hr
  simp only [Bool.and_eq_true] at hr
  exact hr.2
 obtain ⟨m1,_,m3⟩:=jE hm
 have hp:=Cx r.2.2.1 (by omega) m1
 have e:out ++ r.1 ++ [32] ++ r.2.1 ++ [58,32] ++ cV r.2.2.1=out ++ fD r:=by unfold fD; simp [List.append_assoc]
 have big : ∀ {a b:Nat},a+b≤10000000→decide (a+b≤9223372036854775807)=true:=fun h=>decide_eq_true (by omega)
 refine ae.bind (.of fun F=>hx) ?_
 refine ae.pos (big (by omega)) ?_
 refine ae.pos (big (by simp only [List.length_append,List.length_cons,List.length_nil]; omega)) (ae.bind (.of fun F=>hx) ?_)
 refine ae.pos (big (by simp only [List.length_append,List.length_cons,List.length_nil]; omega)) ?_
 refine ae.pos (big (by simp only [List.length_append,List.length_cons,List.length_nil]; omega)) (ae.bind (.of fun F=>hx) (ae.bind hp ?_))
 refine ae.pos (big (by simp only [List.length_append,List.length_cons,List.length_nil]; omega)) (.of fun F => ?_)
 rw [e]
theorem sB (l:List RlT) (hl:l.length≤500) (hr : ∀ r∈l,iO r=true) : ∀ (n i:Nat) (out:By),i+n=l.length→1≤i→out.length≤1002 * i→af bq (l,out,(i:Int),()) (out ++ vZ ((l.drop i).map fD),())
 | 0,i,out,h,h1,ho=>by
  refine af.fin (.of fun F => ?_)
  unfold bq
  rw [if_neg (by rw [decide_eq_true_eq]; simp only; omega),List.drop_eq_nil_of_le (by omega)]
  show some (Sum.inr (out,()))=some (Sum.inr (out ++ [],()))
  rw [List.append_nil]
 | n+1,i,out,h,h1,ho=>by
  have hi:i<l.length:=by omega
  have hx:idx l (i:Int)=some l[i]:=aV _ _ _ (List.getElem?_eq_getElem hi)
  have hw:IntKind.i64.wrap ((i:Int)+1)=((i+1:Nat):Int):=by rw [wrap64 _ (by omega) (by omega)]; omega
  have hr1:=hr l[i] (List.getElem_mem hi)
  rw [List.drop_eq_getElem_cons hi,List.map_cons]
  generalize l[i]=r at *
  obtain ⟨q1,q2,q3,q4⟩:=sF hr1
  have ht:=sR () l r i (out ++ [10]) hx hr1 (by rw [List.length_append,List.length_singleton]; omega)
  rw [hw] at ht
  have ih:=sB l hl hr n (i+1) (out ++ [10] ++ fD r) (by omega) (by omega) (by simp only [List.length_append,List.length_cons,List.length_nil]; omega)
  have e:out ++ vZ (fD r :: (l.drop (i+1)).map fD)=out ++ [10] ++ fD r ++ vZ ((l.drop (i+1)).map fD):=by
   show out ++ (10 :: fD r ++ vZ ((l.drop (i+1)).map fD)) = _
   simp [List.append_assoc]
  rw [e]
  refine af.step ?_ ih
  unfold bq
  refine ae.pos (by rw [decide_eq_true_eq]; simp only; omega) ?_
  refine ae.bind (r:=((l,out ++ [10],(i:Int),()):List RlT×By×Int×Unit)) (ae.pos (by rw [decide_eq_true_eq]; simp only; omega) (ae.pos (by rw [decide_eq_true_eq]; simp only [List.length_cons,List.length_nil]; omega) (.ret _))) ?_
  rw [← hw] at ht ⊢
  exact ht
theorem HM (l:List RlT) (h:vC l=true):ae (fun F=>eK F l) (k7 l):=by
 obtain ⟨h0,h8,hr⟩:=wa h
 unfold eK k7
 cases l with
 | nil=>exact absurd rfl h0
 | cons p r =>
  rw [List.length_cons] at h8
  have hr1:=hr p (List.mem_cons_self ..)
  obtain ⟨q1,q2,q3,q4⟩:=sF hr1
  have hx:idx (p :: r) ((0:Nat):Int)=some p:=aV _ 0 _ rfl
  have ht:=sR () (p :: r) p 0 [] hx hr1 (Nat.zero_le _)
  have hl:=sB (p :: r) (by rw [List.length_cons]; omega) hr r.length 1 (fD p) (by rw [List.length_cons]; omega) (Nat.le_refl _) (by omega)
  have hw:IntKind.i64.wrap (((0:Nat):Int)+1)=((1:Nat):Int):=by rw [wrap64 _ (by omega) (by omega)]; rfl
  have hs:af bq (p :: r,([]:By),0,()) (gA 10 ((p :: r).map fD),()):=by
   rw [List.map_cons,LN]
   refine af.step (x':=(p :: r,[] ++ fD p,IntKind.i64.wrap (((0:Nat):Int)+1),())) ?_ ?_
   ·unfold bq
    refine ae.pos (by rw [decide_eq_true_eq]; simp only [List.length_cons]; omega) ?_
    exact ae.bind (r:=((p :: r,[],0,()):List RlT×By×Int×Unit)) (ae.neg (by simp) (.ret _)) ht
   ·rw [hw,List.nil_append]
    exact hl
  exact ae.bind hs.run (.ret _)
/-! ### cutting at a byte -/
theorem B4 (d:UInt8) (s p q:By) (hs:s=p ++ d :: q) (hp : ∀ b∈p,b≠d) (hl:s.length≤1000000) : ∀ (n i:Nat),i+n=p.length→af aZ (s,(d.toNat:Int),(i:Int),()) (.inr (p,q,true,()))
 | 0,i,h=>by
  have hsl:s.length=p.length+1+q.length:=by rw [hs,List.length_append,List.length_cons]; omega
  have hip:i=p.length:=by omega
  have hx:idx s (i:Int)=some d:=aV _ _ _ (by rw [hs,hip,List.getElem?_append_right (Nat.le_refl _),Nat.sub_self]; rfl)
  have hw:IntKind.i64.wrap ((i:Int)+1)=((i+1:Nat):Int):=by rw [wrap64 _ (by omega) (by omega)]; omega
  have s1:sub s 0 (i:Int)=some p:=by
   have:=jT s 0 i (Nat.zero_le _) (by omega)
   rw [List.drop_zero,Nat.sub_zero,hip] at this
   rw [hip]
   refine (this:sub s 0 (p.length:Int) = _).trans ?_
   rw [hs,List.take_left]
  have s2:sub s ((i+1:Nat):Int) (s.length:Int)=some q:=by
   have:=ec s (i+1) (by omega)
   rw [this,hip,hs]
   congr 1
   rw [show p ++ d :: q=(p ++ [d]) ++ q by simp,List.drop_left' (by simp)]
  refine af.fin (.of fun F => ?_)
  unfold aZ
  rw [if_pos (by rw [decide_eq_true_eq]; simp only; omega)]
  simp only [hx,Option.bind_some]
  rw [if_pos (decide_eq_true trivial)]
  simp only [s1,hw,s2,Option.bind_some]
 | n+1,i,h=>by
  have hsl:s.length=p.length+1+q.length:=by rw [hs,List.length_append,List.length_cons]; omega
  have hi:i<p.length:=by omega
  have hx:idx s (i:Int)=some p[i]:=aV _ _ _ (by rw [hs,List.getElem?_append_left hi,List.getElem?_eq_getElem hi])
  have hc:=hp p[i] (List.getElem_mem hi)
  have hw:IntKind.i64.wrap ((i:Int)+1)=((i+1:Nat):Int):=by rw [wrap64 _ (by omega) (by omega)]; omega
  have nd:((p[i].toNat:Int)=(d.toNat:Int))=(p[i]=d):=nvB p[i] d
  refine af.step (.of fun F => ?_) (B4 d s p q hs hp hl n (i+1) (by omega))
  unfold aZ
  rw [if_pos (by rw [decide_eq_true_eq]; simp only; omega)]
  simp only [hx,Option.bind_some,nd,decide_eq_false hc,Bool.false_eq_true,if_false,hw]
theorem yN (d:UInt8) (s:By) (hp : ∀ b∈s,b≠d) (hl:s.length≤1000000) : ∀ (n i:Nat),i+n=s.length→af aZ (s,(d.toNat:Int),(i:Int),()) (.inl (s,()))
 | 0,i,h=>by
  refine af.fin (.of fun F => ?_)
  unfold aZ
  rw [if_neg (by rw [decide_eq_true_eq]; simp only; omega)]
 | n+1,i,h=>by
  have hi:i<s.length:=by omega
  have hx:idx s (i:Int)=some s[i]:=aV _ _ _ (List.getElem?_eq_getElem hi)
  have hc:=hp s[i] (List.getElem_mem hi)
  have hw:IntKind.i64.wrap ((i:Int)+1)=((i+1:Nat):Int):=by rw [wrap64 _ (by omega) (by omega)]; omega
  have nd:((s[i].toNat:Int)=(d.toNat:Int))=(s[i]=d):=nvB s[i] d
  refine af.step (.of fun F => ?_) (yN d s hp hl n (i+1) (by omega))
  unfold aZ
  rw [if_pos (by rw [decide_eq_true_eq]; simp only; omega)]
  simp only [hx,Option.bind_some,nd,decide_eq_false hc,Bool.false_eq_true,if_false,hw]
theorem Ee (d:UInt8) (k:Int) (hk:k=(d.toNat:Int)) (s:By) (hl:s.length≤1000000):ae (fun F=>ct F (s,k)) (Lib.cut s [d]):=by
 subst hk
 unfold ct
 rcases zp d s with ⟨p,q,hs,hp,hc⟩ | ⟨hp,hc⟩
 ·rw [hc]
  have h:=B4 d s p q hs hp hl p.length 0 (by omega)
  exact ae.bind h.run (.ret _)
 ·rw [hc]
  have h:=yN d s hp hl s.length 0 (by omega)
  exact ae.bind h.run (.ret _)
/-! ### parsing -/
def tV (x:By):Option RlT:=if (Lib.cut x [32]).2.2=false∨(Lib.cut (Lib.cut x [32]).2.1 [58]).2.2=false∨(Lib.cut (Lib.cut x [32]).2.1 [58]).2.1 = []∨(lW ((Lib.cut (Lib.cut x [32]).2.1 [58]).2.1.drop 1)).2=false then none
 else some ((Lib.cut x [32]).1,(Lib.cut (Lib.cut x [32]).2.1 [58]).1,(lW ((Lib.cut (Lib.cut x [32]).2.1 [58]).2.1.drop 1)).1,())
theorem vk (r:RlT) (h:iO r=true):tV (fD r)=some r:=by
 obtain ⟨m,p,pr,u⟩:=r
 unfold iO at h
 simp only [Bool.and_eq_true] at h
 obtain ⟨⟨h1,h2⟩,h3⟩:=h
 have hc:Lib.cut (fD (m,p,pr,u)) [32]=(m,p ++ 58 :: 32 :: cV pr,true):=qw (fun b hb=>(Fp h1 b hb).2.1) _
 have hd:Lib.cut (p ++ 58 :: 32 :: cV pr) [58]=(p,32 :: cV pr,true):=qw (fun b hb=>(IH h2 b hb).2.2) _
 unfold tV
 rw [hc]
 simp only
 rw [hd]
 simp only
 rw [show (32 :: cV pr:By).drop 1=cV pr from rfl,yh pr h3,if_neg]
 rintro (h | h | h | h) <;> cases h
def gQ:Nat→By→Bool→List RlT→Option (List RlT)
 | 0,rest,more,out=>some out
 | n+1,rest,more,out=>if more=true∧out.length<9 then (match tV (Lib.cut rest [10]).1 with
  | none=>none
  | some r=>gQ n (Lib.cut rest [10]).2.1 (Lib.cut rest [10]).2.2 (out ++ [r])) else some out
def sq (s:By):List RlT×Bool:=match gQ 10 s true [] with
 | none=>([],false)
 | some l=>if vC l=true∧k7 l=s then (l,true) else ([],false)
theorem tL : ∀ (r:List RlT) (p:RlT) (n:Nat) (out:List RlT),(∀ q∈p :: r,iO q=true)→out.length+r.length+1≤8→r.length+2≤n→gQ n (gA 10 ((p :: r).map fD)) true out=some (out ++ p :: r)
 | [],p,n,out,hr,ho,hn=>by
  have hp:=hr p (List.mem_cons_self ..)
  simp only [List.length_nil] at ho hn
  obtain ⟨k,rfl⟩ : ∃ k,n=k+1:=⟨n - 1,by omega⟩
  have hc:Lib.cut (gA 10 ([p].map fD)) [10]=(fD p,[],false):=wx (zK hp)
  rw [gQ,if_pos ⟨rfl,by omega⟩,hc]
  simp only
  rw [vk p hp]
  simp only
  cases k with
  | zero=>rfl
  | succ k=>rw [gQ,if_neg (fun hh=>absurd hh.1 Bool.false_ne_true)]
 | q :: r,p,n,out,hr,ho,hn=>by
  have hp:=hr p (List.mem_cons_self ..)
  simp only [List.length_cons] at ho hn
  obtain ⟨k,rfl⟩ : ∃ k,n=k+1:=⟨n - 1,by omega⟩
  have hc:Lib.cut (gA 10 ((p :: q :: r).map fD)) [10]=(fD p,gA 10 ((q :: r).map fD),true):=by
   rw [List.map_cons,jJ 10 _ (by simp)]
   exact qw (zK hp) _
  rw [gQ,if_pos ⟨rfl,by omega⟩,hc]
  simp only
  rw [vk p hp]
  simp only
  rw [tL r q k (out ++ [p]) (fun x hx=>hr x (List.mem_cons_of_mem _ hx)) (by rw [List.length_append,List.length_singleton]; omega) (by omega),List.append_assoc]
  rfl
theorem yI {p:PhT} (h:eF p=true):xX p:=by
 rcases iH h with ⟨n,rfl,_,_⟩ | ⟨nm,n,rfl,h,_,_⟩ | ⟨nm,t,rfl,h,ht⟩ | ⟨n,t,rfl,_,ht⟩
 ·exact ⟨Nat.zero_le _,Nat.zero_le _⟩
 ·exact ⟨by have:=ug h; simp only; omega,Nat.zero_le _⟩
 ·exact ⟨by have:=ug h; simp only; omega,by have:=kV ht; simp only; omega⟩
 ·exact ⟨Nat.zero_le _,by have:=kV ht; simp only; omega⟩
theorem DC (x:By) (hx:x.length≤900) (r:RlT) (h:tV x=some r):vE r:=by
 have l1:=jS x [32]
 have l2:=jS (Lib.cut x [32]).2.1 [58]
 unfold tV at h
 split at h
 ·cases h
 ·cases h
  refine ⟨by simp only; omega,by simp only; omega,?_⟩
  unfold lW
  split
  ·exact ⟨Nat.zero_le _,fun p hp=>by cases hp⟩
  ·rename_i l hl
   by_cases hm:kY l=true∧cV l=(Lib.cut (Lib.cut x [32]).2.1 [58]).2.1.drop 1
   ·rw [if_pos hm]
    obtain ⟨h1,_,h3⟩:=jE hm.1
    exact ⟨by simp only; omega,fun p hp=>yI (h1 p hp)⟩
   ·rw [if_neg hm]
    exact ⟨Nat.zero_le _,fun p hp=>by cases hp⟩
theorem vn : ∀ (n:Nat) (rest:By) (more:Bool) (out l:List RlT),rest.length≤900→(∀ r∈out,vE r)→out.length+n≤20→gQ n rest more out=some l→(∀ r∈l,vE r)∧l.length≤20
 | 0,rest,more,out,l,hr,hb,ho,h=>by
  cases h
  exact ⟨hb,by omega⟩
 | n+1,rest,more,out,l,hr,hb,ho,h=>by
  rw [gQ] at h
  split at h
  ·split at h
   ·cases h
   ·rename_i r hrl
    have l1:=jS rest [10]
    have:=DC _ (by omega) r hrl
    refine vn n _ _ _ l (by omega) (fun q hq => ?_) (by rw [List.length_append,List.length_singleton]; omega) h
    rcases List.mem_append.1 hq with hq | hq
    ·exact hb q hq
    ·rw [List.mem_singleton] at hq
     subst hq
     exact this
  ·cases h
   exact ⟨hb,by omega⟩
theorem yv (l:List RlT) (h:vC l=true):sq (k7 l)=(l,true):=by
 obtain ⟨h0,h8,hr⟩:=wa h
 cases l with
 | nil=>exact absurd rfl h0
 | cons p r =>
  rw [List.length_cons] at h8
  have:=tL r p 10 [] hr (by simp only [List.length_nil]; omega) (by omega)
  unfold sq
  rw [show k7 (p :: r)=gA 10 ((p :: r).map fD) from rfl,this]
  exact if_pos ⟨h,rfl⟩
abbrev RqR:=By×Unit×List RlT×Unit ⊕ Unit×Bool×List RlT×Unit
def rqF (s:By):Option (List RlT)→RqR
 | some l => .inl (s,(),l,())
 | none => .inr ((),false,[],())
theorem tA (s:By) : ∀ (n:Nat) (rest:By) (more:Bool) (out:List RlT),rest.length≤900→10≤n+out.length→out.length≤1000→af cj (s,(),rest,more,out,()) (rqF s (gQ n rest more out))
 | n,rest,more,out,hr,hn,ho=>by
  have h1 : ∀ F:Nat,(if more=true then some (s,(),rest,decide ((out.length:Int)<9),out,()) else some (s,(),rest,false,out,()):Option (By×Unit×By×Bool×List RlT×Unit))=some (s,(),rest,decide (more=true∧out.length<9),out,()):=by
   intro F
   cases more with
   | true =>
    rw [if_pos rfl]
    by_cases h9:out.length<9
    ·rw [decide_eq_true (by omega),decide_eq_true ⟨rfl,h9⟩]
    ·rw [decide_eq_false (by omega),decide_eq_false (fun hh=>h9 hh.2)]
   | false=>rfl
  by_cases hc:more=true∧out.length<9
  case neg =>
   have e:gQ n rest more out=some out:=by
    cases n with
    | zero=>rfl
    | succ n=>rw [gQ,if_neg hc]
   rw [e]
   refine af.fin ?_
   unfold cj
   exact ae.bind (.of h1) (ae.neg (by rw [decide_eq_true_eq]; exact hc) (.ret _))
  cases n with
  | zero=>omega
  | succ n =>
   have l0:=jS rest [10]
   have l1:=jS (Lib.cut rest [10]).1 [32]
   have l2:=jS (Lib.cut (Lib.cut rest [10]).1 [32]).2.1 [58]
   have u0:=Ee 10 10 rfl rest (by omega)
   have u1:=Ee 32 32 rfl (Lib.cut rest [10]).1 (by omega)
   have u2:=Ee 58 58 rfl (Lib.cut (Lib.cut rest [10]).1 [32]).2.1 (by omega)
   have u3:=JJ ((Lib.cut (Lib.cut (Lib.cut rest [10]).1 [32]).2.1 [58]).2.1.drop 1) (by rw [List.length_drop]; omega)
   have ih:=fun rest' more' out'=>tA s n rest' more' out'
   rw [gQ,if_pos hc]
   unfold tV
   generalize Lib.cut rest [10]=A at *
   obtain ⟨line,rest',more'⟩:=A
   simp only at l0 l1 l2 u0 u1 u2 u3 ⊢
   generalize Lib.cut line [32]=B at *
   obtain ⟨m,line2,a⟩:=B
   simp only at l1 l2 u1 u2 u3 ⊢
   generalize Lib.cut line2 [58]=C at *
   obtain ⟨p,line3,b⟩:=C
   simp only at l2 u2 u3 ⊢
   generalize hD:lW (line3.drop 1)=D at *
   obtain ⟨pr,ok⟩:=D
   simp only
   have hbody : ∀ z,ae (fun F=>(if decide (a=false∨b=false∨line3 = [])=true then some (Sum.inr (Sum.inr ((),false,[],()))) else (sub line3 1 (line3.length:Int)).bind fun v7=>(di F v7).bind fun v8=>if (!v8.2)=true then some (Sum.inr (Sum.inr ((),false,[],()))) else if decide ((out.length + [((m,p,v8.1,Unit.unit):RlT)].length) * 56≤140737488355328)=true then some (Sum.inl (s,(),rest',more',out ++ [(m,p,v8.1,Unit.unit)],())) else none:Option ((By×Unit×By×Bool×List RlT×Unit) ⊕ RqR))) z→ae (fun F=>cj F (s,(),rest,more,out,())) z:=by
    intro z hz
    unfold cj
    refine ae.bind (.of h1) (ae.pos (decide_eq_true hc) (ae.bind u0 (ae.bind u1 (ae.bind u2 ?_))))
    refine ae.bind (r:=((s,(),rest',more',line3,m,p,decide (a=false∨b=false),out,()):By×Unit×By×Bool×By×By×By×Bool×List RlT×Unit)) (.of fun F=>by cases a <;> cases b <;> simp) ?_
    refine ae.bind (r:=((s,(),rest',more',line3,m,p,decide (a=false∨b=false∨line3 = []),out,()):By×Unit×By×Bool×By×By×By×Bool×List RlT×Unit)) (.of fun F=>by cases a <;> cases b <;> simp) ?_
    exact hz
   by_cases hbad:a=false∨b=false∨line3 = []
   ·rw [if_pos (by rcases hbad with h | h | h; exact .inl h; exact .inr (.inl h); exact .inr (.inr (.inl h)))]
    exact af.fin (hbody _ (ae.pos (decide_eq_true hbad) (.ret _)))
   ·have hne:line3 ≠ []:=fun hh=>hbad (.inr (.inr hh))
    have hpos:=List.length_pos_iff.2 hne
    have hsb:sub line3 1 (line3.length:Int)=some (line3.drop 1):=ec line3 1 (by omega)
    cases ok with
    | false =>
     rw [if_pos (.inr (.inr (.inr rfl)))]
     refine af.fin (hbody _ (ae.neg (by rw [decide_eq_true_eq]; exact hbad) (ae.bind (.of fun F=>hsb) (ae.bind u3 (ae.pos rfl (.ret _))))))
    | true =>
     rw [if_neg (by rintro (h | h | h | h); exact hbad (.inl h); exact hbad (.inr (.inl h)); exact hbad (.inr (.inr h)); cases h)]
     refine af.step (hbody _ (ae.neg (by rw [decide_eq_true_eq]; exact hbad) (ae.bind (.of fun F=>hsb) (ae.bind u3 (ae.neg Bool.false_ne_true (ae.pos (by rw [decide_eq_true_eq]; simp only [List.length_singleton]; omega) (.ret _))))))) ?_
     exact ih rest' more' (out ++ [(m,p,pr,())]) (by omega) (by rw [List.length_append,List.length_singleton]; omega) (by rw [List.length_append,List.length_singleton]; omega)
theorem vW (s:By) (hs:s.length≤900):ae (fun F=>c8 F s) (sq s):=by
 unfold c8 sq
 have h:=tA s 10 s true [] hs (by simp) (Nat.zero_le _)
 refine ae.bind h.run ?_
 cases hr:gQ 10 s true [] with
 | none=>exact .ret _
 | some l =>
  obtain ⟨b1,b2⟩:=vn 10 s true [] l hs (fun r hr=>by cases hr) (by decide) hr
  have hm:=Ls l (by omega) b1
  show ae _ (if vC l=true∧k7 l=s then (l,true) else ([],false))
  by_cases hmm:vC l=true
  ·have hp:=HM l hmm
   rw [hmm] at hm
   by_cases he:k7 l=s
   ·rw [if_pos ⟨hmm,he⟩]
    refine ae.bind (r:=(((),false,l,()):Unit×Bool×List RlT×Unit)) (ae.bind hm (ae.pos rfl (ae.bind hp (.of fun F => ?_)))) (ae.neg Bool.false_ne_true (.ret _))
    show some ((), !decide (k7 l=s),l,()) = _
    rw [decide_eq_true he]
    rfl
   ·rw [if_neg (fun hh=>he hh.2)]
    refine ae.bind (r:=(((),true,l,()):Unit×Bool×List RlT×Unit)) (ae.bind hm (ae.pos rfl (ae.bind hp (.of fun F => ?_)))) (ae.pos rfl (.ret _))
    show some ((), !decide (k7 l=s),l,()) = _
    rw [decide_eq_false he]
    rfl
  ·have hm':vC l=false:=by simpa using hmm
   rw [hm'] at hm
   rw [if_neg (fun hh=>hmm hh.1)]
   exact ae.bind (r:=(((),true,l,()):Unit×Bool×List RlT×Unit)) (ae.bind hm (ae.neg (by decide) (.ret _))) (ae.pos rfl (.ret _))
end Go.Vm
