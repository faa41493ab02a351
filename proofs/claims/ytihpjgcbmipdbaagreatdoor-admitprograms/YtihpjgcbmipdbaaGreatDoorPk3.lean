/- Paths: plain. No condition. -/
import Derived.Test.YtihpjgcbmipdbaaGreatDoorPk2
namespace Go.Vm
open Go Go.Proofs
set_option linter.unusedVariables false
/-! ### cut at each stroke -/
def aT:B8→List B8
 | [] => [[]]
 | c :: s=>if c=47 then [] :: aT s else match aT s with
  | p :: ps=>(c :: p) :: ps
  | [] => [[c]]
theorem DS:aT [] = [[]]:=rfl
theorem lq (s:B8):aT (47 :: s) = [] :: aT s:=by rw [aT,if_pos rfl]
theorem pA {c:UInt8} {s:B8} {p:B8} {ps:List B8} (h:c≠47) (hs:aT s=p :: ps):aT (c :: s)=(c :: p) :: ps:=by rw [aT,if_neg h,hs]
theorem Lv (l:B8):Lib.index (47 :: l) [47]=((0:Nat):Int):=by rw [Lib.index]; simp [List.isPrefixOf]
theorem Iv {b:UInt8} {l:B8} {j:Nat} (h:b≠47) (hj:Lib.index l [47]=(j:Int)):Lib.index (b :: l) [47]=((j+1:Nat):Int):=by
 have hp:([47]:B8).isPrefixOf (b :: l)=false:=by simp [List.isPrefixOf,Ne.symm h]
 rw [Lib.index,hp,hj]
 have : ¬ ((j:Int) == -1)=true:=fun e=>by have:=beq_iff_eq.1 e; omega
 simp [this]
theorem om : ∀ s:B8,Lib.split s [47]=aT s
 | []=>by simp [Lib.split,Lib.count_miss,Lib.index,Lib.splitK,aT]
 | b :: l=>by
  have ih:=om l
  unfold Lib.split at ih ⊢
  by_cases hb:b=47
  ·subst hb
   rw [Lib.count_cons_eq,lq,Nat.add_comm,Lib.splitK,Lv]
   rw [if_neg (by simp)]
   simpa using ih
  ·rw [Lib.count_cons_ne b 47 l hb]
   by_cases hm:Lib.index l [47] = -1
   ·rw [Lib.count_miss hm] at ih ⊢
    rw [Lib.splitK] at ih ⊢
    exact (pA hb ih.symm).symm
   ·have hge:=Lib.index_ge l [47]
    obtain ⟨j,hj⟩ : ∃ j:Nat,Lib.index l [47]=j:=⟨(Lib.index l [47]).toNat,by omega⟩
    have hc:=Lib.count_hit (s:=l) (sub := [47]) (by simp) hj
    generalize Lib.count (l.drop (j + [47].length)) [47]=k at hc
    rw [hc,Nat.add_comm,Lib.splitK,hj,if_neg (fun e=>by have:=beq_iff_eq.1 e; omega)] at ih
    rw [hc,Nat.add_comm,Lib.splitK,Iv hb hj,if_neg (fun e=>by have:=beq_iff_eq.1 e; omega)]
    rw [pA hb ih.symm]
    simp
def fF:B8→Nat
 | []=>0
 | c :: s=>if c=47 then 0 else fF s+1
theorem AV : ∀ s:B8,fF s≤s.length
 | []=>by simp [fF]
 | c :: s=>by
  rw [fF]
  have:=AV s
  split <;> simp <;> omega
theorem oc : ∀ s:B8,aT s=s.take (fF s) :: (if fF s<s.length then aT (s.drop (fF s+1)) else [])
 | []=>by simp [aT,fF]
 | c :: s=>by
  by_cases h:c=47
  ·subst h
   rw [lq]
   simp [fF]
  ·have ih:=oc s
   rw [pA h ih]
   have e:fF (c :: s)=fF s+1:=by rw [fF,if_neg h]
   rw [e]
   simp
theorem l6 (n:Nat) : ∀ s:B8,s.length≤n→(aT s).length≤s.length+1 ∧ ∀ p∈aT s,p.length≤n
 | [],h=>by simp [aT]
 | c :: s,h=>by
  obtain ⟨h1,h2⟩:=l6 n s (by simp at h; omega)
  by_cases hc:c=47
  ·subst hc
   rw [lq]
   exact ⟨by simp <;> omega,fun p hp=>by
    rcases List.mem_cons.1 hp with rfl | hp
    ·simp
    ·exact h2 p hp⟩
  ·rw [oc (c :: s)]
   have h3:=oc s
   have e:fF (c :: s)=fF s+1:=by rw [fF,if_neg hc]
   have e2:(if fF s+1<(c :: s).length then aT ((c :: s).drop (fF s+1+1)) else [])=(if fF s<s.length then aT (s.drop (fF s+1)) else []):=by simp
   rw [e,e2]
   rw [h3] at h1 h2
   generalize (if fF s<s.length then aT (s.drop (fF s+1)) else [])=r at h1 h2
   simp only [List.length_cons] at h1 h ⊢
   refine ⟨by omega,fun p hp => ?_⟩
   rcases List.mem_cons.1 hp with rfl | hp
   ·rw [List.length_take,List.length_cons]; omega
   ·have:=h2 p (List.mem_cons_of_mem _ hp)
    omega
/-! ### the walk along the parts -/
def dI:List B8→List B8→Option (List B8)
 | [],out=>some out
 | p :: ps,out=>if (iJ p).2=false then none else if (iJ p).1 = []∨(iJ p).1 = [46] then dI ps out else
  if (iJ p).1 = [46,46] then (if out = [] then none else dI ps (out.take (out.length - 1))) else dI ps (out ++ [(iJ p).1])
theorem GQ (s:B8):(iJ s).1.length≤s.length:=by
 unfold iJ
 cases h:gu s with
 | none=>simp
 | some t=>exact qk _ s t (Nat.le_refl _) h
def Few (n:Nat) (l:List B8):Prop:=l.length≤n ∧ ∀ q∈l,q.length≤1000
theorem Few.take {n:Nat} {l:List B8} (h:Few n l) (k:Nat):Few n (l.take k):=⟨by have:=h.1; simp; omega,fun q hq=>h.2 q (List.mem_of_mem_take hq)⟩
theorem Few.add {n:Nat} {l:List B8} (h:Few n l) {q:B8} (hq:q.length≤1000):Few (n+1) (l ++ [q]):=⟨by have:=h.1; simp; omega,fun x hx=>by
 rcases List.mem_append.1 hx with hx | hx
 ·exact h.2 x hx
 ·simp at hx; subst hx; exact hq⟩
theorem Few.mono {n m:Nat} {l:List B8} (h:Few n l) (hm:n≤m):Few m l:=⟨Nat.le_trans h.1 hm,h.2⟩
theorem mM : ∀ (ps out l:List B8) (n:Nat),Few n out→(∀ p∈ps,p.length≤1000)→dI ps out=some l→Few (n+ps.length) l
 | [],out,l,n,ho,hp,h=>by cases h; exact ho
 | p :: ps,out,l,n,ho,hp,h=>by
  have hpp:=hp p (by simp)
  have hps : ∀ q∈ps,q.length≤1000:=fun q hq=>hp q (by simp [hq])
  have hq:=GQ p
  rw [dI] at h
  split at h
  ·cases h
  ·split at h
   ·exact (mM ps out l n ho hps h).mono (by simp)
   ·split at h
    ·split at h
     ·cases h
     ·exact (mM ps _ l n (ho.take _) hps h).mono (by simp)
    ·exact (mM ps _ l (n+1) (ho.add (by omega)) hps h).mono (by simp <;> omega)
def prR:Option (List B8)→(Unit×List B8×Unit) ⊕ (Unit×Bool×List B8×Unit)
 | none => .inr ((),false,[],())
 | some l => .inl ((),l,())
theorem nP (ps:List B8) (hn:ps.length≤1000) (hp : ∀ p∈ps,p.length≤1000) : ∀ (m k:Nat) (out:List B8),k+m=ps.length→out.length+m≤5000 →
  af cQ ((),ps,(ps.length:Int),(k:Int),out,()) (prR (dI (ps.drop k) out))
 | 0,k,out,h,ho=>by
  refine af.fin (.of fun F => ?_)
  unfold cQ
  refine (if_neg (by simp <;> omega)).trans ?_
  rw [List.drop_eq_nil_of_le (by omega)]
  rfl
 | m+1,k,out,h,ho=>by
  have hk:k<ps.length:=by omega
  have hx:=sA ps k (k:Int) rfl hk
  have hpk:=hp ps[k] (List.getElem_mem hk)
  have hrd:=DX ps[k] hpk
  rw [List.drop_eq_getElem_cons hk,dI]
  generalize hq:iJ ps[k]=q at hrd
  obtain ⟨q,ok⟩:=q
  cases ok
  ·rw [if_pos rfl]
   refine af.fin ?_
   unfold cQ
   refine ae.pos (by simp <;> omega) ?_
   refine ae.bind (r := .inr ((),false,[],())) ?_ (.of fun F=>rfl)
   exact ae.bind (.const hx) (ae.bind hrd (ae.pos rfl (.ret _)))
  ·rw [if_neg (by simp)]
   simp only
   by_cases hd:q = []∨q = [46]
   ·rw [if_pos hd]
    refine af.step ?_ (nP ps hn hp m (k+1) out (by omega) (by omega))
    unfold cQ
    refine ae.pos (by simp <;> omega) ?_
    refine ae.bind (r := .inl ((),ps,(ps.length:Int),(k:Int),out,())) ?_ (.of fun F=>by simp only [cm]; rw [ig k (by omega)])
    refine ae.bind (.const hx) (ae.bind hrd (ae.neg (by simp) ?_))
    refine ae.bind (r:=((),q,ps,(ps.length:Int),(k:Int),q,true,out,())) (.of fun F => ?_) (ae.pos rfl (.ret _))
    by_cases h0:q = []
    ·subst h0; rfl
    ·have h1:q = [46]:=hd.resolve_left h0
     subst h1; rfl
   ·rw [if_neg hd]
    have h0 : ¬ q = []:=fun h=>hd (.inl h)
    have h1 : ¬ q = [46]:=fun h=>hd (.inr h)
    have hv:(fun _:Nat=>if decide (q = [])=true then some ((),q,ps,(ps.length:Int),(k:Int),q,decide (q = []),out,()) else some ((),q,ps,(ps.length:Int),(k:Int),q,decide (q = [46]),out,()))=fun _=>some ((),q,ps,(ps.length:Int),(k:Int),q,false,out,()):=by
     funext F
     rw [if_neg (by simpa using h0),decide_eq_false h1]
    by_cases h2:q = [46,46]
    ·rw [if_pos h2]
     by_cases hz:out = []
     ·rw [if_pos hz]
      refine af.fin ?_
      unfold cQ
      refine ae.pos (by simp <;> omega) ?_
      refine ae.bind (r := .inr ((),false,[],())) ?_ (.of fun F=>rfl)
      refine ae.bind (.const hx) (ae.bind hrd (ae.neg (by simp) ?_))
      refine ae.bind (r:=((),q,ps,(ps.length:Int),(k:Int),q,false,out,())) (.of fun F=>congrFun hv F) (ae.neg (by simp) ?_)
      refine ae.pos (by simpa using h2) (ae.pos (by simp [hz]) (.ret _))
     ·rw [if_neg hz]
      have hlen:0<out.length:=List.length_pos_iff.2 hz
      have hw:IntKind.i64.wrap ((out.length:Int) - 1)=((out.length - 1:Nat):Int):=by rw [wrap64] <;> omega
      refine af.step ?_ (nP ps hn hp m (k+1) (out.take (out.length - 1)) (by omega) (by simp <;> omega))
      unfold cQ
      refine ae.pos (by simp <;> omega) ?_
      refine ae.bind (r := .inl ((),ps,(ps.length:Int),(k:Int),out.take (out.length - 1),())) ?_ (.of fun F=>by simp only [cm]; rw [ig k (by omega)])
      refine ae.bind (.const hx) (ae.bind hrd (ae.neg (by simp) ?_))
      refine ae.bind (r:=((),q,ps,(ps.length:Int),(k:Int),q,false,out,())) (.of fun F=>congrFun hv F) (ae.neg (by simp) ?_)
      refine ae.pos (by simpa using h2) (ae.neg (by simp [hz]) (.of fun F => ?_))
      simp only [hw]
      rw [if_pos (by simp <;> omega),Int.toNat_natCast]
    ·rw [if_neg h2]
     refine af.step ?_ (nP ps hn hp m (k+1) (out ++ [q]) (by omega) (by simp <;> omega))
     unfold cQ
     refine ae.pos (by simp <;> omega) ?_
     refine ae.bind (r := .inl ((),ps,(ps.length:Int),(k:Int),out ++ [q],())) ?_ (.of fun F=>by simp only [cm]; rw [ig k (by omega)])
     refine ae.bind (.const hx) (ae.bind hrd (ae.neg (by simp) ?_))
     refine ae.bind (r:=((),q,ps,(ps.length:Int),(k:Int),q,false,out,())) (.of fun F=>congrFun hv F) (ae.neg (by simp) ?_)
     exact ae.neg (by simpa using h2) (ae.pos (by simp <;> omega) (.ret _))
theorem BQ (s:B8) (hs:s.length≤900):ae (fun F=>jO F s) (match dI (aT s) [] with
  | none=>([],false)
  | some l=>(l,true)):=by
 unfold jO
 have hsp:ae (fun F=>fg F (s,[47])) (aT s):=by
  refine .of fun F => ?_
  show tX (s,[47]) = _
  unfold tX
  rw [if_pos (by simp <;> omega),if_pos (by simp),om]
 refine ae.bind hsp ?_
 obtain ⟨h1,h2⟩:=l6 900 s hs
 have hl:=nP (aT s) (by omega) (fun p hp=>by have:=h2 p hp; omega) _ 0 [] (Nat.zero_add _) (by simp <;> omega)
 rw [List.drop_zero] at hl
 refine ae.bind hl.run ?_
 cases dI (aT s) [] with
 | none=>exact .ret _
 | some l=>exact .ret _
/-! ### joined again -/
def dN (l:List B8):B8:=l.flatMap fun q=>47 :: ew q
theorem zx (l:List B8) (hn:l.length≤2000) (hq : ∀ q∈l,q.length≤1000) : ∀ (m k:Nat) (acc:B8),k+m=l.length→acc.length+3001 * m≤100000000 →
  af ir (acc,l,(l.length:Int),(k:Int),()) (acc ++ dN (l.drop k),())
 | 0,k,acc,h,ha=>by
  refine af.fin (.of fun F => ?_)
  unfold ir
  refine (if_neg (by simp <;> omega)).trans ?_
  rw [List.drop_eq_nil_of_le (by omega)]
  simp [dN]
 | m+1,k,acc,h,ha=>by
  have hk:k<l.length:=by omega
  have hx:=sA l k (k:Int) rfl hk
  have hqk:=hq l[k] (List.getElem_mem hk)
  have hw:=wg l[k]
  rw [List.drop_eq_getElem_cons hk]
  have e:acc ++ dN (l[k] :: l.drop (k+1))=(acc ++ ([47] ++ ew l[k])) ++ dN (l.drop (k+1)):=by unfold dN; rw [List.flatMap_cons,List.append_assoc]; rfl
  rw [e]
  refine af.step ?_ (zx l hn hq m (k+1) (acc ++ ([47] ++ ew l[k])) (by omega) (by simp <;> omega))
  unfold ir
  refine ae.pos (by simp <;> omega) (ae.bind (.const hx) (ae.bind (Ak l[k] hqk) (ae.pos (by simp <;> omega) (ae.pos (by simp <;> omega) (.of fun F => ?_)))))
  simp only
  rw [ig k (by omega)]
theorem xM (l:List B8) (hn:l.length≤2000) (hq : ∀ q∈l,q.length≤1000) : ∀ (m k:Nat) (acc:B8),k+m=l.length→acc.length+3001 * m≤100000000 →
  af dQ ((),acc,(k:Int),l,()) (acc ++ dN (l.drop k),())
 | 0,k,acc,h,ha=>by
  refine af.fin (.of fun F => ?_)
  unfold dQ
  refine (if_neg (by simp <;> omega)).trans ?_
  rw [List.drop_eq_nil_of_le (by omega)]
  simp [dN]
 | m+1,k,acc,h,ha=>by
  have hk:k<l.length:=by omega
  have hx:=sA l k (k:Int) rfl hk
  have hqk:=hq l[k] (List.getElem_mem hk)
  have hw:=wg l[k]
  rw [List.drop_eq_getElem_cons hk]
  have e:acc ++ dN (l[k] :: l.drop (k+1))=(acc ++ [47] ++ ew l[k]) ++ dN (l.drop (k+1)):=by unfold dN; rw [List.flatMap_cons]; simp
  rw [e]
  refine af.step ?_ (xM l hn hq m (k+1) (acc ++ [47] ++ ew l[k]) (by omega) (by simp <;> omega))
  unfold dQ
  refine ae.pos (by simp <;> omega) (ae.pos (by simp <;> omega) (ae.bind (.const hx) (ae.bind (A1 l[k] hqk) (ae.pos (by simp <;> omega) (.of fun F => ?_)))))
  simp only
  rw [ig k (by omega)]
def xG (l:List B8):B8×Bool:=if 60<(if dN l = [] then [47] else dN l).length then ([],false) else ((if dN l = [] then [47] else dN l),true)
def dz:B8→B8×Bool
 | []=>([],false)
 | c :: t=>if 59<t.length∨c≠47 then ([],false) else match dI (aT t) [] with
  | none=>([],false)
  | some l=>xG l
theorem iK {c:UInt8} {t:B8} (h:59<t.length∨c≠47):dz (c :: t)=([],false):=if_pos h
theorem ic {t:B8} (h : ¬ 59<t.length):dz (47 :: t)=match dI (aT t) [] with
  | none=>([],false)
  | some l=>xG l:=if_neg (by simpa using h)
theorem yF:iJ []=([],true):=by rw [jN mQ]; rfl
theorem xK (s:B8):ae (fun F=>jd F s) (dz s):=by
 unfold jd
 cases s with
 | nil =>
  refine ae.bind (r:=([],true,())) (.of fun F=>if_neg (by simp)) ?_
  exact ae.bind (r:=([],true,())) (.of fun F=>if_neg (by simp)) (ae.pos rfl (.ret _))
 | cons c t =>
 by_cases h60:59<t.length
 ·rw [iK (.inl h60)]
  refine ae.bind (r:=(c :: t,true,())) (.of fun F=>(if_pos (by simp)).trans ?_) ?_
  ·rw [decide_eq_true (by simp <;> omega)]
  exact ae.bind (r:=(c :: t,true,())) (.of fun F=>if_neg (by simp)) (ae.pos rfl (.ret _))
 refine ae.bind (r:=(c :: t,false,())) (.of fun F=>(if_pos (by simp)).trans ?_) ?_
 ·rw [decide_eq_false (by simp <;> omega)]
 by_cases hc:c=47
 ·subst hc
  refine ae.bind (r:=(47 :: t,false,())) (.of fun F=>rfl) (ae.neg (by simp) ?_)
  refine ae.bind (BQ (47 :: t) (by simp <;> omega)) ?_
  have e:dI (aT (47 :: t)) []=dI (aT t) []:=by rw [lq,dI,yF,if_neg (by simp),if_pos (.inl rfl)]
  rw [e,ic h60]
  cases hw:dI (aT t) [] with
  | none=>exact ae.pos rfl (.ret _)
  | some l =>
   obtain ⟨h1,h2⟩:=l6 900 t (by omega)
   obtain ⟨f1,f2⟩:=mM _ _ l 0 ⟨by simp,by simp⟩ (fun p hp=>by have:=h2 p hp; omega) hw
   have hl:=zx l (by omega) f2 _ 0 [] (Nat.zero_add _) (by simp <;> omega)
   rw [List.drop_zero,List.nil_append] at hl
   refine ae.neg (by simp) (ae.bind hl.run ?_)
   show ae _ (xG l)
   unfold xG
   refine ae.bind (r:=((if dN l = [] then [47] else dN l),())) (.of fun F => ?_) ?_
   ·by_cases h0:dN l = []
    ·rw [if_pos (by simpa using h0),if_pos h0]
    ·rw [if_neg (by simpa using h0),if_neg h0]
   ·by_cases hz:60<(if dN l = [] then [47] else dN l).length
    ·rw [if_pos hz]
     exact ae.pos (by simp only [decide_eq_true_eq]; omega) (.ret _)
    ·rw [if_neg hz]
     exact ae.neg (by simp only [decide_eq_true_eq]; omega) (.ret _)
 ·rw [iK (.inr hc)]
  have hc' : ¬ ((c.toNat:Int)=47):=fun h=>hc (UInt8.toNat_inj.1 (by show c.toNat=47; omega))
  refine ae.bind (r:=(c :: t,true,())) (.of fun F=>(if_pos rfl).trans ?_) (ae.pos rfl (.ret _))
  show some (c :: t, !decide ((c.toNat:Int)=47),()) = _
  rw [decide_eq_false hc']
  rfl
/-! ### the document's -/
theorem C3 (s:B8) (hs:s.length≤1000) (at':Int) (out:List B8) : ∀ (m e:Nat),s.length - e≤m→e≤s.length →
  af cw (s,(),at',(e:Int),out,()) (s,(),at',((e+fF (s.drop e):Nat):Int),out,())
 | m,e,hm,he=>by
  by_cases hlt:e<s.length
  ·have hx:=sA s e (e:Int) rfl hlt
   rw [List.drop_eq_getElem_cons hlt,fF]
   by_cases hc:s[e]=47
   ·rw [if_pos hc,Nat.add_zero]
    refine af.fin (.of fun F => ?_)
    unfold cw
    refine bd (a:=(s,(),at',(e:Int),false,out,())) ?_ (if_neg (by simp))
    rw [if_pos (by simp <;> omega),hx,Option.bind_some,hc]
    rfl
   ·cases m with
    | zero=>omega
    | succ m =>
    rw [if_neg hc]
    have ih:=C3 s hs at' out m (e+1) (by omega) (by omega)
    rw [show e+(fF (s.drop (e+1))+1)=e+1+fF (s.drop (e+1)) by omega]
    refine af.step (.of fun F => ?_) ih
    have hc' : ¬ ((s[e].toNat:Int)=47):=fun h=>hc (UInt8.toNat_inj.1 (by show s[e].toNat=47; omega))
    unfold cw
    refine bd (a:=(s,(),at',(e:Int),true,out,())) ?_ ((if_pos rfl).trans ?_)
    ·rw [if_pos (by simp <;> omega),hx,Option.bind_some,decide_eq_false hc']
     rfl
    ·simp only
     rw [ig e (by omega)]
  ·have:e=s.length:=by omega
   subst this
   refine af.fin (.of fun F => ?_)
   unfold cw
   refine bd (a:=(s,(),at',(s.length:Int),false,out,())) (if_neg (by simp)) ?_
   rw [if_neg (by simp),List.drop_eq_nil_of_le (Nat.le_refl _)]
   rfl
def rpR:Option (List B8)→(Unit×List B8×Unit) ⊕ (B8×Bool×Unit)
 | none => .inr ([],false,())
 | some l => .inl ((),l,())
theorem E6 (s:B8) (hs:s.length≤900) (a:Nat) (ha:a≤s.length) (out:List B8) (ho:out.length≤5000) (q:B8) (ok:Bool) (hq:iJ ((s.drop a).take (fF (s.drop a)))=(q,ok)) (r:(B8×Unit×Int×List B8×Unit) ⊕ ((Unit×List B8×Unit) ⊕ (B8×Bool×Unit)))
  (hr:r=if ok=false then .inr (.inr ([],false,())) else if q = []∨q = [46] then .inl (s,(),((a+fF (s.drop a)+1:Nat):Int),out,()) else
   if q = [46,46] then (if out = [] then .inr (.inr ([],false,())) else .inl (s,(),((a+fF (s.drop a)+1:Nat):Int),out.take (out.length - 1),())) else .inl (s,(),((a+fF (s.drop a)+1:Nat):Int),out ++ [q],())) :
  ae (fun F=>bB F (s,(),(a:Int),out,())) r:=by
 have hseg:=AV (s.drop a)
 rw [List.length_drop] at hseg
 have hsub:sub s (a:Int) ((a+fF (s.drop a):Nat):Int)=some ((s.drop a).take (fF (s.drop a))):=by
  rw [M6 s a _ (by omega) (by omega)]
  congr 2
  omega
 have hrd:=B0 ((s.drop a).take (fF (s.drop a))) (by simp <;> omega)
 rw [hq] at hrd
 unfold bB
 refine ae.pos (by simp <;> omega) (ae.bind (C3 s (by omega) (a:Int) out _ a (Nat.le_refl _) ha).run ?_)
 refine ae.bind (r:=(s,(),((a+fF (s.drop a):Nat):Int),q,ok,out,())) (ae.bind (.const hsub) (ae.bind hrd (.ret _))) ?_
 have hn:=ig (a+fF (s.drop a)) (by omega)
 cases ok
 ·rw [hr,if_pos rfl]
  exact ae.pos rfl (.ret _)
 ·rw [if_neg (by simp)] at hr
  refine ae.neg (by simp) ?_
  by_cases hd:q = []∨q = [46]
  ·rw [if_pos hd] at hr
   rw [hr]
   refine ae.bind (r:=(s,(),((a+fF (s.drop a)+1:Nat):Int),q,true,out,())) (.of fun F => ?_) (ae.pos rfl (.ret _))
   simp only [hn]
   by_cases h0:q = []
   ·rw [if_neg (by simp [h0])]
   ·have h1:q = [46]:=hd.resolve_left h0
    rw [if_pos (by simpa using h0),decide_eq_true h1]
  ·rw [if_neg hd] at hr
   have h0 : ¬ q = []:=fun h=>hd (.inl h)
   have h1 : ¬ q = [46]:=fun h=>hd (.inr h)
   refine ae.bind (r:=(s,(),((a+fF (s.drop a)+1:Nat):Int),q,false,out,())) (.of fun F => ?_) (ae.neg (by simp) ?_)
   ·simp only [hn]
    rw [if_pos (by simpa using h0),decide_eq_false h1]
   by_cases h2:q = [46,46]
   ·rw [if_pos h2] at hr
    refine ae.pos (by simpa using h2) ?_
    by_cases hz:out = []
    ·rw [if_pos hz] at hr
     rw [hr]
     exact ae.pos (by simp [hz]) (.ret _)
    ·rw [if_neg hz] at hr
     rw [hr]
     have hlen:0<out.length:=List.length_pos_iff.2 hz
     have hw:IntKind.i64.wrap ((out.length:Int) - 1)=((out.length - 1:Nat):Int):=by rw [wrap64] <;> omega
     refine ae.neg (by simp [hz]) (.of fun F => ?_)
     simp only [hw]
     rw [if_pos (by simp <;> omega),Int.toNat_natCast]
   ·rw [if_neg h2] at hr
    rw [hr]
    exact ae.neg (by simpa using h2) (ae.pos (by simp <;> omega) (.ret _))
theorem wJ (s:B8) (hs:s.length≤900) : ∀ (m a:Nat) (out:List B8),s.length - a≤m→a≤s.length→out.length+(s.length - a)≤4000 →
  af bB (s,(),(a:Int),out,()) (rpR (dI (aT (s.drop a)) out))
 | m,a,out,hm,ha,ho=>by
  have hseg:=AV (s.drop a)
  rw [List.length_drop] at hseg
  rw [oc,dI]
  obtain ⟨q,ok,hq⟩ : ∃ q ok,iJ ((s.drop a).take (fF (s.drop a)))=(q,ok):=⟨_,_,rfl⟩
  have go:=E6 s hs a ha out (by omega) q ok hq _ rfl
  -- what follows a part
  have next : ∀ out':List B8,out'.length≤out.length+1→af bB (s,(),((a+fF (s.drop a)+1:Nat):Int),out',()) (rpR (dI (if fF (s.drop a)<(s.drop a).length then aT ((s.drop a).drop (fF (s.drop a)+1)) else []) out')):=by
   intro out' ho'
   by_cases hlt:fF (s.drop a)<(s.drop a).length
   ·rw [if_pos hlt]
    rw [List.length_drop] at hlt
    cases m with
    | zero=>omega
    | succ m =>
    have ih:=wJ s hs m (a+fF (s.drop a)+1) out' (by omega) (by omega) (by omega)
    rw [List.drop_drop]
    exact ih
   ·rw [if_neg hlt]
    rw [List.length_drop] at hlt
    refine af.fin (.of fun F => ?_)
    unfold bB
    refine (if_neg (by simp <;> omega)).trans ?_
    rfl
  rw [hq]
  simp only
  cases ok
  ·rw [if_pos rfl] at go ⊢
   exact af.fin go
  ·rw [if_neg (by simp)] at go ⊢
   by_cases hd:q = []∨q = [46]
   ·rw [if_pos hd] at go ⊢
    exact af.step go (next out (by omega))
   ·rw [if_neg hd] at go ⊢
    by_cases h2:q = [46,46]
    ·rw [if_pos h2] at go ⊢
     by_cases hz:out = []
     ·rw [if_pos hz] at go ⊢
      exact af.fin go
     ·rw [if_neg hz] at go ⊢
      exact af.step go (next _ (by simp <;> omega))
    ·rw [if_neg h2] at go ⊢
     exact af.step go (next _ (by simp))
theorem so (s:B8):ae (fun F=>dJ F s) (dz s):=by
 unfold dJ
 cases s with
 | nil =>
  refine ae.bind (r:=([],true,())) (.of fun F=>if_neg (by simp)) ?_
  exact ae.bind (r:=([],true,())) (.of fun F=>if_neg (by simp)) (ae.pos rfl (.ret _))
 | cons c t =>
 by_cases h60:59<t.length
 ·rw [iK (.inl h60)]
  refine ae.bind (r:=(c :: t,true,())) (.of fun F=>(if_pos (by simp <;> omega)).trans ?_) ?_
  ·rw [decide_eq_true (by simp <;> omega)]
  exact ae.bind (r:=(c :: t,true,())) (.of fun F=>if_neg (by simp)) (ae.pos rfl (.ret _))
 refine ae.bind (r:=(c :: t,false,())) (.of fun F=>(if_pos (by simp <;> omega)).trans ?_) ?_
 ·rw [decide_eq_false (by simp <;> omega)]
 by_cases hc:c=47
 ·subst hc
  refine ae.bind (r:=(47 :: t,false,())) (.of fun F=>rfl) (ae.neg (by simp) ?_)
  have hl:=wJ (47 :: t) (by simp <;> omega) _ 1 [] (Nat.le_refl _) (by simp) (by simp <;> omega)
  rw [List.drop_succ_cons,List.drop_zero] at hl
  refine ae.bind hl.run ?_
  rw [ic h60]
  cases hw:dI (aT t) [] with
  | none=>exact .ret _
  | some l =>
   obtain ⟨h1,h2⟩:=l6 900 t (by omega)
   obtain ⟨f1,f2⟩:=mM _ _ l 0 ⟨by simp,by simp⟩ (fun p hp=>by have:=h2 p hp; omega) hw
   have hl:=xM l (by omega) f2 _ 0 [] (Nat.zero_add _) (by simp <;> omega)
   rw [List.drop_zero,List.nil_append] at hl
   simp only [rpR,cm]
   refine ae.bind hl.run ?_
   show ae _ (xG l)
   unfold xG
   refine ae.bind (r:=((if dN l = [] then [47] else dN l),())) (.of fun F => ?_) ?_
   ·by_cases h0:dN l = []
    ·rw [if_pos (by simpa using h0),if_pos h0]
    ·rw [if_neg (by simpa using h0),if_neg h0]
   ·by_cases hz:60<(if dN l = [] then [47] else dN l).length
    ·rw [if_pos hz]
     exact ae.pos (by simp only [decide_eq_true_eq]; omega) (.ret _)
    ·rw [if_neg hz]
     exact ae.neg (by simp only [decide_eq_true_eq]; omega) (.ret _)
 ·rw [iK (.inr hc)]
  have hc' : ¬ ((c.toNat:Int)=47):=fun h=>hc (UInt8.toNat_inj.1 (by show c.toNat=47; omega))
  refine ae.bind (r:=(c :: t,true,())) (.of fun F=>(if_pos rfl).trans ?_) (ae.pos rfl (.ret _))
  show some (c :: t, !decide ((c.toNat:Int)=47),()) = _
  rw [decide_eq_false hc']
  rfl
/-! ### a form's form -/
end Go.Vm
