/- Paths: plain. No condition. -/
import Derived.Test.YtihpjgcbmipdbaaGreatDoorPk2
namespace Go.Vm
open Go Go.Proofs
set_option linter.unusedVariables false
/-! ### cut at each stroke -/
def bS:B8→List B8
 | [] => [[]]
 | c :: s=>if c=47 then [] :: bS s else match bS s with
  | p :: ps=>(c :: p) :: ps
  | [] => [[c]]
theorem CF:bS [] = [[]]:=rfl
theorem rh (s:B8):bS (47 :: s) = [] :: bS s:=by rw [bS,if_pos rfl]
theorem tO {c:UInt8} {s:B8} {p:B8} {ps:List B8} (h:c≠47) (hs:bS s=p :: ps):bS (c :: s)=(c :: p) :: ps:=by rw [bS,if_neg h,hs]
theorem JC (l:B8):Lib.index (47 :: l) [47]=((0:Nat):Int):=by rw [Lib.index]; simp [List.isPrefixOf]
theorem F9 {b:UInt8} {l:B8} {j:Nat} (h:b≠47) (hj:Lib.index l [47]=(j:Int)):Lib.index (b :: l) [47]=((j+1:Nat):Int):=by
 have hp:([47]:B8).isPrefixOf (b :: l)=false:=by simp [List.isPrefixOf,Ne.symm h]
 rw [Lib.index,hp,hj]
 have : ¬ ((j:Int) == -1)=true:=fun e=>by have:=beq_iff_eq.1 e; omega
 simp [this]
theorem rL : ∀ s:B8,Lib.split s [47]=bS s
 | []=>by simp [Lib.split,Lib.count_miss,Lib.index,Lib.splitK,bS]
 | b :: l=>by
  have ih:=rL l
  unfold Lib.split at ih ⊢
  by_cases hb:b=47
  ·subst hb
   rw [Lib.count_cons_eq,rh,Nat.add_comm,Lib.splitK,JC]
   rw [if_neg (by simp)]
   simpa using ih
  ·rw [Lib.count_cons_ne b 47 l hb]
   by_cases hm:Lib.index l [47] = -1
   ·rw [Lib.count_miss hm] at ih ⊢
    rw [Lib.splitK] at ih ⊢
    exact (tO hb ih.symm).symm
   ·have hge:=Lib.index_ge l [47]
    obtain ⟨j,hj⟩ : ∃ j:Nat,Lib.index l [47]=j:=⟨(Lib.index l [47]).toNat,by omega⟩
    have hc:=Lib.count_hit (s:=l) (sub := [47]) (by simp) hj
    generalize Lib.count (l.drop (j + [47].length)) [47]=k at hc
    rw [hc,Nat.add_comm,Lib.splitK,hj,if_neg (fun e=>by have:=beq_iff_eq.1 e; omega)] at ih
    rw [hc,Nat.add_comm,Lib.splitK,F9 hb hj,if_neg (fun e=>by have:=beq_iff_eq.1 e; omega)]
    rw [tO hb ih.symm]
    simp
def eB:B8→Nat
 | []=>0
 | c :: s=>if c=47 then 0 else eB s+1
theorem zL : ∀ s:B8,eB s≤s.length
 | []=>by simp [eB]
 | c :: s=>by
  rw [eB]
  have:=zL s
  split <;> simp <;> omega
theorem mL : ∀ s:B8,bS s=s.take (eB s) :: (if eB s<s.length then bS (s.drop (eB s+1)) else [])
 | []=>by simp [bS,eB]
 | c :: s=>by
  by_cases h:c=47
  ·subst h
   rw [rh]
   simp [eB]
  ·have ih:=mL s
   rw [tO h ih]
   have e:eB (c :: s)=eB s+1:=by rw [eB,if_neg h]
   rw [e]
   simp
theorem k6 (n:Nat) : ∀ s:B8,s.length≤n→(bS s).length≤s.length+1 ∧ ∀ p∈bS s,p.length≤n
 | [],h=>by simp [bS]
 | c :: s,h=>by
  obtain ⟨h1,h2⟩:=k6 n s (by simp at h; omega)
  by_cases hc:c=47
  ·subst hc
   rw [rh]
   exact ⟨by simp <;> omega,fun p hp=>by
    rcases List.mem_cons.1 hp with rfl | hp
    ·simp
    ·exact h2 p hp⟩
  ·rw [mL (c :: s)]
   have h3:=mL s
   have e:eB (c :: s)=eB s+1:=by rw [eB,if_neg hc]
   have e2:(if eB s+1<(c :: s).length then bS ((c :: s).drop (eB s+1+1)) else [])=(if eB s<s.length then bS (s.drop (eB s+1)) else []):=by simp
   rw [e,e2]
   rw [h3] at h1 h2
   generalize (if eB s<s.length then bS (s.drop (eB s+1)) else [])=r at h1 h2
   simp only [List.length_cons] at h1 h ⊢
   refine ⟨by omega,fun p hp => ?_⟩
   rcases List.mem_cons.1 hp with rfl | hp
   ·rw [List.length_take,List.length_cons]; omega
   ·have:=h2 p (List.mem_cons_of_mem _ hp)
    omega
/-! ### the walk along the parts -/
def fV:List B8→List B8→Option (List B8)
 | [],out=>some out
 | p :: ps,out=>if (jE p).2=false then none else if (jE p).1 = []∨(jE p).1 = [46] then fV ps out else
  if (jE p).1 = [46,46] then (if out = [] then none else fV ps (out.take (out.length - 1))) else fV ps (out ++ [(jE p).1])
theorem FI (s:B8):(jE s).1.length≤s.length:=by
 unfold jE
 cases h:gp s with
 | none=>simp
 | some t=>exact oI _ s t (Nat.le_refl _) h
def Few (n:Nat) (l:List B8):Prop:=l.length≤n ∧ ∀ q∈l,q.length≤1000
theorem Few.take {n:Nat} {l:List B8} (h:Few n l) (k:Nat):Few n (l.take k):=⟨by have:=h.1; simp; omega,fun q hq=>h.2 q (List.mem_of_mem_take hq)⟩
theorem Few.add {n:Nat} {l:List B8} (h:Few n l) {q:B8} (hq:q.length≤1000):Few (n+1) (l ++ [q]):=⟨by have:=h.1; simp; omega,fun x hx=>by
 rcases List.mem_append.1 hx with hx | hx
 ·exact h.2 x hx
 ·simp at hx; subst hx; exact hq⟩
theorem Few.mono {n m:Nat} {l:List B8} (h:Few n l) (hm:n≤m):Few m l:=⟨Nat.le_trans h.1 hm,h.2⟩
theorem lG : ∀ (ps out l:List B8) (n:Nat),Few n out→(∀ p∈ps,p.length≤1000)→fV ps out=some l→Few (n+ps.length) l
 | [],out,l,n,ho,hp,h=>by cases h; exact ho
 | p :: ps,out,l,n,ho,hp,h=>by
  have hpp:=hp p (by simp)
  have hps : ∀ q∈ps,q.length≤1000:=fun q hq=>hp q (by simp [hq])
  have hq:=FI p
  rw [fV] at h
  split at h
  ·cases h
  ·split at h
   ·exact (lG ps out l n ho hps h).mono (by simp)
   ·split at h
    ·split at h
     ·cases h
     ·exact (lG ps _ l n (ho.take _) hps h).mono (by simp)
    ·exact (lG ps _ l (n+1) (ho.add (by omega)) hps h).mono (by simp <;> omega)
def prR:Option (List B8)→(Unit×List B8×Unit) ⊕ (Unit×Bool×List B8×Unit)
 | none => .inr ((),false,[],())
 | some l => .inl ((),l,())
theorem mX (ps:List B8) (hn:ps.length≤1000) (hp : ∀ p∈ps,p.length≤1000) : ∀ (m k:Nat) (out:List B8),k+m=ps.length→out.length+m≤5000 →
  ag cm ((),ps,(ps.length:Int),(k:Int),out,()) (prR (fV (ps.drop k) out))
 | 0,k,out,h,ho=>by
  refine ag.fin (.of fun F => ?_)
  unfold cm
  refine (if_neg (by simp <;> omega)).trans ?_
  rw [List.drop_eq_nil_of_le (by omega)]
  rfl
 | m+1,k,out,h,ho=>by
  have hk:k<ps.length:=by omega
  have hx:=qf ps k (k:Int) rfl hk
  have hpk:=hp ps[k] (List.getElem_mem hk)
  have hrd:=Cz ps[k] hpk
  rw [List.drop_eq_getElem_cons hk,fV]
  generalize hq:jE ps[k]=q at hrd
  obtain ⟨q,ok⟩:=q
  cases ok
  ·rw [if_pos rfl]
   refine ag.fin ?_
   unfold cm
   refine ae.pos (by simp <;> omega) ?_
   refine ae.bind (r := .inr ((),false,[],())) ?_ (.of fun F=>rfl)
   exact ae.bind (.const hx) (ae.bind hrd (ae.pos rfl (.ret _)))
  ·rw [if_neg (by simp)]
   simp only
   by_cases hd:q = []∨q = [46]
   ·rw [if_pos hd]
    refine ag.step ?_ (mX ps hn hp m (k+1) out (by omega) (by omega))
    unfold cm
    refine ae.pos (by simp <;> omega) ?_
    refine ae.bind (r := .inl ((),ps,(ps.length:Int),(k:Int),out,())) ?_ (.of fun F=>by simp only [dh]; rw [dO k (by omega)])
    refine ae.bind (.const hx) (ae.bind hrd (ae.neg (by simp) ?_))
    refine ae.bind (r:=((),q,ps,(ps.length:Int),(k:Int),q,true,out,())) (.of fun F => ?_) (ae.pos rfl (.ret _))
    by_cases h0:q = []
    ·subst h0; rfl
    ·have h1:q = [46]:=hd.resolve_left h0
     subst h1; rfl
   ·rw [if_neg hd]
    have h0 : ¬ q = []:=fun h=>hd (.inl h)
    have h1 : ¬ q = [46]:=fun h=>hd (.inr h)
    have hv:(fun _:Nat=>if decide (q = [])=true then some ((),q,ps,(ps.length:Int),(k:Int),q,decide (q = []),out,()) else some ((),q,ps,(ps.length:Int),(k:Int),q,decide (q = [46]),out,()))=fun _=>some ((),q,ps,(ps.length:Int),(k:Int),q,false,out,()):=by
     funext F
     rw [if_neg (by simpa using h0),decide_eq_false h1]
    by_cases h2:q = [46,46]
    ·rw [if_pos h2]
     by_cases hz:out = []
     ·rw [if_pos hz]
      refine ag.fin ?_
      unfold cm
      refine ae.pos (by simp <;> omega) ?_
      refine ae.bind (r := .inr ((),false,[],())) ?_ (.of fun F=>rfl)
      refine ae.bind (.const hx) (ae.bind hrd (ae.neg (by simp) ?_))
      refine ae.bind (r:=((),q,ps,(ps.length:Int),(k:Int),q,false,out,())) (.of fun F=>congrFun hv F) (ae.neg (by simp) ?_)
      refine ae.pos (by simpa using h2) (ae.pos (by simp [hz]) (.ret _))
     ·rw [if_neg hz]
      have hlen:0<out.length:=List.length_pos_iff.2 hz
      have hw:IntKind.i64.wrap ((out.length:Int) - 1)=((out.length - 1:Nat):Int):=by rw [wrap64] <;> omega
      refine ag.step ?_ (mX ps hn hp m (k+1) (out.take (out.length - 1)) (by omega) (by simp <;> omega))
      unfold cm
      refine ae.pos (by simp <;> omega) ?_
      refine ae.bind (r := .inl ((),ps,(ps.length:Int),(k:Int),out.take (out.length - 1),())) ?_ (.of fun F=>by simp only [dh]; rw [dO k (by omega)])
      refine ae.bind (.const hx) (ae.bind hrd (ae.neg (by simp) ?_))
      refine ae.bind (r:=((),q,ps,(ps.length:Int),(k:Int),q,false,out,())) (.of fun F=>congrFun hv F) (ae.neg (by simp) ?_)
      refine ae.pos (by simpa using h2) (ae.neg (by simp [hz]) (.of fun F => ?_))
      simp only [hw]
      rw [if_pos (by simp <;> omega),Int.toNat_natCast]
    ·rw [if_neg h2]
     refine ag.step ?_ (mX ps hn hp m (k+1) (out ++ [q]) (by omega) (by simp <;> omega))
     unfold cm
     refine ae.pos (by simp <;> omega) ?_
     refine ae.bind (r := .inl ((),ps,(ps.length:Int),(k:Int),out ++ [q],())) ?_ (.of fun F=>by simp only [dh]; rw [dO k (by omega)])
     refine ae.bind (.const hx) (ae.bind hrd (ae.neg (by simp) ?_))
     refine ae.bind (r:=((),q,ps,(ps.length:Int),(k:Int),q,false,out,())) (.of fun F=>congrFun hv F) (ae.neg (by simp) ?_)
     exact ae.neg (by simpa using h2) (ae.pos (by simp <;> omega) (.ret _))
theorem zQ (s:B8) (hs:s.length≤900):ae (fun F=>iU F s) (match fV (bS s) [] with
  | none=>([],false)
  | some l=>(l,true)):=by
 unfold iU
 have hsp:ae (fun F=>jH F (s,[47])) (bS s):=by
  refine .of fun F => ?_
  show tF (s,[47]) = _
  unfold tF
  rw [if_pos (by simp <;> omega),if_pos (by simp),rL]
 refine ae.bind hsp ?_
 obtain ⟨h1,h2⟩:=k6 900 s hs
 have hl:=mX (bS s) (by omega) (fun p hp=>by have:=h2 p hp; omega) _ 0 [] (Nat.zero_add _) (by simp <;> omega)
 rw [List.drop_zero] at hl
 refine ae.bind hl.run ?_
 cases fV (bS s) [] with
 | none=>exact .ret _
 | some l=>exact .ret _
/-! ### joined again -/
def fc (l:List B8):B8:=l.flatMap fun q=>47 :: eR q
theorem wW (l:List B8) (hn:l.length≤2000) (hq : ∀ q∈l,q.length≤1000) : ∀ (m k:Nat) (acc:B8),k+m=l.length→acc.length+3001 * m≤100000000 →
  ag gy (acc,l,(l.length:Int),(k:Int),()) (acc ++ fc (l.drop k),())
 | 0,k,acc,h,ha=>by
  refine ag.fin (.of fun F => ?_)
  unfold gy
  refine (if_neg (by simp <;> omega)).trans ?_
  rw [List.drop_eq_nil_of_le (by omega)]
  simp [fc]
 | m+1,k,acc,h,ha=>by
  have hk:k<l.length:=by omega
  have hx:=qf l k (k:Int) rfl hk
  have hqk:=hq l[k] (List.getElem_mem hk)
  have hw:=uM l[k]
  rw [List.drop_eq_getElem_cons hk]
  have e:acc ++ fc (l[k] :: l.drop (k+1))=(acc ++ ([47] ++ eR l[k])) ++ fc (l.drop (k+1)):=by unfold fc; rw [List.flatMap_cons,List.append_assoc]; rfl
  rw [e]
  refine ag.step ?_ (wW l hn hq m (k+1) (acc ++ ([47] ++ eR l[k])) (by omega) (by simp <;> omega))
  unfold gy
  refine ae.pos (by simp <;> omega) (ae.bind (.const hx) (ae.bind (yK l[k] hqk) (ae.pos (by simp <;> omega) (ae.pos (by simp <;> omega) (.of fun F => ?_)))))
  simp only
  rw [dO k (by omega)]
theorem u6 (l:List B8) (hn:l.length≤2000) (hq : ∀ q∈l,q.length≤1000) : ∀ (m k:Nat) (acc:B8),k+m=l.length→acc.length+3001 * m≤100000000 →
  ag cY ((),acc,(k:Int),l,()) (acc ++ fc (l.drop k),())
 | 0,k,acc,h,ha=>by
  refine ag.fin (.of fun F => ?_)
  unfold cY
  refine (if_neg (by simp <;> omega)).trans ?_
  rw [List.drop_eq_nil_of_le (by omega)]
  simp [fc]
 | m+1,k,acc,h,ha=>by
  have hk:k<l.length:=by omega
  have hx:=qf l k (k:Int) rfl hk
  have hqk:=hq l[k] (List.getElem_mem hk)
  have hw:=uM l[k]
  rw [List.drop_eq_getElem_cons hk]
  have e:acc ++ fc (l[k] :: l.drop (k+1))=(acc ++ [47] ++ eR l[k]) ++ fc (l.drop (k+1)):=by unfold fc; rw [List.flatMap_cons]; simp
  rw [e]
  refine ag.step ?_ (u6 l hn hq m (k+1) (acc ++ [47] ++ eR l[k]) (by omega) (by simp <;> omega))
  unfold cY
  refine ae.pos (by simp <;> omega) (ae.pos (by simp <;> omega) (ae.bind (.const hx) (ae.bind (xZ l[k] hqk) (ae.pos (by simp <;> omega) (.of fun F => ?_)))))
  simp only
  rw [dO k (by omega)]
def zJ (l:List B8):B8×Bool:=if 60<(if fc l = [] then [47] else fc l).length then ([],false) else ((if fc l = [] then [47] else fc l),true)
def gk:B8→B8×Bool
 | []=>([],false)
 | c :: t=>if 59<t.length∨c≠47 then ([],false) else match fV (bS t) [] with
  | none=>([],false)
  | some l=>zJ l
theorem lJ {c:UInt8} {t:B8} (h:59<t.length∨c≠47):gk (c :: t)=([],false):=if_pos h
theorem ru {t:B8} (h : ¬ 59<t.length):gk (47 :: t)=match fV (bS t) [] with
  | none=>([],false)
  | some l=>zJ l:=if_neg (by simpa using h)
theorem xq:jE []=([],true):=by rw [pX oS]; rfl
theorem BU (s:B8):ae (fun F=>iE F s) (gk s):=by
 unfold iE
 cases s with
 | nil =>
  refine ae.bind (r:=([],true,())) (.of fun F=>if_neg (by simp)) ?_
  exact ae.bind (r:=([],true,())) (.of fun F=>if_neg (by simp)) (ae.pos rfl (.ret _))
 | cons c t =>
 by_cases h60:59<t.length
 ·rw [lJ (.inl h60)]
  refine ae.bind (r:=(c :: t,true,())) (.of fun F=>(if_pos (by simp)).trans ?_) ?_
  ·rw [decide_eq_true (by simp <;> omega)]
  exact ae.bind (r:=(c :: t,true,())) (.of fun F=>if_neg (by simp)) (ae.pos rfl (.ret _))
 refine ae.bind (r:=(c :: t,false,())) (.of fun F=>(if_pos (by simp)).trans ?_) ?_
 ·rw [decide_eq_false (by simp <;> omega)]
 by_cases hc:c=47
 ·subst hc
  refine ae.bind (r:=(47 :: t,false,())) (.of fun F=>rfl) (ae.neg (by simp) ?_)
  refine ae.bind (zQ (47 :: t) (by simp <;> omega)) ?_
  have e:fV (bS (47 :: t)) []=fV (bS t) []:=by rw [rh,fV,xq,if_neg (by simp),if_pos (.inl rfl)]
  rw [e,ru h60]
  cases hw:fV (bS t) [] with
  | none=>exact ae.pos rfl (.ret _)
  | some l =>
   obtain ⟨h1,h2⟩:=k6 900 t (by omega)
   obtain ⟨f1,f2⟩:=lG _ _ l 0 ⟨by simp,by simp⟩ (fun p hp=>by have:=h2 p hp; omega) hw
   have hl:=wW l (by omega) f2 _ 0 [] (Nat.zero_add _) (by simp <;> omega)
   rw [List.drop_zero,List.nil_append] at hl
   refine ae.neg (by simp) (ae.bind hl.run ?_)
   show ae _ (zJ l)
   unfold zJ
   refine ae.bind (r:=((if fc l = [] then [47] else fc l),())) (.of fun F => ?_) ?_
   ·by_cases h0:fc l = []
    ·rw [if_pos (by simpa using h0),if_pos h0]
    ·rw [if_neg (by simpa using h0),if_neg h0]
   ·by_cases hz:60<(if fc l = [] then [47] else fc l).length
    ·rw [if_pos hz]
     exact ae.pos (by simp only [decide_eq_true_eq]; omega) (.ret _)
    ·rw [if_neg hz]
     exact ae.neg (by simp only [decide_eq_true_eq]; omega) (.ret _)
 ·rw [lJ (.inr hc)]
  have hc' : ¬ ((c.toNat:Int)=47):=fun h=>hc (UInt8.toNat_inj.1 (by show c.toNat=47; omega))
  refine ae.bind (r:=(c :: t,true,())) (.of fun F=>(if_pos rfl).trans ?_) (ae.pos rfl (.ret _))
  show some (c :: t, !decide ((c.toNat:Int)=47),()) = _
  rw [decide_eq_false hc']
  rfl
/-! ### the document's -/
theorem Af (s:B8) (hs:s.length≤1000) (at':Int) (out:List B8) : ∀ (m e:Nat),s.length - e≤m→e≤s.length →
  ag bZ (s,(),at',(e:Int),out,()) (s,(),at',((e+eB (s.drop e):Nat):Int),out,())
 | m,e,hm,he=>by
  by_cases hlt:e<s.length
  ·have hx:=qf s e (e:Int) rfl hlt
   rw [List.drop_eq_getElem_cons hlt,eB]
   by_cases hc:s[e]=47
   ·rw [if_pos hc,Nat.add_zero]
    refine ag.fin (.of fun F => ?_)
    unfold bZ
    refine ba (a:=(s,(),at',(e:Int),false,out,())) ?_ (if_neg (by simp))
    rw [if_pos (by simp <;> omega),hx,Option.bind_some,hc]
    rfl
   ·cases m with
    | zero=>omega
    | succ m =>
    rw [if_neg hc]
    have ih:=Af s hs at' out m (e+1) (by omega) (by omega)
    rw [show e+(eB (s.drop (e+1))+1)=e+1+eB (s.drop (e+1)) by omega]
    refine ag.step (.of fun F => ?_) ih
    have hc' : ¬ ((s[e].toNat:Int)=47):=fun h=>hc (UInt8.toNat_inj.1 (by show s[e].toNat=47; omega))
    unfold bZ
    refine ba (a:=(s,(),at',(e:Int),true,out,())) ?_ ((if_pos rfl).trans ?_)
    ·rw [if_pos (by simp <;> omega),hx,Option.bind_some,decide_eq_false hc']
     rfl
    ·simp only
     rw [dO e (by omega)]
  ·have:e=s.length:=by omega
   subst this
   refine ag.fin (.of fun F => ?_)
   unfold bZ
   refine ba (a:=(s,(),at',(s.length:Int),false,out,())) (if_neg (by simp)) ?_
   rw [if_neg (by simp),List.drop_eq_nil_of_le (Nat.le_refl _)]
   rfl
def rpR:Option (List B8)→(Unit×List B8×Unit) ⊕ (B8×Bool×Unit)
 | none => .inr ([],false,())
 | some l => .inl ((),l,())
theorem C6 (s:B8) (hs:s.length≤900) (a:Nat) (ha:a≤s.length) (out:List B8) (ho:out.length≤5000) (q:B8) (ok:Bool) (hq:jE ((s.drop a).take (eB (s.drop a)))=(q,ok)) (r:(B8×Unit×Int×List B8×Unit) ⊕ ((Unit×List B8×Unit) ⊕ (B8×Bool×Unit)))
  (hr:r=if ok=false then .inr (.inr ([],false,())) else if q = []∨q = [46] then .inl (s,(),((a+eB (s.drop a)+1:Nat):Int),out,()) else
   if q = [46,46] then (if out = [] then .inr (.inr ([],false,())) else .inl (s,(),((a+eB (s.drop a)+1:Nat):Int),out.take (out.length - 1),())) else .inl (s,(),((a+eB (s.drop a)+1:Nat):Int),out ++ [q],())) :
  ae (fun F=>bw F (s,(),(a:Int),out,())) r:=by
 have hseg:=zL (s.drop a)
 rw [List.length_drop] at hseg
 have hsub:sub s (a:Int) ((a+eB (s.drop a):Nat):Int)=some ((s.drop a).take (eB (s.drop a))):=by
  rw [Lu s a _ (by omega) (by omega)]
  congr 2
  omega
 have hrd:=Ad ((s.drop a).take (eB (s.drop a))) (by simp <;> omega)
 rw [hq] at hrd
 unfold bw
 refine ae.pos (by simp <;> omega) (ae.bind (Af s (by omega) (a:Int) out _ a (Nat.le_refl _) ha).run ?_)
 refine ae.bind (r:=(s,(),((a+eB (s.drop a):Nat):Int),q,ok,out,())) (ae.bind (.const hsub) (ae.bind hrd (.ret _))) ?_
 have hn:=dO (a+eB (s.drop a)) (by omega)
 cases ok
 ·rw [hr,if_pos rfl]
  exact ae.pos rfl (.ret _)
 ·rw [if_neg (by simp)] at hr
  refine ae.neg (by simp) ?_
  by_cases hd:q = []∨q = [46]
  ·rw [if_pos hd] at hr
   rw [hr]
   refine ae.bind (r:=(s,(),((a+eB (s.drop a)+1:Nat):Int),q,true,out,())) (.of fun F => ?_) (ae.pos rfl (.ret _))
   simp only [hn]
   by_cases h0:q = []
   ·rw [if_neg (by simp [h0])]
   ·have h1:q = [46]:=hd.resolve_left h0
    rw [if_pos (by simpa using h0),decide_eq_true h1]
  ·rw [if_neg hd] at hr
   have h0 : ¬ q = []:=fun h=>hd (.inl h)
   have h1 : ¬ q = [46]:=fun h=>hd (.inr h)
   refine ae.bind (r:=(s,(),((a+eB (s.drop a)+1:Nat):Int),q,false,out,())) (.of fun F => ?_) (ae.neg (by simp) ?_)
   ·simp only [hn]
    rw [if_pos (by simpa using h0),decide_eq_false h1]
   by_cases h2:q = [46,46]
   ·rw [if_pos h2] at hr
    refine ae.pos (by simpa using h2) ?_
    by_cases hz:out = []
    ·rw [if_pos hz] at hr
     rw [hr]
     exact ae.pos (by simp [hz]) (.ret _)
    ·rw [if_neg hz] at hr
     rw [hr]
     have hlen:0<out.length:=List.length_pos_iff.2 hz
     have hw:IntKind.i64.wrap ((out.length:Int) - 1)=((out.length - 1:Nat):Int):=by rw [wrap64] <;> omega
     refine ae.neg (by simp [hz]) (.of fun F => ?_)
     simp only [hw]
     rw [if_pos (by simp <;> omega),Int.toNat_natCast]
   ·rw [if_neg h2] at hr
    rw [hr]
    exact ae.neg (by simpa using h2) (ae.pos (by simp <;> omega) (.ret _))
theorem um (s:B8) (hs:s.length≤900) : ∀ (m a:Nat) (out:List B8),s.length - a≤m→a≤s.length→out.length+(s.length - a)≤4000 →
  ag bw (s,(),(a:Int),out,()) (rpR (fV (bS (s.drop a)) out))
 | m,a,out,hm,ha,ho=>by
  have hseg:=zL (s.drop a)
  rw [List.length_drop] at hseg
  rw [mL,fV]
  obtain ⟨q,ok,hq⟩ : ∃ q ok,jE ((s.drop a).take (eB (s.drop a)))=(q,ok):=⟨_,_,rfl⟩
  have go:=C6 s hs a ha out (by omega) q ok hq _ rfl
  -- what follows a part
  have next : ∀ out':List B8,out'.length≤out.length+1→ag bw (s,(),((a+eB (s.drop a)+1:Nat):Int),out',()) (rpR (fV (if eB (s.drop a)<(s.drop a).length then bS ((s.drop a).drop (eB (s.drop a)+1)) else []) out')):=by
   intro out' ho'
   by_cases hlt:eB (s.drop a)<(s.drop a).length
   ·rw [if_pos hlt]
    rw [List.length_drop] at hlt
    cases m with
    | zero=>omega
    | succ m =>
    have ih:=um s hs m (a+eB (s.drop a)+1) out' (by omega) (by omega) (by omega)
    rw [List.drop_drop]
    exact ih
   ·rw [if_neg hlt]
    rw [List.length_drop] at hlt
    refine ag.fin (.of fun F => ?_)
    unfold bw
    refine (if_neg (by simp <;> omega)).trans ?_
    rfl
  rw [hq]
  simp only
  cases ok
  ·rw [if_pos rfl] at go ⊢
   exact ag.fin go
  ·rw [if_neg (by simp)] at go ⊢
   by_cases hd:q = []∨q = [46]
   ·rw [if_pos hd] at go ⊢
    exact ag.step go (next out (by omega))
   ·rw [if_neg hd] at go ⊢
    by_cases h2:q = [46,46]
    ·rw [if_pos h2] at go ⊢
     by_cases hz:out = []
     ·rw [if_pos hz] at go ⊢
      exact ag.fin go
     ·rw [if_neg hz] at go ⊢
      exact ag.step go (next _ (by simp <;> omega))
    ·rw [if_neg h2] at go ⊢
     exact ag.step go (next _ (by simp))
theorem zH (s:B8):ae (fun F=>cN F s) (gk s):=by
 unfold cN
 cases s with
 | nil =>
  refine ae.bind (r:=([],true,())) (.of fun F=>if_neg (by simp)) ?_
  exact ae.bind (r:=([],true,())) (.of fun F=>if_neg (by simp)) (ae.pos rfl (.ret _))
 | cons c t =>
 by_cases h60:59<t.length
 ·rw [lJ (.inl h60)]
  refine ae.bind (r:=(c :: t,true,())) (.of fun F=>(if_pos (by simp <;> omega)).trans ?_) ?_
  ·rw [decide_eq_true (by simp <;> omega)]
  exact ae.bind (r:=(c :: t,true,())) (.of fun F=>if_neg (by simp)) (ae.pos rfl (.ret _))
 refine ae.bind (r:=(c :: t,false,())) (.of fun F=>(if_pos (by simp <;> omega)).trans ?_) ?_
 ·rw [decide_eq_false (by simp <;> omega)]
 by_cases hc:c=47
 ·subst hc
  refine ae.bind (r:=(47 :: t,false,())) (.of fun F=>rfl) (ae.neg (by simp) ?_)
  have hl:=um (47 :: t) (by simp <;> omega) _ 1 [] (Nat.le_refl _) (by simp) (by simp <;> omega)
  rw [List.drop_succ_cons,List.drop_zero] at hl
  refine ae.bind hl.run ?_
  rw [ru h60]
  cases hw:fV (bS t) [] with
  | none=>exact .ret _
  | some l =>
   obtain ⟨h1,h2⟩:=k6 900 t (by omega)
   obtain ⟨f1,f2⟩:=lG _ _ l 0 ⟨by simp,by simp⟩ (fun p hp=>by have:=h2 p hp; omega) hw
   have hl:=u6 l (by omega) f2 _ 0 [] (Nat.zero_add _) (by simp <;> omega)
   rw [List.drop_zero,List.nil_append] at hl
   simp only [rpR,dh]
   refine ae.bind hl.run ?_
   show ae _ (zJ l)
   unfold zJ
   refine ae.bind (r:=((if fc l = [] then [47] else fc l),())) (.of fun F => ?_) ?_
   ·by_cases h0:fc l = []
    ·rw [if_pos (by simpa using h0),if_pos h0]
    ·rw [if_neg (by simpa using h0),if_neg h0]
   ·by_cases hz:60<(if fc l = [] then [47] else fc l).length
    ·rw [if_pos hz]
     exact ae.pos (by simp only [decide_eq_true_eq]; omega) (.ret _)
    ·rw [if_neg hz]
     exact ae.neg (by simp only [decide_eq_true_eq]; omega) (.ret _)
 ·rw [lJ (.inr hc)]
  have hc' : ¬ ((c.toNat:Int)=47):=fun h=>hc (UInt8.toNat_inj.1 (by show c.toNat=47; omega))
  refine ae.bind (r:=(c :: t,true,())) (.of fun F=>(if_pos rfl).trans ?_) (ae.pos rfl (.ret _))
  show some (c :: t, !decide ((c.toNat:Int)=47),()) = _
  rw [decide_eq_false hc']
  rfl
/-! ### a form's form -/
end Go.Vm
