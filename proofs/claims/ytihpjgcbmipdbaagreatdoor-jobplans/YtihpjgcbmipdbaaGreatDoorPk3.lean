import Derived.Test.YtihpjgcbmipdbaaGreatDoorPk2
set_option linter.unusedVariables false
namespace Go.Vm
open Go Go.Proofs
def dF:B8->List B8
 | [] => [[]]
 | c::s=>if c=47 then []::dF s else match dF s with
  | p::ps=>(c::p)::ps
  | [] => [[c]]
theorem JH:dF []=[[]]:=rfl
theorem xP (s:B8):dF (47::s)=[]::dF s:=by rw[dF,if_pos rfl]
theorem B9 {c:UInt8} {s:B8} {p:B8} {ps:List B8} (h:c≠47) (hs:dF s=p::ps):dF (c::s)=(c::p)::ps:=by rw[dF,if_neg h,hs]
theorem TK (l:B8):Lib.index (47::l) [47]=((0:Nat):Int):=by rw[Lib.index]; simp[List.isPrefixOf]
theorem Rj {b:UInt8} {l:B8} {j:Nat} (h:b≠47) (hj:Lib.index l [47]=(j:Int)):Lib.index (b::l) [47]=((j+1:Nat):Int):=by
 have hp:([47]:B8).isPrefixOf (b::l)=false:=by simp[List.isPrefixOf,Ne.symm h]
 rw[Lib.index,hp,hj];have:¬ ((j:Int) == -1)=true:=fun e=>by have:=beq_iff_eq.1 e; omega
 simp[this]
theorem xV:∀ s:B8,Lib.split s [47]=dF s
 | []=>by simp[Lib.split,Lib.count_miss,Lib.index,Lib.splitK,dF]
 | b::l=>by
  have ih:=xV l;unfold Lib.split at ih ⊢
  by_cases hb:b=47
  ·subst hb
   rw[Lib.count_cons_eq,xP,Nat.add_comm,Lib.splitK,TK];rw[if_neg (by simp)];simpa using ih
  ·rw[Lib.count_cons_ne b 47 l hb]
   by_cases hm:Lib.index l [47] = -1
   ·rw[Lib.count_miss hm] at ih ⊢
    rw[Lib.splitK] at ih ⊢
    exact (B9 hb ih.symm).symm
   ·have Wl:=Lib.index_ge l [47]
    obtain ⟨j,hj⟩:∃ j:Nat,Lib.index l [47]=j:=⟨(Lib.index l [47]).toNat,by omega⟩
    have hc:=Lib.count_hit (s:=l) (sub:=[47]) (by simp) hj;generalize Lib.count (l.drop (j + [47].length)) [47]=k at hc;rw[hc,Nat.add_comm,Lib.splitK,hj,if_neg (fun e=>by have:=beq_iff_eq.1 e; omega)] at ih;rw[hc,Nat.add_comm,Lib.splitK,Rj hb hj,if_neg (fun e=>by have:=beq_iff_eq.1 e; omega)];rw[B9 hb ih.symm];simp
def ie:B8->Nat
 | []=>0
 | c::s=>if c=47 then 0 else ie s+1
theorem FQ:∀ s:B8,ie s<=s.length
 | []=>by simp[ie]
 | c::s=>by
  rw[ie];have:=FQ s;split <;> simp <;> omega
theorem qL:∀ s:B8,dF s=s.take (ie s)::(if ie s<s.length then dF (s.drop (ie s+1)) else [])
 | []=>by simp[dF,ie]
 | c::s=>by
  by_cases h:c=47
  ·subst h
   rw[xP];simp[ie]
  ·have ih:=qL s
   rw[B9 h ih];have e:ie (c::s)=ie s+1:=by rw[ie,if_neg h]
   rw[e];simp
theorem pA (n:Nat):∀ s:B8,s.length<=n->(dF s).length<=s.length+1 /\ ∀ p∈dF s,p.length<=n
 | [],h=>by simp[dF]
 | c::s,h=>by
  obtain ⟨h1,h2⟩:=pA n s (by simp at h; omega);by_cases hc:c=47
  ·subst hc
   rw[xP];exact ⟨by simp <;> omega,fun p hp=>by
    rcases List.mem_cons.1 hp with rfl | hp
    ·simp
    ·exact h2 p hp⟩
  ·rw[qL (c::s)]
   have h3:=qL s;have e:ie (c::s)=ie s+1:=by rw[ie,if_neg hc]
   have e2:(if ie s+1<(c::s).length then dF ((c::s).drop (ie s+1+1)) else [])=(if ie s<s.length then dF (s.drop (ie s+1)) else []):=by simp
   rw[e,e2];rw[h3] at h1 h2;generalize (if ie s<s.length then dF (s.drop (ie s+1)) else [])=r at h1 h2;simp only[adb] at h1 h ⊢
   refine ⟨by omega,fun p hp => ?_⟩;rcases List.mem_cons.1 hp with rfl | hp
   ·rw[List.length_take,adb]; omega
   ·have:=h2 p (adm _ hp)
    omega
def jS:List B8->List B8->Option (List B8)
 | [],out=>some out
 | p::ps,out=>if (mA p).2=false then none else if (mA p).1=[]\/(mA p).1=[46] then jS ps out else
  if (mA p).1=[46,46] then (if out=[] then none else jS ps (out.take (out.length-1))) else jS ps (out++[(mA p).1])
theorem Nc (s:B8):(mA s).1.length<=s.length:=by
 unfold mA;cases h:kj s with
 | none=>simp
 | some t=>exact u3 _ s t (Nat.le_refl _) h
def Few (n:Nat) (l:List B8):Prop:=l.length<=n /\ ∀ q∈l,q.length<=1000
theorem Few.take {n:Nat} {l:List B8} (h:Few n l) (k:Nat):Few n (l.take k):=⟨by have:=h.1; simp; omega,fun q hq=>h.2 q (List.mem_of_mem_take hq)⟩
theorem Few.add {n:Nat} {l:List B8} (h:Few n l) {q:B8} (hq:q.length<=1000):Few (n+1) (l++[q]):=⟨by have:=h.1; simp; omega,fun x hx=>by
 rcases List.mem_append.1 hx with hx | hx
 ·exact h.2 x hx
 ·simp at hx; subst hx; exact hq⟩
theorem Few.mono {n m:Nat} {l:List B8} (h:Few n l) (hm:n<=m):Few m l:=⟨Nat.le_trans h.1 hm,h.2⟩
theorem qw:∀ (ps out l:List B8) (n:Nat),Few n out->(∀ p∈ps,p.length<=1000)->jS ps out=some l->Few (n+ps.length) l
 | [],out,l,n,ho,hp,h=>by cases h; exact ho
 | p::ps,out,l,n,ho,hp,h=>by
  have hpp:=hp p (by simp);have hps:∀ q∈ps,q.length<=1000:=fun q hq=>hp q (by simp[hq])
  have hq:=Nc p;rw[jS] at h;split at h
  ·cases h
  ·split at h
   ·exact (qw ps out l n ho hps h).mono (by simp)
   ·split at h
    ·split at h
     ·cases h
     ·exact (qw ps _ l n (ho.take _) hps h).mono (by simp)
    ·exact (qw ps _ l (n+1) (ho.add (by omega)) hps h).mono (by simp <;> omega)
def prR:Option (List B8)->(Unit×List B8×Unit) ⊕ (Unit×Bool×List B8×Unit)
 | none => .inr ((),false,[],())
 | some l => .inl ((),l,())
theorem ri (ps:List B8) (hn:ps.length<=1000) (hp:∀ p∈ps,p.length<=1000):∀ (m k:Nat) (out:List B8),k+m=ps.length->out.length+m<=5000 ->
  ag ew ((),ps,(ps.length:Int),(k:Int),out,()) (prR (jS (ps.drop k) out))
 | 0,k,out,h,ho=>by
  refine ag.fin (.of fun F => ?_);unfold ew;refine (if_neg (by simp <;> omega)).trans ?_;rw[List.drop_eq_nil_of_le (by omega)];rfl
 | m+1,k,out,h,ho=>by
  have hk:k<ps.length:=by omega
  have hx:=vW ps k (k:Int) rfl hk;have OH:=hp ps[k] (List.getElem_mem hk);have T7:=Kj ps[k] OH;rw[ado hk,jS];generalize hq:mA ps[k]=q at T7;obtain ⟨q,ok⟩:=q;cases ok
  ·rw[if_pos rfl]
   refine ag.fin ?_;unfold ew;refine ae.pos (by simp <;> omega) ?_;refine ae.bind (r := .inr ((),false,[],())) ?_ (.of fun F=>rfl);exact ae.bind (.const hx) (ae.bind T7 (ae.pos rfl (.ret _)))
  ·rw[if_neg (by simp)]
   simp only;by_cases hd:q=[]\/q=[46]
   ·rw[if_pos hd]
    refine ag.step ?_ (ri ps hn hp m (k+1) out (by omega) (by omega));unfold ew;refine ae.pos (by simp <;> omega) ?_;refine ae.bind (r := .inl ((),ps,(ps.length:Int),(k:Int),out,())) ?_ (.of fun F=>by simp only[dq]; rw[gw k (by omega)]);refine ae.bind (.const hx) (ae.bind T7 (ae.neg (by simp) ?_));refine ae.bind (r:=((),q,ps,(ps.length:Int),(k:Int),q,true,out,())) (.of fun F => ?_) (ae.pos rfl (.ret _));by_cases h0:q=[]
    ·subst h0; rfl
    ·have h1:q=[46]:=hd.resolve_left h0
     subst h1; rfl
   ·rw[if_neg hd]
    have h0:¬ q=[]:=fun h=>hd (.inl h)
    have h1:¬ q=[46]:=fun h=>hd (.inr h)
    have hv:(fun _:Nat=>if decide (q=[])=true then some ((),q,ps,(ps.length:Int),(k:Int),q,decide (q=[]),out,()) else some ((),q,ps,(ps.length:Int),(k:Int),q,decide (q=[46]),out,()))=fun _=>some ((),q,ps,(ps.length:Int),(k:Int),q,false,out,()):=by
     funext F
     rw[if_neg (by simpa using h0),adh h1]
    by_cases h2:q=[46,46]
    ·rw[if_pos h2]
     by_cases hz:out=[]
     ·rw[if_pos hz]
      refine ag.fin ?_;unfold ew;refine ae.pos (by simp <;> omega) ?_;refine ae.bind (r := .inr ((),false,[],())) ?_ (.of fun F=>rfl);refine ae.bind (.const hx) (ae.bind T7 (ae.neg (by simp) ?_));refine ae.bind (r:=((),q,ps,(ps.length:Int),(k:Int),q,false,out,())) (.of fun F=>congrFun hv F) (ae.neg (by simp) ?_);refine ae.pos (by simpa using h2) (ae.pos (by simp[hz]) (.ret _))
     ·rw[if_neg hz]
      have hlen:0<out.length:=List.length_pos_iff.2 hz;have hw:IntKind.i64.wrap ((out.length:Int)-1)=((out.length-1:Nat):Int):=by rw[wrap64] <;> omega
      refine ag.step ?_ (ri ps hn hp m (k+1) (out.take (out.length-1)) (by omega) (by simp <;> omega));unfold ew;refine ae.pos (by simp <;> omega) ?_;refine ae.bind (r := .inl ((),ps,(ps.length:Int),(k:Int),out.take (out.length-1),())) ?_ (.of fun F=>by simp only[dq]; rw[gw k (by omega)]);refine ae.bind (.const hx) (ae.bind T7 (ae.neg (by simp) ?_));refine ae.bind (r:=((),q,ps,(ps.length:Int),(k:Int),q,false,out,())) (.of fun F=>congrFun hv F) (ae.neg (by simp) ?_);refine ae.pos (by simpa using h2) (ae.neg (by simp[hz]) (.of fun F => ?_));simp only[hw];rw[if_pos (by simp <;> omega),Int.toNat_natCast]
    ·rw[if_neg h2]
     refine ag.step ?_ (ri ps hn hp m (k+1) (out++[q]) (by omega) (by simp <;> omega));unfold ew;refine ae.pos (by simp <;> omega) ?_;refine ae.bind (r := .inl ((),ps,(ps.length:Int),(k:Int),out++[q],())) ?_ (.of fun F=>by simp only[dq]; rw[gw k (by omega)]);refine ae.bind (.const hx) (ae.bind T7 (ae.neg (by simp) ?_));refine ae.bind (r:=((),q,ps,(ps.length:Int),(k:Int),q,false,out,())) (.of fun F=>congrFun hv F) (ae.neg (by simp) ?_);exact ae.neg (by simpa using h2) (ae.pos (by simp <;> omega) (.ret _))
theorem G9 (s:B8) (hs:s.length<=900):ae (fun F=>mn F s) (match jS (dF s) [] with
  | none=>([],false)
  | some l=>(l,true)):=by
 unfold mn;have T1:ae (fun F=>nh F (s,[47])) (dF s):=by
  refine .of fun F => ?_
  show Cl (s,[47]) = _;unfold Cl;rw[if_pos (by simp <;> omega),if_pos (by simp),xV]
 refine ae.bind T1 ?_;obtain ⟨h1,h2⟩:=pA 900 s hs;have hl:=ri (dF s) (by omega) (fun p hp=>by have:=h2 p hp; omega) _ 0 [] (Nat.zero_add _) (by simp <;> omega);rw[List.drop_zero] at hl;refine ae.bind hl.run ?_;cases jS (dF s) [] with
 | none=>exact .ret _
 | some l=>exact .ret _
def iS (l:List B8):B8:=l.flatMap fun q=>47::iI q
theorem EK (l:List B8) (hn:l.length<=2000) (hq:∀ q∈l,q.length<=1000):∀ (m k:Nat) (acc:B8),k+m=l.length->acc.length+3001*m<=100000000 ->
  ag kq (acc,l,(l.length:Int),(k:Int),()) (acc++iS (l.drop k),())
 | 0,k,acc,h,ha=>by
  refine ag.fin (.of fun F => ?_);unfold kq;refine (if_neg (by simp <;> omega)).trans ?_;rw[List.drop_eq_nil_of_le (by omega)];simp[iS]
 | m+1,k,acc,h,ha=>by
  have hk:k<l.length:=by omega
  have hx:=vW l k (k:Int) rfl hk;have hqk:=hq l[k] (List.getElem_mem hk);have hw:=A8 l[k];rw[ado hk];have e:acc++iS (l[k]::l.drop (k+1))=(acc++([47]++iI l[k]))++iS (l.drop (k+1)):=by unfold iS; rw[List.flatMap_cons,List.append_assoc]; rfl
  rw[e];refine ag.step ?_ (EK l hn hq m (k+1) (acc++([47]++iI l[k])) (by omega) (by simp <;> omega));unfold kq;refine ae.pos (by simp <;> omega) (ae.bind (.const hx) (ae.bind (Fe l[k] hqk) (ae.pos (by simp <;> omega) (ae.pos (by simp <;> omega) (.of fun F => ?_)))));simp only;rw[gw k (by omega)]
theorem B4 (l:List B8) (hn:l.length<=2000) (hq:∀ q∈l,q.length<=1000):∀ (m k:Nat) (acc:B8),k+m=l.length->acc.length+3001*m<=100000000 ->
  ag fy ((),acc,(k:Int),l,()) (acc++iS (l.drop k),())
 | 0,k,acc,h,ha=>by
  refine ag.fin (.of fun F => ?_);unfold fy;refine (if_neg (by simp <;> omega)).trans ?_;rw[List.drop_eq_nil_of_le (by omega)];simp[iS]
 | m+1,k,acc,h,ha=>by
  have hk:k<l.length:=by omega
  have hx:=vW l k (k:Int) rfl hk;have hqk:=hq l[k] (List.getElem_mem hk);have hw:=A8 l[k];rw[ado hk];have e:acc++iS (l[k]::l.drop (k+1))=(acc++[47]++iI l[k])++iS (l.drop (k+1)):=by unfold iS; rw[List.flatMap_cons]; simp
  rw[e];refine ag.step ?_ (B4 l hn hq m (k+1) (acc++[47]++iI l[k]) (by omega) (by simp <;> omega));unfold fy;refine ae.pos (by simp <;> omega) (ae.pos (by simp <;> omega) (ae.bind (.const hx) (ae.bind (Fm l[k] hqk) (ae.pos (by simp <;> omega) (.of fun F => ?_)))));simp only;rw[gw k (by omega)]
def GB (l:List B8):B8×Bool:=if 60<(if iS l=[] then [47] else iS l).length then ([],false) else ((if iS l=[] then [47] else iS l),true)
def kn:B8->B8×Bool
 | []=>([],false)
 | c::t=>if 59<t.length\/c≠47 then ([],false) else match jS (dF t) [] with
  | none=>([],false)
  | some l=>GB l
theorem qF {c:UInt8} {t:B8} (h:59<t.length\/c≠47):kn (c::t)=([],false):=if_pos h
theorem xB {t:B8} (h:¬ 59<t.length):kn (47::t)=match jS (dF t) [] with
  | none=>([],false)
  | some l=>GB l:=if_neg (by simpa using h)
theorem DE:mA []=([],true):=by rw[vT uP]; rfl
theorem JE (s:B8):ae (fun F=>lO F s) (kn s):=by
 unfold lO;cases s with
 | nil =>
  refine ae.bind (r:=([],true,())) (.of fun F=>if_neg (by simp)) ?_;exact ae.bind (r:=([],true,())) (.of fun F=>if_neg (by simp)) (ae.pos rfl (.ret _))
 | cons c t =>
 by_cases Yw:59<t.length
 ·rw[qF (.inl Yw)]
  refine ae.bind (r:=(c::t,true,())) (.of fun F=>(if_pos (by simp)).trans ?_) ?_
  ·rw[adg (by simp <;> omega)]
  exact ae.bind (r:=(c::t,true,())) (.of fun F=>if_neg (by simp)) (ae.pos rfl (.ret _))
 refine ae.bind (r:=(c::t,false,())) (.of fun F=>(if_pos (by simp)).trans ?_) ?_
 ·rw[adh (by simp <;> omega)]
 by_cases hc:c=47
 ·subst hc
  refine ae.bind (r:=(47::t,false,())) (.of fun F=>rfl) (ae.neg (by simp) ?_);refine ae.bind (G9 (47::t) (by simp <;> omega)) ?_;have e:jS (dF (47::t)) []=jS (dF t) []:=by rw[xP,jS,DE,if_neg (by simp),if_pos (.inl rfl)]
  rw[e,xB Yw];cases hw:jS (dF t) [] with
  | none=>exact ae.pos rfl (.ret _)
  | some l =>
   obtain ⟨h1,h2⟩:=pA 900 t (by omega);obtain ⟨f1,f2⟩:=qw _ _ l 0 ⟨by simp,by simp⟩ (fun p hp=>by have:=h2 p hp; omega) hw;have hl:=EK l (by omega) f2 _ 0 [] (Nat.zero_add _) (by simp <;> omega);rw[List.drop_zero,List.nil_append] at hl;refine ae.neg (by simp) (ae.bind hl.run ?_);show ae _ (GB l);unfold GB;refine ae.bind (r:=((if iS l=[] then [47] else iS l),())) (.of fun F => ?_) ?_
   ·by_cases h0:iS l=[]
    ·rw[if_pos (by simpa using h0),if_pos h0]
    ·rw[if_neg (by simpa using h0),if_neg h0]
   ·by_cases hz:60<(if iS l=[] then [47] else iS l).length
    ·rw[if_pos hz]
     exact ae.pos (by simp only[ac9]; omega) (.ret _)
    ·rw[if_neg hz]
     exact ae.neg (by simp only[ac9]; omega) (.ret _)
 ·rw[qF (.inr hc)]
  have yh:¬ ((c.toNat:Int)=47):=fun h=>hc (UInt8.toNat_inj.1 (by show c.toNat=47; omega))
  refine ae.bind (r:=(c::t,true,())) (.of fun F=>(if_pos rfl).trans ?_) (ae.pos rfl (.ret _));show some (c::t,!decide ((c.toNat:Int)=47),()) = _;rw[adh yh];rfl
theorem HW (s:B8) (hs:s.length<=1000) (at':Int) (out:List B8):∀ (m e:Nat),s.length-e<=m->e<=s.length ->
  ag dX (s,(),at',(e:Int),out,()) (s,(),at',((e+ie (s.drop e):Nat):Int),out,())
 | m,e,hm,he=>by
  by_cases aH:e<s.length
  ·have hx:=vW s e (e:Int) rfl aH
   rw[ado aH,ie];by_cases hc:s[e]=47
   ·rw[if_pos hc,Nat.add_zero]
    refine ag.fin (.of fun F => ?_);unfold dX;refine bY (a:=(s,(),at',(e:Int),false,out,())) ?_ (if_neg (by simp));rw[if_pos (by simp <;> omega),hx,ada,hc];rfl
   ·cases m with
    | zero=>omega
    | succ m =>
    rw[if_neg hc];have ih:=HW s hs at' out m (e+1) (by omega) (by omega);rw[show e+(ie (s.drop (e+1))+1)=e+1+ie (s.drop (e+1)) by omega];refine ag.step (.of fun F => ?_) ih;have yh:¬ ((s[e].toNat:Int)=47):=fun h=>hc (UInt8.toNat_inj.1 (by show s[e].toNat=47; omega))
    unfold dX;refine bY (a:=(s,(),at',(e:Int),true,out,())) ?_ ((if_pos rfl).trans ?_)
    ·rw[if_pos (by simp <;> omega),hx,ada,adh yh]
     rfl
    ·simp only
     rw[gw e (by omega)]
  ·have:e=s.length:=by omega
   subst this;refine ag.fin (.of fun F => ?_);unfold dX;refine bY (a:=(s,(),at',(s.length:Int),false,out,())) (if_neg (by simp)) ?_;rw[if_neg (by simp),List.drop_eq_nil_of_le (Nat.le_refl _)];rfl
def rpR:Option (List B8)->(Unit×List B8×Unit) ⊕ (B8×Bool×Unit)
 | none => .inr ([],false,())
 | some l => .inl ((),l,())
theorem Kg (s:B8) (hs:s.length<=900) (a:Nat) (ha:a<=s.length) (out:List B8) (ho:out.length<=5000) (q:B8) (ok:Bool) (hq:mA ((s.drop a).take (ie (s.drop a)))=(q,ok)) (r:(B8×Unit×Int×List B8×Unit) ⊕ ((Unit×List B8×Unit) ⊕ (B8×Bool×Unit)))
  (hr:r=if ok=false then .inr (.inr ([],false,())) else if q=[]\/q=[46] then .inl (s,(),((a+ie (s.drop a)+1:Nat):Int),out,()) else
   if q=[46,46] then (if out=[] then .inr (.inr ([],false,())) else .inl (s,(),((a+ie (s.drop a)+1:Nat):Int),out.take (out.length-1),())) else .inl (s,(),((a+ie (s.drop a)+1:Nat):Int),out++[q],())) :
  ae (fun F=>cE F (s,(),(a:Int),out,())) r:=by
 have WM:=FQ (s.drop a);rw[List.length_drop] at WM;have jf:sub s (a:Int) ((a+ie (s.drop a):Nat):Int)=some ((s.drop a).take (ie (s.drop a))):=by
  rw[Vz s a _ (by omega) (by omega)];congr 2;omega
 have T7:=IX ((s.drop a).take (ie (s.drop a))) (by simp <;> omega);rw[hq] at T7;unfold cE;refine ae.pos (by simp <;> omega) (ae.bind (HW s (by omega) (a:Int) out _ a (Nat.le_refl _) ha).run ?_);refine ae.bind (r:=(s,(),((a+ie (s.drop a):Nat):Int),q,ok,out,())) (ae.bind (.const jf) (ae.bind T7 (.ret _))) ?_;have hn:=gw (a+ie (s.drop a)) (by omega);cases ok
 ·rw[hr,if_pos rfl]
  exact ae.pos rfl (.ret _)
 ·rw[if_neg (by simp)] at hr
  refine ae.neg (by simp) ?_;by_cases hd:q=[]\/q=[46]
  ·rw[if_pos hd] at hr
   rw[hr];refine ae.bind (r:=(s,(),((a+ie (s.drop a)+1:Nat):Int),q,true,out,())) (.of fun F => ?_) (ae.pos rfl (.ret _));simp only[hn];by_cases h0:q=[]
   ·rw[if_neg (by simp[h0])]
   ·have h1:q=[46]:=hd.resolve_left h0
    rw[if_pos (by simpa using h0),adg h1]
  ·rw[if_neg hd] at hr
   have h0:¬ q=[]:=fun h=>hd (.inl h)
   have h1:¬ q=[46]:=fun h=>hd (.inr h)
   refine ae.bind (r:=(s,(),((a+ie (s.drop a)+1:Nat):Int),q,false,out,())) (.of fun F => ?_) (ae.neg (by simp) ?_)
   ·simp only[hn]
    rw[if_pos (by simpa using h0),adh h1]
   by_cases h2:q=[46,46]
   ·rw[if_pos h2] at hr
    refine ae.pos (by simpa using h2) ?_;by_cases hz:out=[]
    ·rw[if_pos hz] at hr
     rw[hr];exact ae.pos (by simp[hz]) (.ret _)
    ·rw[if_neg hz] at hr
     rw[hr];have hlen:0<out.length:=List.length_pos_iff.2 hz;have hw:IntKind.i64.wrap ((out.length:Int)-1)=((out.length-1:Nat):Int):=by rw[wrap64] <;> omega
     refine ae.neg (by simp[hz]) (.of fun F => ?_);simp only[hw];rw[if_pos (by simp <;> omega),Int.toNat_natCast]
   ·rw[if_neg h2] at hr
    rw[hr];exact ae.neg (by simpa using h2) (ae.pos (by simp <;> omega) (.ret _))
theorem Bj (s:B8) (hs:s.length<=900):∀ (m a:Nat) (out:List B8),s.length-a<=m->a<=s.length->out.length+(s.length-a)<=4000 ->
  ag cE (s,(),(a:Int),out,()) (rpR (jS (dF (s.drop a)) out))
 | m,a,out,hm,ha,ho=>by
  have WM:=FQ (s.drop a);rw[List.length_drop] at WM;rw[qL,jS];obtain ⟨q,ok,hq⟩:∃ q ok,mA ((s.drop a).take (ie (s.drop a)))=(q,ok):=⟨_,_,rfl⟩
  have go:=Kg s hs a ha out (by omega) q ok hq _ rfl
  -- what follows a part
  have next:∀ out':List B8,out'.length<=out.length+1->ag cE (s,(),((a+ie (s.drop a)+1:Nat):Int),out',()) (rpR (jS (if ie (s.drop a)<(s.drop a).length then dF ((s.drop a).drop (ie (s.drop a)+1)) else []) out')):=by
   intro out' ho';by_cases aH:ie (s.drop a)<(s.drop a).length
   ·rw[if_pos aH]
    rw[List.length_drop] at aH;cases m with
    | zero=>omega
    | succ m =>
    have ih:=Bj s hs m (a+ie (s.drop a)+1) out' (by omega) (by omega) (by omega);rw[List.drop_drop];exact ih
   ·rw[if_neg aH]
    rw[List.length_drop] at aH;refine ag.fin (.of fun F => ?_);unfold cE;refine (if_neg (by simp <;> omega)).trans ?_;rfl
  rw[hq];simp only;cases ok
  ·rw[if_pos rfl] at go ⊢
   exact ag.fin go
  ·rw[if_neg (by simp)] at go ⊢
   by_cases hd:q=[]\/q=[46]
   ·rw[if_pos hd] at go ⊢
    exact ag.step go (next out (by omega))
   ·rw[if_neg hd] at go ⊢
    by_cases h2:q=[46,46]
    ·rw[if_pos h2] at go ⊢
     by_cases hz:out=[]
     ·rw[if_pos hz] at go ⊢
      exact ag.fin go
     ·rw[if_neg hz] at go ⊢
      exact ag.step go (next _ (by simp <;> omega))
    ·rw[if_neg h2] at go ⊢
     exact ag.step go (next _ (by simp))
theorem F5 (s:B8):ae (fun F=>eZ F s) (kn s):=by
 unfold eZ;cases s with
 | nil =>
  refine ae.bind (r:=([],true,())) (.of fun F=>if_neg (by simp)) ?_;exact ae.bind (r:=([],true,())) (.of fun F=>if_neg (by simp)) (ae.pos rfl (.ret _))
 | cons c t =>
 by_cases Yw:59<t.length
 ·rw[qF (.inl Yw)]
  refine ae.bind (r:=(c::t,true,())) (.of fun F=>(if_pos (by simp <;> omega)).trans ?_) ?_
  ·rw[adg (by simp <;> omega)]
  exact ae.bind (r:=(c::t,true,())) (.of fun F=>if_neg (by simp)) (ae.pos rfl (.ret _))
 refine ae.bind (r:=(c::t,false,())) (.of fun F=>(if_pos (by simp <;> omega)).trans ?_) ?_
 ·rw[adh (by simp <;> omega)]
 by_cases hc:c=47
 ·subst hc
  refine ae.bind (r:=(47::t,false,())) (.of fun F=>rfl) (ae.neg (by simp) ?_);have hl:=Bj (47::t) (by simp <;> omega) _ 1 [] (Nat.le_refl _) (by simp) (by simp <;> omega);rw[List.drop_succ_cons,List.drop_zero] at hl;refine ae.bind hl.run ?_;rw[xB Yw];cases hw:jS (dF t) [] with
  | none=>exact .ret _
  | some l =>
   obtain ⟨h1,h2⟩:=pA 900 t (by omega);obtain ⟨f1,f2⟩:=qw _ _ l 0 ⟨by simp,by simp⟩ (fun p hp=>by have:=h2 p hp; omega) hw;have hl:=B4 l (by omega) f2 _ 0 [] (Nat.zero_add _) (by simp <;> omega);rw[List.drop_zero,List.nil_append] at hl;simp only[rpR,dq];refine ae.bind hl.run ?_;show ae _ (GB l);unfold GB;refine ae.bind (r:=((if iS l=[] then [47] else iS l),())) (.of fun F => ?_) ?_
   ·by_cases h0:iS l=[]
    ·rw[if_pos (by simpa using h0),if_pos h0]
    ·rw[if_neg (by simpa using h0),if_neg h0]
   ·by_cases hz:60<(if iS l=[] then [47] else iS l).length
    ·rw[if_pos hz]
     exact ae.pos (by simp only[ac9]; omega) (.ret _)
    ·rw[if_neg hz]
     exact ae.neg (by simp only[ac9]; omega) (.ret _)
 ·rw[qF (.inr hc)]
  have yh:¬ ((c.toNat:Int)=47):=fun h=>hc (UInt8.toNat_inj.1 (by show c.toNat=47; omega))
  refine ae.bind (r:=(c::t,true,())) (.of fun F=>(if_pos rfl).trans ?_) (ae.pos rfl (.ret _));show some (c::t,!decide ((c.toNat:Int)=47),()) = _;rw[adh yh];rfl
end Go.Vm
