import Derived.Test.YtihpjgcbmipdbaaGreatDoorPk2
set_option linter.unusedVariables false
namespace Go.Vm
open Go Go.Proofs
def bz:B8→List B8
 | [] => [[]]
 | c :: s=>if c=47 then [] :: bz s else match bz s with
  | p :: ps=>(c :: p) :: ps
  | [] => [[c]]
theorem IP:bz [] = [[]]:=rfl
theorem sn (s:B8):bz (47 :: s) = [] :: bz s:=by rw [bz,if_pos rfl]
theorem sy {c:UInt8} {s:B8} {p:B8} {ps:List B8} (h:c≠47) (hs:bz s=p :: ps):bz (c :: s)=(c :: p) :: ps:=by rw [bz,if_neg h,hs]
theorem QZ (l:B8):Lib.index (47 :: l) [47]=((0:Nat):Int):=by rw [Lib.index]; simp [List.isPrefixOf]
theorem NR {b:UInt8} {l:B8} {j:Nat} (h:b≠47) (hj:Lib.index l [47]=(j:Int)):Lib.index (b :: l) [47]=((j+1:Nat):Int):=by
 have hp:([47]:B8).isPrefixOf (b :: l)=false:=by simp [List.isPrefixOf,Ne.symm h]
 rw [Lib.index,hp,hj];have : ¬ ((j:Int) == -1)=true:=fun e=>by have:=beq_iff_eq.1 e; omega
 simp [this]
theorem qL : ∀ s:B8,Lib.split s [47]=bz s
 | []=>by simp [Lib.split,Lib.count_miss,Lib.index,Lib.splitK,bz]
 | b :: l=>by
  have ih:=qL l;unfold Lib.split at ih ⊢
  by_cases hb:b=47
  ·subst hb
   rw [Lib.count_cons_eq,sn,Nat.add_comm,Lib.splitK,QZ];rw [if_neg (by simp)];simpa using ih
  ·rw [Lib.count_cons_ne b 47 l hb]
   by_cases hm:Lib.index l [47] = -1
   ·rw [Lib.count_miss hm] at ih ⊢
    rw [Lib.splitK] at ih ⊢
    exact (sy hb ih.symm).symm
   ·have Tx:=Lib.index_ge l [47]
    obtain ⟨j,hj⟩ : ∃ j:Nat,Lib.index l [47]=j:=⟨(Lib.index l [47]).toNat,by omega⟩
    have hc:=Lib.count_hit (s:=l) (sub := [47]) (by simp) hj;generalize Lib.count (l.drop (j + [47].length)) [47]=k at hc;rw [hc,Nat.add_comm,Lib.splitK,hj,if_neg (fun e=>by have:=beq_iff_eq.1 e; omega)] at ih;rw [hc,Nat.add_comm,Lib.splitK,NR hb hj,if_neg (fun e=>by have:=beq_iff_eq.1 e; omega)];rw [sy hb ih.symm];simp
def hQ:B8→Nat
 | []=>0
 | c :: s=>if c=47 then 0 else hQ s+1
theorem Fy : ∀ s:B8,hQ s≤s.length
 | []=>by simp [hQ]
 | c :: s=>by
  rw [hQ];have:=Fy s;split <;> simp <;> omega
theorem qQ : ∀ s:B8,bz s=s.take (hQ s) :: (if hQ s<s.length then bz (s.drop (hQ s+1)) else [])
 | []=>by simp [bz,hQ]
 | c :: s=>by
  by_cases h:c=47
  ·subst h
   rw [sn];simp [hQ]
  ·have ih:=qQ s
   rw [sy h ih];have e:hQ (c :: s)=hQ s+1:=by rw [hQ,if_neg h]
   rw [e];simp
theorem oA (n:Nat) : ∀ s:B8,s.length≤n→(bz s).length≤s.length+1 ∧ ∀ p∈bz s,p.length≤n
 | [],h=>by simp [bz]
 | c :: s,h=>by
  obtain ⟨h1,h2⟩:=oA n s (by simp at h; omega);by_cases hc:c=47
  ·subst hc
   rw [sn];exact ⟨by simp <;> omega,fun p hp=>by
    rcases List.mem_cons.1 hp with rfl | hp
    ·simp
    ·exact h2 p hp⟩
  ·rw [qQ (c :: s)]
   have h3:=qQ s;have e:hQ (c :: s)=hQ s+1:=by rw [hQ,if_neg hc]
   have e2:(if hQ s+1<(c :: s).length then bz ((c :: s).drop (hQ s+1+1)) else [])=(if hQ s<s.length then bz (s.drop (hQ s+1)) else []):=by simp
   rw [e,e2];rw [h3] at h1 h2;generalize (if hQ s<s.length then bz (s.drop (hQ s+1)) else [])=r at h1 h2;simp only [abp] at h1 h ⊢
   refine ⟨by omega,fun p hp => ?_⟩;rcases List.mem_cons.1 hp with rfl | hp
   ·rw [List.length_take,abp]; omega
   ·have:=h2 p (List.mem_cons_of_mem _ hp)
    omega
def eI:List B8→List B8→Option (List B8)
 | [],out=>some out
 | p :: ps,out=>if (jP p).2=false then none else if (jP p).1 = []∨(jP p).1 = [46] then eI ps out else
  if (jP p).1 = [46,46] then (if out = [] then none else eI ps (out.take (out.length - 1))) else eI ps (out ++ [(jP p).1])
theorem Mc (s:B8):(jP s).1.length≤s.length:=by
 unfold jP;cases h:gY s with
 | none=>simp
 | some t=>exact tM _ s t (Nat.le_refl _) h
def Few (n:Nat) (l:List B8):Prop:=l.length≤n ∧ ∀ q∈l,q.length≤1000
theorem Few.take {n:Nat} {l:List B8} (h:Few n l) (k:Nat):Few n (l.take k):=⟨by have:=h.1; simp; omega,fun q hq=>h.2 q (List.mem_of_mem_take hq)⟩
theorem Few.add {n:Nat} {l:List B8} (h:Few n l) {q:B8} (hq:q.length≤1000):Few (n+1) (l ++ [q]):=⟨by have:=h.1; simp; omega,fun x hx=>by
 rcases List.mem_append.1 hx with hx | hx
 ·exact h.2 x hx
 ·simp at hx; subst hx; exact hq⟩
theorem Few.mono {n m:Nat} {l:List B8} (h:Few n l) (hm:n≤m):Few m l:=⟨Nat.le_trans h.1 hm,h.2⟩
theorem pv : ∀ (ps out l:List B8) (n:Nat),Few n out→(∀ p∈ps,p.length≤1000)→eI ps out=some l→Few (n+ps.length) l
 | [],out,l,n,ho,hp,h=>by cases h; exact ho
 | p :: ps,out,l,n,ho,hp,h=>by
  have hpp:=hp p (by simp);have Y7 : ∀ q∈ps,q.length≤1000:=fun q hq=>hp q (by simp [hq])
  have hq:=Mc p;rw [eI] at h;split at h
  ·cases h
  ·split at h
   ·exact (pv ps out l n ho Y7 h).mono (by simp)
   ·split at h
    ·split at h
     ·cases h
     ·exact (pv ps _ l n (ho.take _) Y7 h).mono (by simp)
    ·exact (pv ps _ l (n+1) (ho.add (by omega)) Y7 h).mono (by simp <;> omega)
def prR:Option (List B8)→(Unit×List B8×Unit) ⊕ (Unit×Bool×List B8×Unit)
 | none => .inr ((),false,[],())
 | some l => .inl ((),l,())
theorem qP (ps:List B8) (hn:ps.length≤1000) (hp : ∀ p∈ps,p.length≤1000) : ∀ (m k:Nat) (out:List B8),k+m=ps.length→out.length+m≤5000 →
  af dV ((),ps,(ps.length:Int),(k:Int),out,()) (prR (eI (ps.drop k) out))
 | 0,k,out,h,ho=>by
  refine af.fin (.of fun F => ?_);unfold dV;refine (if_neg (by simp <;> omega)).trans ?_;rw [List.drop_eq_nil_of_le (by omega)];rfl
 | m+1,k,out,h,ho=>by
  have hk:k<ps.length:=by omega
  have hx:=vq ps k (k:Int) rfl hk;have NG:=hp ps[k] (List.getElem_mem hk);have QM:=JU ps[k] NG;rw [List.drop_eq_getElem_cons hk,eI];generalize hq:jP ps[k]=q at QM;obtain ⟨q,ok⟩:=q;cases ok
  ·rw [if_pos rfl]
   refine af.fin ?_;unfold dV;refine ae.pos (by simp <;> omega) ?_;refine ae.bind (r := .inr ((),false,[],())) ?_ (.of fun F=>rfl);exact ae.bind (.const hx) (ae.bind QM (ae.pos rfl (.ret _)))
  ·rw [if_neg (by simp)]
   simp only;by_cases hd:q = []∨q = [46]
   ·rw [if_pos hd]
    refine af.step ?_ (qP ps hn hp m (k+1) out (by omega) (by omega));unfold dV;refine ae.pos (by simp <;> omega) ?_;refine ae.bind (r := .inl ((),ps,(ps.length:Int),(k:Int),out,())) ?_ (.of fun F=>by simp only [cg]; rw [gp k (by omega)]);refine ae.bind (.const hx) (ae.bind QM (ae.neg (by simp) ?_));refine ae.bind (r:=((),q,ps,(ps.length:Int),(k:Int),q,true,out,())) (.of fun F => ?_) (ae.pos rfl (.ret _));by_cases h0:q = []
    ·subst h0; rfl
    ·have h1:q = [46]:=hd.resolve_left h0
     subst h1; rfl
   ·rw [if_neg hd]
    have h0 : ¬ q = []:=fun h=>hd (.inl h)
    have h1 : ¬ q = [46]:=fun h=>hd (.inr h)
    have hv:(fun _:Nat=>if decide (q = [])=true then some ((),q,ps,(ps.length:Int),(k:Int),q,decide (q = []),out,()) else some ((),q,ps,(ps.length:Int),(k:Int),q,decide (q = [46]),out,()))=fun _=>some ((),q,ps,(ps.length:Int),(k:Int),q,false,out,()):=by
     funext F
     rw [if_neg (by simpa using h0),abu h1]
    by_cases h2:q = [46,46]
    ·rw [if_pos h2]
     by_cases hz:out = []
     ·rw [if_pos hz]
      refine af.fin ?_;unfold dV;refine ae.pos (by simp <;> omega) ?_;refine ae.bind (r := .inr ((),false,[],())) ?_ (.of fun F=>rfl);refine ae.bind (.const hx) (ae.bind QM (ae.neg (by simp) ?_));refine ae.bind (r:=((),q,ps,(ps.length:Int),(k:Int),q,false,out,())) (.of fun F=>congrFun hv F) (ae.neg (by simp) ?_);refine ae.pos (by simpa using h2) (ae.pos (by simp [hz]) (.ret _))
     ·rw [if_neg hz]
      have hlen:0<out.length:=List.length_pos_iff.2 hz;have hw:IntKind.i64.wrap ((out.length:Int) - 1)=((out.length - 1:Nat):Int):=by rw [wrap64] <;> omega
      refine af.step ?_ (qP ps hn hp m (k+1) (out.take (out.length - 1)) (by omega) (by simp <;> omega));unfold dV;refine ae.pos (by simp <;> omega) ?_;refine ae.bind (r := .inl ((),ps,(ps.length:Int),(k:Int),out.take (out.length - 1),())) ?_ (.of fun F=>by simp only [cg]; rw [gp k (by omega)]);refine ae.bind (.const hx) (ae.bind QM (ae.neg (by simp) ?_));refine ae.bind (r:=((),q,ps,(ps.length:Int),(k:Int),q,false,out,())) (.of fun F=>congrFun hv F) (ae.neg (by simp) ?_);refine ae.pos (by simpa using h2) (ae.neg (by simp [hz]) (.of fun F => ?_));simp only [hw];rw [if_pos (by simp <;> omega),Int.toNat_natCast]
    ·rw [if_neg h2]
     refine af.step ?_ (qP ps hn hp m (k+1) (out ++ [q]) (by omega) (by simp <;> omega));unfold dV;refine ae.pos (by simp <;> omega) ?_;refine ae.bind (r := .inl ((),ps,(ps.length:Int),(k:Int),out ++ [q],())) ?_ (.of fun F=>by simp only [cg]; rw [gp k (by omega)]);refine ae.bind (.const hx) (ae.bind QM (ae.neg (by simp) ?_));refine ae.bind (r:=((),q,ps,(ps.length:Int),(k:Int),q,false,out,())) (.of fun F=>congrFun hv F) (ae.neg (by simp) ?_);exact ae.neg (by simpa using h2) (ae.pos (by simp <;> omega) (.ret _))
theorem HB (s:B8) (hs:s.length≤900):ae (fun F=>lF F s) (match eI (bz s) [] with
  | none=>([],false)
  | some l=>(l,true)):=by
 unfold lF;have Lb:ae (fun F=>gA F (s,[47])) (bz s):=by
  refine .of fun F => ?_
  show xU (s,[47]) = _;unfold xU;rw [if_pos (by simp <;> omega),if_pos (by simp),qL]
 refine ae.bind Lb ?_;obtain ⟨h1,h2⟩:=oA 900 s hs;have hl:=qP (bz s) (by omega) (fun p hp=>by have:=h2 p hp; omega) _ 0 [] (Nat.zero_add _) (by simp <;> omega);rw [List.drop_zero] at hl;refine ae.bind hl.run ?_;cases eI (bz s) [] with
 | none=>exact .ret _
 | some l=>exact .ret _
def bW (l:List B8):B8:=l.flatMap fun q=>47 :: cG q
theorem DZ (l:List B8) (hn:l.length≤2000) (hq : ∀ q∈l,q.length≤1000) : ∀ (m k:Nat) (acc:B8),k+m=l.length→acc.length+3001 * m≤100000000 →
  af j1 (acc,l,(l.length:Int),(k:Int),()) (acc ++ bW (l.drop k),())
 | 0,k,acc,h,ha=>by
  refine af.fin (.of fun F => ?_);unfold j1;refine (if_neg (by simp <;> omega)).trans ?_;rw [List.drop_eq_nil_of_le (by omega)];simp [bW]
 | m+1,k,acc,h,ha=>by
  have hk:k<l.length:=by omega
  have hx:=vq l k (k:Int) rfl hk;have Y8:=hq l[k] (List.getElem_mem hk);have hw:=Am l[k];rw [List.drop_eq_getElem_cons hk];have e:acc ++ bW (l[k] :: l.drop (k+1))=(acc ++ ([47] ++ cG l[k])) ++ bW (l.drop (k+1)):=by unfold bW; rw [List.flatMap_cons,List.append_assoc]; rfl
  rw [e];refine af.step ?_ (DZ l hn hq m (k+1) (acc ++ ([47] ++ cG l[k])) (by omega) (by simp <;> omega));unfold j1;refine ae.pos (by simp <;> omega) (ae.bind (.const hx) (ae.bind (Et l[k] Y8) (ae.pos (by simp <;> omega) (ae.pos (by simp <;> omega) (.of fun F => ?_)))));simp only;rw [gp k (by omega)]
theorem Bz (l:List B8) (hn:l.length≤2000) (hq : ∀ q∈l,q.length≤1000) : ∀ (m k:Nat) (acc:B8),k+m=l.length→acc.length+3001 * m≤100000000 →
  af fj ((),acc,(k:Int),l,()) (acc ++ bW (l.drop k),())
 | 0,k,acc,h,ha=>by
  refine af.fin (.of fun F => ?_);unfold fj;refine (if_neg (by simp <;> omega)).trans ?_;rw [List.drop_eq_nil_of_le (by omega)];simp [bW]
 | m+1,k,acc,h,ha=>by
  have hk:k<l.length:=by omega
  have hx:=vq l k (k:Int) rfl hk;have Y8:=hq l[k] (List.getElem_mem hk);have hw:=Am l[k];rw [List.drop_eq_getElem_cons hk];have e:acc ++ bW (l[k] :: l.drop (k+1))=(acc ++ [47] ++ cG l[k]) ++ bW (l.drop (k+1)):=by unfold bW; rw [List.flatMap_cons]; simp
  rw [e];refine af.step ?_ (Bz l hn hq m (k+1) (acc ++ [47] ++ cG l[k]) (by omega) (by simp <;> omega));unfold fj;refine ae.pos (by simp <;> omega) (ae.pos (by simp <;> omega) (ae.bind (.const hx) (ae.bind (Fz l[k] Y8) (ae.pos (by simp <;> omega) (.of fun F => ?_)))));simp only;rw [gp k (by omega)]
def wH (l:List B8):B8×Bool:=if 60<(if bW l = [] then [47] else bW l).length then ([],false) else ((if bW l = [] then [47] else bW l),true)
def gD:B8→B8×Bool
 | []=>([],false)
 | c :: t=>if 59<t.length∨c≠47 then ([],false) else match eI (bz t) [] with
  | none=>([],false)
  | some l=>wH l
theorem ki {c:UInt8} {t:B8} (h:59<t.length∨c≠47):gD (c :: t)=([],false):=if_pos h
theorem jR {t:B8} (h : ¬ 59<t.length):gD (47 :: t)=match eI (bz t) [] with
  | none=>([],false)
  | some l=>wH l:=if_neg (by simpa using h)
theorem xO:jP []=([],true):=by rw [kc pE]; rfl
theorem Bd (s:B8):ae (fun F=>kY F s) (gD s):=by
 unfold kY;cases s with
 | nil =>
  refine ae.bind (r:=([],true,())) (.of fun F=>if_neg (by simp)) ?_;exact ae.bind (r:=([],true,())) (.of fun F=>if_neg (by simp)) (ae.pos rfl (.ret _))
 | cons c t =>
 by_cases Vz:59<t.length
 ·rw [ki (.inl Vz)]
  refine ae.bind (r:=(c :: t,true,())) (.of fun F=>(if_pos (by simp)).trans ?_) ?_
  ·rw [abt (by simp <;> omega)]
  exact ae.bind (r:=(c :: t,true,())) (.of fun F=>if_neg (by simp)) (ae.pos rfl (.ret _))
 refine ae.bind (r:=(c :: t,false,())) (.of fun F=>(if_pos (by simp)).trans ?_) ?_
 ·rw [abu (by simp <;> omega)]
 by_cases hc:c=47
 ·subst hc
  refine ae.bind (r:=(47 :: t,false,())) (.of fun F=>rfl) (ae.neg (by simp) ?_);refine ae.bind (HB (47 :: t) (by simp <;> omega)) ?_;have e:eI (bz (47 :: t)) []=eI (bz t) []:=by rw [sn,eI,xO,if_neg (by simp),if_pos (.inl rfl)]
  rw [e,jR Vz];cases hw:eI (bz t) [] with
  | none=>exact ae.pos rfl (.ret _)
  | some l =>
   obtain ⟨h1,h2⟩:=oA 900 t (by omega);obtain ⟨f1,f2⟩:=pv _ _ l 0 ⟨by simp,by simp⟩ (fun p hp=>by have:=h2 p hp; omega) hw;have hl:=DZ l (by omega) f2 _ 0 [] (Nat.zero_add _) (by simp <;> omega);rw [List.drop_zero,List.nil_append] at hl;refine ae.neg (by simp) (ae.bind hl.run ?_);show ae _ (wH l);unfold wH;refine ae.bind (r:=((if bW l = [] then [47] else bW l),())) (.of fun F => ?_) ?_
   ·by_cases h0:bW l = []
    ·rw [if_pos (by simpa using h0),if_pos h0]
    ·rw [if_neg (by simpa using h0),if_neg h0]
   ·by_cases hz:60<(if bW l = [] then [47] else bW l).length
    ·rw [if_pos hz]
     exact ae.pos (by simp only [abn]; omega) (.ret _)
    ·rw [if_neg hz]
     exact ae.neg (by simp only [abn]; omega) (.ret _)
 ·rw [ki (.inr hc)]
  have vG : ¬ ((c.toNat:Int)=47):=fun h=>hc (UInt8.toNat_inj.1 (by show c.toNat=47; omega))
  refine ae.bind (r:=(c :: t,true,())) (.of fun F=>(if_pos rfl).trans ?_) (ae.pos rfl (.ret _));show some (c :: t, !decide ((c.toNat:Int)=47),()) = _;rw [abu vG];rfl
theorem GS (s:B8) (hs:s.length≤1000) (at':Int) (out:List B8) : ∀ (m e:Nat),s.length - e≤m→e≤s.length →
  af dL (s,(),at',(e:Int),out,()) (s,(),at',((e+hQ (s.drop e):Nat):Int),out,())
 | m,e,hm,he=>by
  by_cases aM:e<s.length
  ·have hx:=vq s e (e:Int) rfl aM
   rw [List.drop_eq_getElem_cons aM,hQ];by_cases hc:s[e]=47
   ·rw [if_pos hc,Nat.add_zero]
    refine af.fin (.of fun F => ?_);unfold dL;refine bP (a:=(s,(),at',(e:Int),false,out,())) ?_ (if_neg (by simp));rw [if_pos (by simp <;> omega),hx,abo,hc];rfl
   ·cases m with
    | zero=>omega
    | succ m =>
    rw [if_neg hc];have ih:=GS s hs at' out m (e+1) (by omega) (by omega);rw [show e+(hQ (s.drop (e+1))+1)=e+1+hQ (s.drop (e+1)) by omega];refine af.step (.of fun F => ?_) ih;have vG : ¬ ((s[e].toNat:Int)=47):=fun h=>hc (UInt8.toNat_inj.1 (by show s[e].toNat=47; omega))
    unfold dL;refine bP (a:=(s,(),at',(e:Int),true,out,())) ?_ ((if_pos rfl).trans ?_)
    ·rw [if_pos (by simp <;> omega),hx,abo,abu vG]
     rfl
    ·simp only
     rw [gp e (by omega)]
  ·have:e=s.length:=by omega
   subst this;refine af.fin (.of fun F => ?_);unfold dL;refine bP (a:=(s,(),at',(s.length:Int),false,out,())) (if_neg (by simp)) ?_;rw [if_neg (by simp),List.drop_eq_nil_of_le (Nat.le_refl _)];rfl
def rpR:Option (List B8)→(Unit×List B8×Unit) ⊕ (B8×Bool×Unit)
 | none => .inr ([],false,())
 | some l => .inl ((),l,())
theorem JQ (s:B8) (hs:s.length≤900) (a:Nat) (ha:a≤s.length) (out:List B8) (ho:out.length≤5000) (q:B8) (ok:Bool) (hq:jP ((s.drop a).take (hQ (s.drop a)))=(q,ok)) (r:(B8×Unit×Int×List B8×Unit) ⊕ ((Unit×List B8×Unit) ⊕ (B8×Bool×Unit)))
  (hr:r=if ok=false then .inr (.inr ([],false,())) else if q = []∨q = [46] then .inl (s,(),((a+hQ (s.drop a)+1:Nat):Int),out,()) else
   if q = [46,46] then (if out = [] then .inr (.inr ([],false,())) else .inl (s,(),((a+hQ (s.drop a)+1:Nat):Int),out.take (out.length - 1),())) else .inl (s,(),((a+hQ (s.drop a)+1:Nat):Int),out ++ [q],())) :
  ae (fun F=>cr F (s,(),(a:Int),out,())) r:=by
 have VA:=Fy (s.drop a);rw [List.length_drop] at VA;have jL:sub s (a:Int) ((a+hQ (s.drop a):Nat):Int)=some ((s.drop a).take (hQ (s.drop a))):=by
  rw [TQ s a _ (by omega) (by omega)];congr 2;omega
 have QM:=Hx ((s.drop a).take (hQ (s.drop a))) (by simp <;> omega);rw [hq] at QM;unfold cr;refine ae.pos (by simp <;> omega) (ae.bind (GS s (by omega) (a:Int) out _ a (Nat.le_refl _) ha).run ?_);refine ae.bind (r:=(s,(),((a+hQ (s.drop a):Nat):Int),q,ok,out,())) (ae.bind (.const jL) (ae.bind QM (.ret _))) ?_;have hn:=gp (a+hQ (s.drop a)) (by omega);cases ok
 ·rw [hr,if_pos rfl]
  exact ae.pos rfl (.ret _)
 ·rw [if_neg (by simp)] at hr
  refine ae.neg (by simp) ?_;by_cases hd:q = []∨q = [46]
  ·rw [if_pos hd] at hr
   rw [hr];refine ae.bind (r:=(s,(),((a+hQ (s.drop a)+1:Nat):Int),q,true,out,())) (.of fun F => ?_) (ae.pos rfl (.ret _));simp only [hn];by_cases h0:q = []
   ·rw [if_neg (by simp [h0])]
   ·have h1:q = [46]:=hd.resolve_left h0
    rw [if_pos (by simpa using h0),abt h1]
  ·rw [if_neg hd] at hr
   have h0 : ¬ q = []:=fun h=>hd (.inl h)
   have h1 : ¬ q = [46]:=fun h=>hd (.inr h)
   refine ae.bind (r:=(s,(),((a+hQ (s.drop a)+1:Nat):Int),q,false,out,())) (.of fun F => ?_) (ae.neg (by simp) ?_)
   ·simp only [hn]
    rw [if_pos (by simpa using h0),abu h1]
   by_cases h2:q = [46,46]
   ·rw [if_pos h2] at hr
    refine ae.pos (by simpa using h2) ?_;by_cases hz:out = []
    ·rw [if_pos hz] at hr
     rw [hr];exact ae.pos (by simp [hz]) (.ret _)
    ·rw [if_neg hz] at hr
     rw [hr];have hlen:0<out.length:=List.length_pos_iff.2 hz;have hw:IntKind.i64.wrap ((out.length:Int) - 1)=((out.length - 1:Nat):Int):=by rw [wrap64] <;> omega
     refine ae.neg (by simp [hz]) (.of fun F => ?_);simp only [hw];rw [if_pos (by simp <;> omega),Int.toNat_natCast]
   ·rw [if_neg h2] at hr
    rw [hr];exact ae.neg (by simpa using h2) (ae.pos (by simp <;> omega) (.ret _))
theorem Ar (s:B8) (hs:s.length≤900) : ∀ (m a:Nat) (out:List B8),s.length - a≤m→a≤s.length→out.length+(s.length - a)≤4000 →
  af cr (s,(),(a:Int),out,()) (rpR (eI (bz (s.drop a)) out))
 | m,a,out,hm,ha,ho=>by
  have VA:=Fy (s.drop a);rw [List.length_drop] at VA;rw [qQ,eI];obtain ⟨q,ok,hq⟩ : ∃ q ok,jP ((s.drop a).take (hQ (s.drop a)))=(q,ok):=⟨_,_,rfl⟩
  have go:=JQ s hs a ha out (by omega) q ok hq _ rfl
  -- what follows a part
  have next : ∀ out':List B8,out'.length≤out.length+1→af cr (s,(),((a+hQ (s.drop a)+1:Nat):Int),out',()) (rpR (eI (if hQ (s.drop a)<(s.drop a).length then bz ((s.drop a).drop (hQ (s.drop a)+1)) else []) out')):=by
   intro out' ho';by_cases aM:hQ (s.drop a)<(s.drop a).length
   ·rw [if_pos aM]
    rw [List.length_drop] at aM;cases m with
    | zero=>omega
    | succ m =>
    have ih:=Ar s hs m (a+hQ (s.drop a)+1) out' (by omega) (by omega) (by omega);rw [List.drop_drop];exact ih
   ·rw [if_neg aM]
    rw [List.length_drop] at aM;refine af.fin (.of fun F => ?_);unfold cr;refine (if_neg (by simp <;> omega)).trans ?_;rfl
  rw [hq];simp only;cases ok
  ·rw [if_pos rfl] at go ⊢
   exact af.fin go
  ·rw [if_neg (by simp)] at go ⊢
   by_cases hd:q = []∨q = [46]
   ·rw [if_pos hd] at go ⊢
    exact af.step go (next out (by omega))
   ·rw [if_neg hd] at go ⊢
    by_cases h2:q = [46,46]
    ·rw [if_pos h2] at go ⊢
     by_cases hz:out = []
     ·rw [if_pos hz] at go ⊢
      exact af.fin go
     ·rw [if_neg hz] at go ⊢
      exact af.step go (next _ (by simp <;> omega))
    ·rw [if_neg h2] at go ⊢
     exact af.step go (next _ (by simp))
theorem wC (s:B8):ae (fun F=>eN F s) (gD s):=by
 unfold eN;cases s with
 | nil =>
  refine ae.bind (r:=([],true,())) (.of fun F=>if_neg (by simp)) ?_;exact ae.bind (r:=([],true,())) (.of fun F=>if_neg (by simp)) (ae.pos rfl (.ret _))
 | cons c t =>
 by_cases Vz:59<t.length
 ·rw [ki (.inl Vz)]
  refine ae.bind (r:=(c :: t,true,())) (.of fun F=>(if_pos (by simp <;> omega)).trans ?_) ?_
  ·rw [abt (by simp <;> omega)]
  exact ae.bind (r:=(c :: t,true,())) (.of fun F=>if_neg (by simp)) (ae.pos rfl (.ret _))
 refine ae.bind (r:=(c :: t,false,())) (.of fun F=>(if_pos (by simp <;> omega)).trans ?_) ?_
 ·rw [abu (by simp <;> omega)]
 by_cases hc:c=47
 ·subst hc
  refine ae.bind (r:=(47 :: t,false,())) (.of fun F=>rfl) (ae.neg (by simp) ?_);have hl:=Ar (47 :: t) (by simp <;> omega) _ 1 [] (Nat.le_refl _) (by simp) (by simp <;> omega);rw [List.drop_succ_cons,List.drop_zero] at hl;refine ae.bind hl.run ?_;rw [jR Vz];cases hw:eI (bz t) [] with
  | none=>exact .ret _
  | some l =>
   obtain ⟨h1,h2⟩:=oA 900 t (by omega);obtain ⟨f1,f2⟩:=pv _ _ l 0 ⟨by simp,by simp⟩ (fun p hp=>by have:=h2 p hp; omega) hw;have hl:=Bz l (by omega) f2 _ 0 [] (Nat.zero_add _) (by simp <;> omega);rw [List.drop_zero,List.nil_append] at hl;simp only [rpR,cg];refine ae.bind hl.run ?_;show ae _ (wH l);unfold wH;refine ae.bind (r:=((if bW l = [] then [47] else bW l),())) (.of fun F => ?_) ?_
   ·by_cases h0:bW l = []
    ·rw [if_pos (by simpa using h0),if_pos h0]
    ·rw [if_neg (by simpa using h0),if_neg h0]
   ·by_cases hz:60<(if bW l = [] then [47] else bW l).length
    ·rw [if_pos hz]
     exact ae.pos (by simp only [abn]; omega) (.ret _)
    ·rw [if_neg hz]
     exact ae.neg (by simp only [abn]; omega) (.ret _)
 ·rw [ki (.inr hc)]
  have vG : ¬ ((c.toNat:Int)=47):=fun h=>hc (UInt8.toNat_inj.1 (by show c.toNat=47; omega))
  refine ae.bind (r:=(c :: t,true,())) (.of fun F=>(if_pos rfl).trans ?_) (ae.pos rfl (.ret _));show some (c :: t, !decide ((c.toNat:Int)=47),()) = _;rw [abu vG];rfl
theorem Hb : ∀ n:Fin 16,dgt (sC n.val)=((n.val:Nat):Int):=by decide +kernel
theorem Mw (c:UInt8) (s:B8):gY (wr1 c ++ s)=(gY s).map (c :: ·):=by
 unfold wr1;have hn:c.toNat<256:=c.toNat_lt;by_cases hp:lr c=true
 ·rw [if_pos hp]
  refine wN ?_
  rintro rfl
  revert hp
  decide
 ·rw [if_neg hp]
  have h1:=Hb ⟨c.toNat / 16,by omega⟩;have h2:=Hb ⟨c.toNat % 16,by omega⟩;simp only at h1 h2;show gY (37 :: sC (c.toNat / 16) :: sC (c.toNat % 16) :: s) = _;rw [zM,h1,h2,if_pos (by omega)];have:byteOf (sC (c.toNat / 16)) (sC (c.toNat % 16))=c:=by
   unfold byteOf;rw [h1,h2,Int.toNat_natCast,Int.toNat_natCast,Nat.div_add_mod];simp
  rw [this]
theorem Fs (q:B8):gY (cG q)=some q:=by
 unfold cG;induction q with
 | nil=>rfl
 | cons c q ih=>rw [List.flatMap_cons,Mw,ih]; rfl
theorem Hd : ∀ n:Fin 16,sC n.val≠47:=by decide +kernel
theorem N2 (c:UInt8) : ∀ x∈wr1 c,x≠47:=by
 unfold wr1;have hn:c.toNat<256:=c.toNat_lt;intro x hx;split at hx
 ·rename_i hp
  simp only [List.mem_singleton] at hx;subst hx
  rintro rfl
  revert hp
  decide
 ·simp only [List.mem_cons,List.not_mem_nil,or_false] at hx
  rcases hx with rfl | rfl | rfl
  ·decide
  ·exact Hd ⟨c.toNat / 16,by omega⟩
  ·exact Hd ⟨c.toNat % 16,by omega⟩
theorem zg (q:B8) : ∀ x∈cG q,x≠47:=by
 intro x hx;obtain ⟨c,_,hc⟩:=List.mem_flatMap.1 hx;exact N2 c x hc
theorem sS : ∀ (x y:B8),(∀ c∈x,c≠47)→(y = []→bz (x ++ y) = [x])∧(∀ z,y=47 :: z→bz (x ++ y)=x :: bz z)
 | [],y,h=>⟨fun e=>by subst e; rfl,fun z e=>by subst e; exact sn z⟩
 | c :: x,y,h=>by
  have hc:=h c (by simp);obtain ⟨h1,h2⟩:=sS x y (fun d hd=>h d (by simp [hd]));exact ⟨fun e=>sy hc (h1 e),fun z e=>sy hc (h2 z e)⟩
theorem yM : ∀ (q:B8) (l:List B8),bz (cG q ++ bW l)=(q :: l).map cG
 | q,[]=>(sS _ _ (zg q)).1 rfl
 | q,r :: l=>by
  have:=(sS (cG q) (bW (r :: l)) (zg q)).2 (cG r ++ bW l) (by simp [bW]);rw [this,yM r l];rfl
def Okq (q:B8):Prop:=q ≠ []∧q ≠ [46]∧q ≠ [46,46]∧nB q 60=true
theorem xb : ∀ (ps out l:List B8),(∀ q∈out,Okq q)→eI ps out=some l → ∀ q∈l,Okq q
 | [],out,l,ho,h=>by cases h; exact ho
 | p :: ps,out,l,ho,h=>by
  rw [eI] at h;split at h
  ·cases h
  ·rename_i oe
   split at h
   ·exact xb ps out l ho h
   ·rename_i hd
    split at h
    ·split at h
     ·cases h
     ·exact xb ps _ l (fun q hq=>ho q (List.mem_of_mem_take hq)) h
    ·rename_i h2
     refine xb ps _ l (fun q hq => ?_) h;rcases List.mem_append.1 hq with hq | hq
     ·exact ho q hq
     ·simp only [List.mem_singleton] at hq
      subst hq;have h0 : ¬ (jP p).1 = []:=fun e=>hd (.inl e)
      refine ⟨h0,fun e=>hd (.inr e),h2,?_⟩;cases hr:gY p with
      | none=>rw [u5 hr] at oe; exact absurd rfl oe
      | some t =>
       rw [kc hr] at oe h0 ⊢
       simp only at h0 oe ⊢
       rw [abu h0,Bool.false_or] at oe;simpa using oe
theorem Hj {q:B8} (h:Okq q):jP (cG q)=(q,true):=by
 rw [kc (Fs q),abu h.1,Bool.false_or,h.2.2.2]
theorem zj : ∀ (l out:List B8),(∀ q∈l,Okq q)→eI (l.map cG) out=some (out ++ l)
 | [],out,h=>by simp [eI]
 | q :: l,out,h=>by
  have hq:=h q (by simp);rw [List.map_cons,eI,Hj hq,if_neg (by simp),if_neg (fun e=>e.elim hq.1 hq.2.1),if_neg hq.2.2.1,zj l _ (fun x hx=>h x (by simp [hx]))];simp
theorem ze (s:B8) (h:(gD s).2=true):gD (gD s).1=((gD s).1,true):=by
 cases s with
 | nil=>cases h
 | cons c t =>
 by_cases hc:59<t.length∨c≠47
 ·rw [ki hc] at h; cases h
 ·have Vz : ¬ 59<t.length:=fun e=>hc (.inl e)
  obtain rfl:c=47:=by
   by_cases e:c=47
   ·exact e
   ·exact absurd (.inr e) hc
  rw [jR Vz] at h ⊢
  cases hw:eI (bz t) [] with
  | none=>rw [hw] at h; cases h
  | some l =>
   rw [hw] at h;have hl:=xb _ _ l (by simp) hw;have key : ∀ o:B8,(if 60<o.length then (([],false):B8×Bool) else (o,true)).2=true → ¬ 60<o.length∧(if 60<o.length then (([],false):B8×Bool) else (o,true))=(o,true):=by
    intro o ho;split at ho
    ·cases ho
    ·rename_i hz
     exact ⟨hz,if_neg hz⟩
   obtain ⟨hz,e⟩:=key (if bW l = [] then [47] else bW l) h
   replace e:wH l=((if bW l = [] then [47] else bW l),true):=e
   show gD (wH l).1=((wH l).1,true);rw [e];simp only;cases l with
   | nil =>
    have this:(if bW [] = [] then ([47]:B8) else bW []) = [47]:=rfl;rw [this] at e ⊢
    have Ta:eI (bz []) []=some []:=by rw [IP,eI,xO,if_neg (by simp),if_pos (.inl rfl)]; rfl
    rw [jR (by simp),Ta];exact e
   | cons q l =>
    have hj:bW (q :: l)=47 :: (cG q ++ bW l):=by simp [bW]
    have ib : ¬ bW (q :: l) = []:=by rw [hj]; simp
    have this:(if bW (q :: l) = [] then ([47]:B8) else bW (q :: l))=47 :: (cG q ++ bW l):=by rw [if_neg ib,hj]
    rw [this] at hz e ⊢
    rw [jR (by rw [abp] at hz; omega),yM,zj _ _ hl,List.nil_append];exact e
end Go.Vm
