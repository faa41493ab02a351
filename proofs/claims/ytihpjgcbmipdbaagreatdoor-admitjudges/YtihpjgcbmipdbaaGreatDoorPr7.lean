import Derived.Test.YtihpjgcbmipdbaaGreatDoorPr4
set_option linter.unusedVariables false
set_option linter.unusedSimpArgs false
namespace Go.Vm
open Go.Proofs
def zz (r:RlT):Prop:=r.1.length≤900∧r.2.1.length≤900∧r.2.2.1.length≤100000 ∧ ∀ p∈r.2.2.1,Cr p
theorem zz.r {r:RlT} (h:zz r):Ey r:=⟨by have:=h.1; omega,by have:=h.2.1; omega,h.2.2.1,h.2.2.2⟩
theorem Bj (l:List RlT) (hl:l.length≤1000000) (hb : ∀ r∈l,zz r) : ∀ (n i:Nat),i+n=l.length→af ed (l,(i:Int),()) (if (l.drop i).all ku=true then .inl (l,()) else .inr (false,()))
 | 0,i,h=>by
  refine af.fin (.of fun F => ?_);unfold ed;rw [if_neg (by rw [abn]; simp only; omega),List.drop_eq_nil_of_le (by omega)];rfl
 | n+1,i,h=>by
  have hi:i<l.length:=by omega
  have hx:idx l (i:Int)=some l[i]:=bc _ _ _ (List.getElem?_eq_getElem hi);have hw:IntKind.i64.wrap ((i:Int)+1)=((i+1:Nat):Int):=by rw [wrap64 _ (by omega) (by omega)]; omega
  have ih:=Bj l hl hb n (i+1) (by omega);obtain ⟨b1,b2,b3,b4⟩:=hb l[i] (List.getElem_mem hi);rw [List.drop_eq_getElem_cons hi,List.all_cons];generalize l[i]=r at *
  obtain ⟨m,p,pr,u⟩:=r;simp only at b1 b2 b3 b4;have e:ku (m,p,pr,u)=(oG m && lb p && nR pr):=rfl;have a7:ae (fun F=>ed F (l,(i:Int),())) (if ku (m,p,pr,u)=true then .inl (l,((i+1:Nat):Int),()) else .inr (.inr (false,()))):=by
   rw [e];unfold ed;refine ae.pos (by rw [abn]; simp only; omega) ?_;refine ae.bind (r:=((l,(i:Int), !(oG m && lb p),()):List RlT×Int×Bool×Unit)) (ae.bind (.of fun F=>hx) (ae.bind (LX m) ?_)) ?_
   ·cases oG m with
    | true=>exact ae.pos rfl (ae.bind (.of fun F=>hx) (ae.bind (Bv p b2) (.ret _)))
    | false=>exact ae.neg (by decide) (.ret _)
   refine ae.bind (r:=((l,(i:Int), !(oG m && lb p && nR pr),()):List RlT×Int×Bool×Unit)) ?_ ?_
   ·cases (oG m && lb p) with
    | true=>exact ae.pos rfl (ae.bind (.of fun F=>hx) (ae.bind (OQ pr (by omega) b4) (.ret _)))
    | false=>exact ae.neg Bool.noConfusion (.ret _)
   ·cases (oG m && lb p && nR pr) with
    | true=>exact ae.neg abw (.of fun F=>by simp only [hw,if_true])
    | false=>exact ae.pos rfl (.ret _)
  cases hc:ku (m,p,pr,u) with
  | true =>
   rw [hc,if_pos rfl] at a7;rw [Bool.true_and];exact af.step a7 ih
  | false =>
   rw [hc,if_neg abw] at a7;rw [Bool.false_and,if_neg abw];exact af.fin a7
theorem SF (l:List RlT) (hl:l.length≤1000000) (hb : ∀ r∈l,zz r):ae (fun F=>gN F l) (zw l):=by
 unfold gN zw;have h:=Bj l hl hb l.length 0 (by omega);rw [List.drop_zero] at h;refine ae.bind h.run ?_;by_cases ha:l.all ku=true
 ·rw [if_pos ha,ha,Bool.and_true]
  refine ae.bind (r:=((decide (1≤l.length) && decide (l.length≤8),()):Bool×Unit)) (.of fun F => ?_) (.ret _);by_cases h0:1≤l.length
  ·rw [if_pos (by rw [abn]; simp only; omega),abt h0,Bool.true_and]
   simp only;congr 2;rw [Bool.eq_iff_iff,abn,abn]; omega
  ·rw [if_neg (by rw [abn]; simp only; omega),abu h0,Bool.false_and]
 ·have QV:l.all ku=false:=by simpa using ha
  rw [if_neg ha,QV,Bool.and_false];exact .ret _
def AD (l:List By):By:=l.flatMap fun p=>10 :: p
theorem Ri (p:By) (l:List By):ji 10 (p :: l)=p ++ AD l:=by
 induction l generalizing p with
 | nil=>show p=p ++ []; rw [List.append_nil]
 | cons q r ih =>
  rw [ll 10 p (by simp),ih q];show p ++ 10 :: (q ++ AD r)=p ++ (10 :: q ++ AD r);rfl
theorem vJ (F':Unit) (l:List RlT) (r:RlT) (i:Nat) (out:By) (hx:idx l (i:Int)=some r) (hr:ku r=true) (ho:out.length≤1000000) :
  ae (fun F=>(idx l (i:Int)).bind fun v2=>if decide (out.length+v2.1.length≤9223372036854775807)=true then if decide ((out ++ v2.1).length+([32]:By).length≤9223372036854775807)=true then (idx l (i:Int)).bind fun v3=>if decide ((out ++ v2.1 ++ [32]).length+v3.2.1.length≤9223372036854775807)=true then if decide ((out ++ v2.1 ++ [32] ++ v3.2.1).length+([58,32]:By).length≤9223372036854775807)=true then (idx l (i:Int)).bind fun v4=>(cV F v4.2.2.1).bind fun v5=>if decide ((out ++ v2.1 ++ [32] ++ v3.2.1 ++ [58,32]).length+v5.length≤9223372036854775807)=true then some (Sum.inl (l,out ++ v2.1 ++ [32] ++ v3.2.1 ++ [58,32] ++ v5,IntKind.i64.wrap ((i:Int)+1),())) else none else none else none else none else none:Nat→Option ((List RlT×By×Int×Unit) ⊕ (By×Unit)))
   (.inl (l,out ++ hE r,IntKind.i64.wrap ((i:Int)+1),())):=by
 obtain ⟨q1,q2,q3,q4⟩:=wQ hr;have hm:nR r.2.2.1=true:=by
  unfold ku at hr;simp only [abv] at hr;exact hr.2
 obtain ⟨m1,_,m3⟩:=ly hm;have hp:=GC r.2.2.1 (by omega) m1;have e:out ++ r.1 ++ [32] ++ r.2.1 ++ [58,32] ++ eE r.2.2.1=out ++ hE r:=by unfold hE; simp [List.append_assoc]
 have big : ∀ {a b:Nat},a+b≤10000000→decide (a+b≤9223372036854775807)=true:=fun h=>abt (by omega)
 refine ae.bind (.of fun F=>hx) ?_;refine ae.pos (big (by omega)) ?_;refine ae.pos (big (by simp only [abr,abp,List.length_nil]; omega)) (ae.bind (.of fun F=>hx) ?_);refine ae.pos (big (by simp only [abr,abp,List.length_nil]; omega)) ?_;refine ae.pos (big (by simp only [abr,abp,List.length_nil]; omega)) (ae.bind (.of fun F=>hx) (ae.bind hp ?_));refine ae.pos (big (by simp only [abr,abp,List.length_nil]; omega)) (.of fun F => ?_);rw [e]
theorem xm (l:List RlT) (hl:l.length≤500) (hr : ∀ r∈l,ku r=true) : ∀ (n i:Nat) (out:By),i+n=l.length→1≤i→out.length≤1002 * i→af bZ (l,out,(i:Int),()) (out ++ AD ((l.drop i).map hE),())
 | 0,i,out,h,h1,ho=>by
  refine af.fin (.of fun F => ?_);unfold bZ;rw [if_neg (by rw [abn]; simp only; omega),List.drop_eq_nil_of_le (by omega)];show some (Sum.inr (out,()))=some (Sum.inr (out ++ [],()));rw [List.append_nil]
 | n+1,i,out,h,h1,ho=>by
  have hi:i<l.length:=by omega
  have hx:idx l (i:Int)=some l[i]:=bc _ _ _ (List.getElem?_eq_getElem hi);have hw:IntKind.i64.wrap ((i:Int)+1)=((i+1:Nat):Int):=by rw [wrap64 _ (by omega) (by omega)]; omega
  have uA:=hr l[i] (List.getElem_mem hi);rw [List.drop_eq_getElem_cons hi,List.map_cons];generalize l[i]=r at *
  obtain ⟨q1,q2,q3,q4⟩:=wQ uA;have ht:=vJ () l r i (out ++ [10]) hx uA (by rw [abr,List.length_singleton]; omega);rw [hw] at ht;have ih:=xm l hl hr n (i+1) (out ++ [10] ++ hE r) (by omega) (by omega) (by simp only [abr,abp,List.length_nil]; omega);have e:out ++ AD (hE r :: (l.drop (i+1)).map hE)=out ++ [10] ++ hE r ++ AD ((l.drop (i+1)).map hE):=by
   show out ++ (10 :: hE r ++ AD ((l.drop (i+1)).map hE)) = _;simp [List.append_assoc]
  rw [e];refine af.step ?_ ih;unfold bZ;refine ae.pos (by rw [abn]; simp only; omega) ?_;refine ae.bind (r:=((l,out ++ [10],(i:Int),()):List RlT×By×Int×Unit)) (ae.pos (by rw [abn]; simp only; omega) (ae.pos (by rw [abn]; simp only [abp,List.length_nil]; omega) (.ret _))) ?_;rw [← hw] at ht ⊢
  exact ht
theorem MG (l:List RlT) (h:zw l=true):ae (fun F=>fQ F l) (nN l):=by
 obtain ⟨h0,h8,hr⟩:=Bb h;unfold fQ nN;cases l with
 | nil=>exact absurd rfl h0
 | cons p r =>
  rw [abp] at h8;have uA:=hr p (List.mem_cons_self ..);obtain ⟨q1,q2,q3,q4⟩:=wQ uA;have hx:idx (p :: r) ((0:Nat):Int)=some p:=bc _ 0 _ rfl;have ht:=vJ () (p :: r) p 0 [] hx uA (Nat.zero_le _);have hl:=xm (p :: r) (by rw [abp]; omega) hr r.length 1 (hE p) (by rw [abp]; omega) (Nat.le_refl _) (by omega);have hw:IntKind.i64.wrap (((0:Nat):Int)+1)=((1:Nat):Int):=by rw [wrap64 _ (by omega) (by omega)]; rfl
  have hs:af bZ (p :: r,([]:By),0,()) (ji 10 ((p :: r).map hE),()):=by
   rw [List.map_cons,Ri];refine af.step (x':=(p :: r,[] ++ hE p,IntKind.i64.wrap (((0:Nat):Int)+1),())) ?_ ?_
   ·unfold bZ
    refine ae.pos (by rw [abn]; simp only [abp]; omega) ?_;exact ae.bind (r:=((p :: r,[],0,()):List RlT×By×Int×Unit)) (ae.neg (by simp) (.ret _)) ht
   ·rw [hw,List.nil_append]
    exact hl
  exact ae.bind hs.run (.ret _)
theorem G3 (d:UInt8) (s p q:By) (hs:s=p ++ d :: q) (hp : ∀ b∈p,b≠d) (hl:s.length≤1000000) : ∀ (n i:Nat),i+n=p.length→af bF (s,(d.toNat:Int),(i:Int),()) (.inr (p,q,true,()))
 | 0,i,h=>by
  have QE:s.length=p.length+1+q.length:=by rw [hs,abr,abp]; omega
  have Tb:i=p.length:=by omega
  have hx:idx s (i:Int)=some d:=bc _ _ _ (by rw [hs,Tb,List.getElem?_append_right (Nat.le_refl _),Nat.sub_self]; rfl);have hw:IntKind.i64.wrap ((i:Int)+1)=((i+1:Nat):Int):=by rw [wrap64 _ (by omega) (by omega)]; omega
  have s1:sub s 0 (i:Int)=some p:=by
   have:=j4 s 0 i (Nat.zero_le _) (by omega);rw [List.drop_zero,Nat.sub_zero,Tb] at this;rw [Tb];refine (this:sub s 0 (p.length:Int) = _).trans ?_;rw [hs,List.take_left]
  have s2:sub s ((i+1:Nat):Int) (s.length:Int)=some q:=by
   have:=eV s (i+1) (by omega);rw [this,Tb,hs];congr 1;rw [show p ++ d :: q=(p ++ [d]) ++ q by simp,List.drop_left' (by simp)]
  refine af.fin (.of fun F => ?_);unfold bF;rw [if_pos (by rw [abn]; simp only; omega)];simp only [hx,abo];rw [if_pos (abt trivial)];simp only [s1,hw,s2,abo]
 | n+1,i,h=>by
  have QE:s.length=p.length+1+q.length:=by rw [hs,abr,abp]; omega
  have hi:i<p.length:=by omega
  have hx:idx s (i:Int)=some p[i]:=bc _ _ _ (by rw [hs,List.getElem?_append_left hi,List.getElem?_eq_getElem hi]);have hc:=hp p[i] (List.getElem_mem hi);have hw:IntKind.i64.wrap ((i:Int)+1)=((i+1:Nat):Int):=by rw [wrap64 _ (by omega) (by omega)]; omega
  have nd:((p[i].toNat:Int)=(d.toNat:Int))=(p[i]=d):=nvB p[i] d;refine af.step (.of fun F => ?_) (G3 d s p q hs hp hl n (i+1) (by omega));unfold bF;rw [if_pos (by rw [abn]; simp only; omega)];simp only [hx,abo,nd,abu hc,abq,if_false,hw]
theorem DF (d:UInt8) (s:By) (hp : ∀ b∈s,b≠d) (hl:s.length≤1000000) : ∀ (n i:Nat),i+n=s.length→af bF (s,(d.toNat:Int),(i:Int),()) (.inl (s,()))
 | 0,i,h=>by
  refine af.fin (.of fun F => ?_);unfold bF;rw [if_neg (by rw [abn]; simp only; omega)]
 | n+1,i,h=>by
  have hi:i<s.length:=by omega
  have hx:idx s (i:Int)=some s[i]:=bc _ _ _ (List.getElem?_eq_getElem hi);have hc:=hp s[i] (List.getElem_mem hi);have hw:IntKind.i64.wrap ((i:Int)+1)=((i+1:Nat):Int):=by rw [wrap64 _ (by omega) (by omega)]; omega
  have nd:((s[i].toNat:Int)=(d.toNat:Int))=(s[i]=d):=nvB s[i] d;refine af.step (.of fun F => ?_) (DF d s hp hl n (i+1) (by omega));unfold bF;rw [if_pos (by rw [abn]; simp only; omega)];simp only [hx,abo,nd,abu hc,abq,if_false,hw]
theorem H8 (d:UInt8) (k:Int) (hk:k=(d.toNat:Int)) (s:By) (hl:s.length≤1000000):ae (fun F=>dE F (s,k)) (Lib.cut s [d]):=by
 subst hk;unfold dE;rcases CN d s with ⟨p,q,hs,hp,hc⟩ | ⟨hp,hc⟩
 ·rw [hc]
  have h:=G3 d s p q hs hp hl p.length 0 (by omega);exact ae.bind h.run (.ret _)
 ·rw [hc]
  have h:=DF d s hp hl s.length 0 (by omega);exact ae.bind h.run (.ret _)
def yg (x:By):Option RlT:=if (Lib.cut x [32]).2.2=false∨(Lib.cut (Lib.cut x [32]).2.1 [58]).2.2=false∨(Lib.cut (Lib.cut x [32]).2.1 [58]).2.1 = []∨(ow ((Lib.cut (Lib.cut x [32]).2.1 [58]).2.1.drop 1)).2=false then none
 else some ((Lib.cut x [32]).1,(Lib.cut (Lib.cut x [32]).2.1 [58]).1,(ow ((Lib.cut (Lib.cut x [32]).2.1 [58]).2.1.drop 1)).1,())
theorem yN (r:RlT) (h:ku r=true):yg (hE r)=some r:=by
 obtain ⟨m,p,pr,u⟩:=r;unfold ku at h;simp only [abv] at h;obtain ⟨⟨h1,h2⟩,h3⟩:=h;have hc:Lib.cut (hE (m,p,pr,u)) [32]=(m,p ++ 58 :: 32 :: eE pr,true):=tL (fun b hb=>(KF h1 b hb).2.1) _;have hd:Lib.cut (p ++ 58 :: 32 :: eE pr) [58]=(p,32 :: eE pr,true):=tL (fun b hb=>(PN h2 b hb).2.2) _;unfold yg;rw [hc];simp only;rw [hd];simp only;rw [show (32 :: eE pr:By).drop 1=eE pr from rfl,Cu pr h3,if_neg]
 rintro (h | h | h | h) <;> cases h
def jt:Nat→By→Bool→List RlT→Option (List RlT)
 | 0,rest,more,out=>some out
 | n+1,rest,more,out=>if more=true∧out.length<9 then (match yg (Lib.cut rest [10]).1 with
  | none=>none
  | some r=>jt n (Lib.cut rest [10]).2.1 (Lib.cut rest [10]).2.2 (out ++ [r])) else some out
def xo (s:By):List RlT×Bool:=match jt 10 s true [] with
 | none=>([],false)
 | some l=>if zw l=true∧nN l=s then (l,true) else ([],false)
theorem vL : ∀ (r:List RlT) (p:RlT) (n:Nat) (out:List RlT),(∀ q∈p :: r,ku q=true)→out.length+r.length+1≤8→r.length+2≤n→jt n (ji 10 ((p :: r).map hE)) true out=some (out ++ p :: r)
 | [],p,n,out,hr,ho,hn=>by
  have hp:=hr p (List.mem_cons_self ..);simp only [List.length_nil] at ho hn;obtain ⟨k,rfl⟩ : ∃ k,n=k+1:=⟨n - 1,by omega⟩
  have hc:Lib.cut (ji 10 ([p].map hE)) [10]=(hE p,[],false):=Bw (CQ hp);rw [jt,if_pos ⟨rfl,by omega⟩,hc];simp only;rw [yN p hp];simp only;cases k with
  | zero=>rfl
  | succ k=>rw [jt,if_neg (fun hh=>absurd hh.1 abw)]
 | q :: r,p,n,out,hr,ho,hn=>by
  have hp:=hr p (List.mem_cons_self ..);simp only [abp] at ho hn;obtain ⟨k,rfl⟩ : ∃ k,n=k+1:=⟨n - 1,by omega⟩
  have hc:Lib.cut (ji 10 ((p :: q :: r).map hE)) [10]=(hE p,ji 10 ((q :: r).map hE),true):=by
   rw [List.map_cons,ll 10 _ (by simp)];exact tL (CQ hp) _
  rw [jt,if_pos ⟨rfl,by omega⟩,hc];simp only;rw [yN p hp];simp only;rw [vL r q k (out ++ [p]) (fun x hx=>hr x (List.mem_cons_of_mem _ hx)) (by rw [abr,List.length_singleton]; omega) (by omega),List.append_assoc];rfl
theorem DM {p:PhT} (h:fU p=true):Cr p:=by
 rcases kq h with ⟨n,rfl,_,_⟩ | ⟨nm,n,rfl,h,_,_⟩ | ⟨nm,t,rfl,h,ht⟩ | ⟨n,t,rfl,_,ht⟩
 ·exact ⟨Nat.zero_le _,Nat.zero_le _⟩
 ·exact ⟨by have:=xJ h; simp only; omega,Nat.zero_le _⟩
 ·exact ⟨by have:=xJ h; simp only; omega,by have:=ni ht; simp only; omega⟩
 ·exact ⟨Nat.zero_le _,by have:=ni ht; simp only; omega⟩
theorem IM (x:By) (hx:x.length≤900) (r:RlT) (h:yg x=some r):zz r:=by
 have l1:=lM x [32];have l2:=lM (Lib.cut x [32]).2.1 [58];unfold yg at h;split at h
 ·cases h
 ·cases h
  refine ⟨by simp only; omega,by simp only; omega,?_⟩;unfold ow;split
  ·exact ⟨Nat.zero_le _,fun p hp=>by cases hp⟩
  ·rename_i l hl
   by_cases hm:nR l=true∧eE l=(Lib.cut (Lib.cut x [32]).2.1 [58]).2.1.drop 1
   ·rw [if_pos hm]
    obtain ⟨h1,_,h3⟩:=ly hm.1;exact ⟨by simp only; omega,fun p hp=>DM (h1 p hp)⟩
   ·rw [if_neg hm]
    exact ⟨Nat.zero_le _,fun p hp=>by cases hp⟩
theorem za : ∀ (n:Nat) (rest:By) (more:Bool) (out l:List RlT),rest.length≤900→(∀ r∈out,zz r)→out.length+n≤20→jt n rest more out=some l→(∀ r∈l,zz r)∧l.length≤20
 | 0,rest,more,out,l,hr,hb,ho,h=>by
  cases h;exact ⟨hb,by omega⟩
 | n+1,rest,more,out,l,hr,hb,ho,h=>by
  rw [jt] at h;split at h
  ·split at h
   ·cases h
   ·rename_i r JX
    have l1:=lM rest [10];have:=IM _ (by omega) r JX;refine za n _ _ _ l (by omega) (fun q hq => ?_) (by rw [abr,List.length_singleton]; omega) h;rcases List.mem_append.1 hq with hq | hq
    ·exact hb q hq
    ·rw [List.mem_singleton] at hq
     subst hq;exact this
  ·cases h
   exact ⟨hb,by omega⟩
theorem Ck (l:List RlT) (h:zw l=true):xo (nN l)=(l,true):=by
 obtain ⟨h0,h8,hr⟩:=Bb h;cases l with
 | nil=>exact absurd rfl h0
 | cons p r =>
  rw [abp] at h8;have:=vL r p 10 [] hr (by simp only [List.length_nil]; omega) (by omega);unfold xo;rw [show nN (p :: r)=ji 10 ((p :: r).map hE) from rfl,this];exact if_pos ⟨h,rfl⟩
abbrev RqR:=By×Unit×List RlT×Unit ⊕ Unit×Bool×List RlT×Unit
def rqF (s:By):Option (List RlT)→RqR
 | some l => .inl (s,(),l,())
 | none => .inr ((),false,[],())
theorem wP (s:By) : ∀ (n:Nat) (rest:By) (more:Bool) (out:List RlT),rest.length≤900→10≤n+out.length→out.length≤1000→af di (s,(),rest,more,out,()) (rqF s (jt n rest more out))
 | n,rest,more,out,hr,hn,ho=>by
  have h1 : ∀ F:Nat,(if more=true then some (s,(),rest,decide ((out.length:Int)<9),out,()) else some (s,(),rest,false,out,()):Option (By×Unit×By×Bool×List RlT×Unit))=some (s,(),rest,decide (more=true∧out.length<9),out,()):=by
   intro F;cases more with
   | true =>
    rw [if_pos rfl];by_cases h9:out.length<9
    ·rw [abt (by omega),abt ⟨rfl,h9⟩]
    ·rw [abu (by omega),abu (fun hh=>h9 hh.2)]
   | false=>rfl
  by_cases hc:more=true∧out.length<9
  case neg =>
   have e:jt n rest more out=some out:=by
    cases n with
    | zero=>rfl
    | succ n=>rw [jt,if_neg hc]
   rw [e];refine af.fin ?_;unfold di;exact ae.bind (.of h1) (ae.neg (by rw [abn]; exact hc) (.ret _))
  cases n with
  | zero=>omega
  | succ n =>
   have l0:=lM rest [10];have l1:=lM (Lib.cut rest [10]).1 [32];have l2:=lM (Lib.cut (Lib.cut rest [10]).1 [32]).2.1 [58];have u0:=H8 10 10 rfl rest (by omega);have u1:=H8 32 32 rfl (Lib.cut rest [10]).1 (by omega);have u2:=H8 58 58 rfl (Lib.cut (Lib.cut rest [10]).1 [32]).2.1 (by omega);have u3:=P3 ((Lib.cut (Lib.cut (Lib.cut rest [10]).1 [32]).2.1 [58]).2.1.drop 1) (by rw [List.length_drop]; omega);have ih:=fun rest' more' out'=>wP s n rest' more' out'
   rw [jt,if_pos hc];unfold yg;generalize Lib.cut rest [10]=A at *
   obtain ⟨line,rest',more'⟩:=A;simp only at l0 l1 l2 u0 u1 u2 u3 ⊢
   generalize Lib.cut line [32]=B at *
   obtain ⟨m,line2,a⟩:=B;simp only at l1 l2 u1 u2 u3 ⊢
   generalize Lib.cut line2 [58]=C at *
   obtain ⟨p,line3,b⟩:=C;simp only at l2 u2 u3 ⊢
   generalize hD:ow (line3.drop 1)=D at *
   obtain ⟨pr,ok⟩:=D;simp only;have a7 : ∀ z,ae (fun F=>(if decide (a=false∨b=false∨line3 = [])=true then some (Sum.inr (Sum.inr ((),false,[],()))) else (sub line3 1 (line3.length:Int)).bind fun v7=>(eD F v7).bind fun v8=>if (!v8.2)=true then some (Sum.inr (Sum.inr ((),false,[],()))) else if decide ((out.length + [((m,p,v8.1,Unit.unit):RlT)].length) * 56≤140737488355328)=true then some (Sum.inl (s,(),rest',more',out ++ [(m,p,v8.1,Unit.unit)],())) else none:Option ((By×Unit×By×Bool×List RlT×Unit) ⊕ RqR))) z→ae (fun F=>di F (s,(),rest,more,out,())) z:=by
    intro z hz;unfold di;refine ae.bind (.of h1) (ae.pos (abt hc) (ae.bind u0 (ae.bind u1 (ae.bind u2 ?_))));refine ae.bind (r:=((s,(),rest',more',line3,m,p,decide (a=false∨b=false),out,()):By×Unit×By×Bool×By×By×By×Bool×List RlT×Unit)) (.of fun F=>by cases a <;> cases b <;> simp) ?_;refine ae.bind (r:=((s,(),rest',more',line3,m,p,decide (a=false∨b=false∨line3 = []),out,()):By×Unit×By×Bool×By×By×By×Bool×List RlT×Unit)) (.of fun F=>by cases a <;> cases b <;> simp) ?_;exact hz
   by_cases uB:a=false∨b=false∨line3 = []
   ·rw [if_pos (by rcases uB with h | h | h; exact .inl h; exact .inr (.inl h); exact .inr (.inr (.inl h)))]
    exact af.fin (a7 _ (ae.pos (abt uB) (.ret _)))
   ·have ib:line3 ≠ []:=fun hh=>uB (.inr (.inr hh))
    have yo:=List.length_pos_iff.2 ib;have HK:sub line3 1 (line3.length:Int)=some (line3.drop 1):=eV line3 1 (by omega);cases ok with
    | false =>
     rw [if_pos (.inr (.inr (.inr rfl)))];refine af.fin (a7 _ (ae.neg (by rw [abn]; exact uB) (ae.bind (.of fun F=>HK) (ae.bind u3 (ae.pos rfl (.ret _))))))
    | true =>
     rw [if_neg (by rintro (h | h | h | h); exact uB (.inl h); exact uB (.inr (.inl h)); exact uB (.inr (.inr h)); cases h)];refine af.step (a7 _ (ae.neg (by rw [abn]; exact uB) (ae.bind (.of fun F=>HK) (ae.bind u3 (ae.neg abw (ae.pos (by rw [abn]; simp only [List.length_singleton]; omega) (.ret _))))))) ?_;exact ih rest' more' (out ++ [(m,p,pr,())]) (by omega) (by rw [abr,List.length_singleton]; omega) (by rw [abr,List.length_singleton]; omega)
theorem Aa (s:By) (hs:s.length≤900):ae (fun F=>ew F s) (xo s):=by
 unfold ew xo;have h:=wP s 10 s true [] hs (by simp) (Nat.zero_le _);refine ae.bind h.run ?_;cases hr:jt 10 s true [] with
 | none=>exact .ret _
 | some l =>
  obtain ⟨b1,b2⟩:=za 10 s true [] l hs (fun r hr=>by cases hr) (by decide) hr;have hm:=SF l (by omega) b1;show ae _ (if zw l=true∧nN l=s then (l,true) else ([],false));by_cases QN:zw l=true
  ·have hp:=MG l QN
   rw [QN] at hm;by_cases he:nN l=s
   ·rw [if_pos ⟨QN,he⟩]
    refine ae.bind (r:=(((),false,l,()):Unit×Bool×List RlT×Unit)) (ae.bind hm (ae.pos rfl (ae.bind hp (.of fun F => ?_)))) (ae.neg abw (.ret _));show some ((), !decide (nN l=s),l,()) = _;rw [abt he];rfl
   ·rw [if_neg (fun hh=>he hh.2)]
    refine ae.bind (r:=(((),true,l,()):Unit×Bool×List RlT×Unit)) (ae.bind hm (ae.pos rfl (ae.bind hp (.of fun F => ?_)))) (ae.pos rfl (.ret _));show some ((), !decide (nN l=s),l,()) = _;rw [abu he];rfl
  ·have CA:zw l=false:=by simpa using QN
   rw [CA] at hm;rw [if_neg (fun hh=>QN hh.1)];exact ae.bind (r:=(((),true,l,()):Unit×Bool×List RlT×Unit)) (ae.bind hm (ae.neg (by decide) (.ret _))) (ae.pos rfl (.ret _))
end Go.Vm
namespace Go.Vm
open Go.Proofs
open Go.Lib (decDigits itoa)
theorem Gq (s:By):bz s=iV 47 s:=(qL s).symm.trans (uZ 47 s)
theorem rZ : ∀ x:By,(∀ b∈x,lr b=true)→gY x=some x
 | [],h=>pE
 | c :: x,h=>by
  have hc:=h c (List.mem_cons_self ..);rw [wN (by rintro rfl; exact absurd hc (by decide)),rZ x fun b hb=>h b (List.mem_cons_of_mem _ hb)];rfl
theorem pZ : ∀ x:By,(∀ b∈x,lr b=true)→cG x=x
 | [],h=>rfl
 | c :: x,h=>by
  have hc:=h c (List.mem_cons_self ..);have ih:=pZ x fun b hb=>h b (List.mem_cons_of_mem _ hb)
  show wr1 c ++ cG x=c :: x;rw [ih];unfold wr1;rw [if_pos hc];rfl
theorem HY : ∀ c:Fin 256,lr (UInt8.ofNat c.val)=true→33≤c.val∧c.val≤126:=by decide +kernel
theorem LZ {c:UInt8} (h:lr c=true):Mj c:=by
 have:=HY ⟨c.toNat,c.toNat_lt⟩ (by simpa using h);exact this
theorem KU (x:By) (h : ∀ b∈x,lr b=true):rT x=true:=by
 have:=A1 x.length x fun b hb=>LZ (h b (List.mem_of_mem_take hb))
 rw [this,List.drop_length];exact AL
theorem CU (s:By) (r:Int) (h0:s ≠ []) (hr:(s.length:Int)≤r) (h:rT s=true):nB s r=true:=by
 unfold nB;rw [if_neg (by rintro (h | h); exact h0 h; omega)];have:RJ ((dZ s).map (·.1))=false:=by
  rw [Gf] at h;unfold RJ;rw [List.any_eq_false];intro n hn;have:=List.all_eq_true.1 h n hn;simpa using this
 unfold Cq;rw [this];rfl
def I0 (x:By):Prop:=x ≠ []∧(∀ b∈x,lr b=true)∧x ≠ [46]∧x ≠ [46,46]∧x.length≤60
theorem LM {x:By} (h:I0 x):jP x=(x,true):=by
 obtain ⟨h0,h1,_,_,h4⟩:=h;rw [kc (rZ x h1),CU x 60 h0 (by omega) (KU x h1),Bool.or_true]
theorem GN : ∀ (ps out:List By),(∀ p∈ps,I0 p)→eI ps out=some (out ++ ps)
 | [],out,h=>by rw [eI,List.append_nil]
 | p :: ps,out,h=>by
  have hp:=h p (List.mem_cons_self ..);have hr:=LM hp;obtain ⟨h0,_,h2,h3,_⟩:=hp;rw [eI,hr];simp only;rw [if_neg (by simp),if_neg (by rintro (h | h); exact h0 h; exact h2 h),if_neg h3,GN ps _ fun q hq=>h q (List.mem_cons_of_mem _ hq),List.append_assoc];rfl
theorem PD {x:By} (h:I0 x) : ∀ b∈x,b≠47:=by
 intro b hb;have:=h.2.1 b hb
 rintro rfl
 exact absurd this (by decide)
theorem CH : ∀ ps:List By,ps ≠ []→(∀ p∈ps,I0 p)→bW ps=47 :: ji 47 ps
 | [],h,_=>absurd rfl h
 | [p],_,h=>by
  show (47 :: cG p) ++ []=47 :: p;rw [List.append_nil,pZ p (h p (List.mem_cons_self ..)).2.1]
 | p :: q :: r,_,h=>by
  show (47 :: cG p) ++ bW (q :: r) = _;rw [CH (q :: r) (by simp) fun x hx=>h x (List.mem_cons_of_mem _ hx),pZ p (h p (List.mem_cons_self ..)).2.1,ll 47 p (by simp)];rfl
theorem F8 (ps:List By) (h0:ps ≠ []) (h : ∀ p∈ps,I0 p) (hl:(ji 47 ps).length≤59):iT (47 :: ji 47 ps)=true:=by
 have hs:bz (ji 47 ps)=ps:=by rw [Gq]; exact Dd ps h0 fun p hp=>PD (h p hp)
 have hp:gD (47 :: ji 47 ps)=(47 :: ji 47 ps,true):=by
  rw [jR (by have:=hl; omega),hs,GN ps [] h,List.nil_append];simp only;unfold wH;rw [CH ps h0 h,if_neg (show ¬ (47 :: ji 47 ps:By) = [] by simp),if_neg (show ¬ 60<(47 :: ji 47 ps:By).length by rw [abp]; omega)]
 unfold iT;rw [hp];simp
abbrev lj:By := [80,79,83,84]
abbrev Pf:By := [71,69,84]
abbrev iA:By := [112,97,121]
abbrev yR:By := [110,111,116,101]
abbrev Wx:By := [37,123,115,117,109,125]
def wF:List PhT := [(2,[115,117,109],1000,[],()),(3,[100,101,98,105,116],0,Wx,()),(3,[99,114,101,100,105,116],0,Wx,()),(4,[],201,[112,97,105,100,32,37,123,115,117,109,125],())]
def Gi:List PhT := [(1,[],40,[],()),(3,[119,114,105,116,101],0,[37,98],()),(4,[],200,[110,111,116,101,100,32,37,112],())]
def Ge:List PhT := [(4,[],200,[37,109,32,37,112],())]
def oi:List RlT := [(lj,47 :: iA,wF,()),(lj,47 :: (yR ++ [47,42]),Gi,()),(Pf,[47,42,42],Ge,())]
abbrev Uj:By := [80,79,83,84,32,47,112,97,121,58,32,110,101,101,100,32,115,117,109,32,49,48,48,48,59,32,99,97,108,108,32,100,101,98,105,116,32,37,123,115,117,109,125,59,32,99,97,108,108,32,99,114,101,100,105,116,32,37,123,115,117,109,125,59,32,101,110,100,32,50,48,49,32,112,97,105,100,32,37,123,115,117,109,125,10,80,79,83,84,32,47,110,111,116,101,47,42,58,32,111,110,108,121,32,52,48,59,32,99,97,108,108,32,119,114,105,116,101,32,37,98,59,32,101,110,100,32,50,48,48,32,110,111,116,101,100,32,37,112,10,71,69,84,32,47,42,42,58,32,101,110,100,32,50,48,48,32,37,109,32,37,112]
theorem dd2 {i:Nat} (h1 : ¬ i<10) (h2:i<100):decDigits i = [UInt8.ofNat (48+i / 10),UInt8.ofNat (48+i % 10)]:=Go.Lib.decDigits_two h1 h2
theorem dd3 {i:Nat} (h1 : ¬ i<100) (h2:i<1000):decDigits i = [UInt8.ofNat (48+i / 10 / 10),UInt8.ofNat (48+i / 10 % 10),UInt8.ofNat (48+i % 10)]:=by
 rw [decDigits,dif_neg (by omega),dd2 (by omega) (by omega)];rfl
theorem RG:itoa 40 = [52,48]:=by unfold itoa; rw [if_neg (by decide)]; exact dd2 (by decide) (by decide)
theorem G2:itoa 200 = [50,48,48]:=by unfold itoa; rw [if_neg (by decide)]; exact dd3 (by decide) (by decide)
theorem OD:itoa 201 = [50,48,49]:=by unfold itoa; rw [if_neg (by decide)]; exact dd3 (by decide) (by decide)
theorem MV:itoa 1000 = [49,48,48,48]:=by
 unfold itoa;rw [if_neg (by decide)];show decDigits 1000 = _;rw [decDigits,dif_neg (by decide),show (1000:Nat) / 10=100 from rfl,dd3 (by decide) (by decide)];rfl
theorem VU:eE wF = [110,101,101,100,32,115,117,109,32,49,48,48,48,59,32,99,97,108,108,32,100,101,98,105,116,32,37,123,115,117,109,125,59,32,99,97,108,108,32,99,114,101,100,105,116,32,37,123,115,117,109,125,59,32,101,110,100,32,50,48,49,32,112,97,105,100,32,37,123,115,117,109,125]:=by
 have h1:ax (2,[115,117,109],1000,[],())=sd ++ 32 :: ([115,117,109] ++ 32 :: itoa 1000):=rfl;have h4:ax (4,[],201,[112,97,105,100,32,37,123,115,117,109,125],())=xS ++ 32 :: (itoa 201 ++ iR [112,97,105,100,32,37,123,115,117,109,125]):=rfl;unfold eE wF;simp only [List.map_cons,List.map_nil,h1,h4,MV,OD]
 decide
theorem Wl:eE Gi = [111,110,108,121,32,52,48,59,32,99,97,108,108,32,119,114,105,116,101,32,37,98,59,32,101,110,100,32,50,48,48,32,110,111,116,101,100,32,37,112]:=by
 have h1:ax (1,[],40,[],())=uN ++ 32 :: itoa 40:=rfl;have h4:ax (4,[],200,[110,111,116,101,100,32,37,112],())=xS ++ 32 :: (itoa 200 ++ iR [110,111,116,101,100,32,37,112]):=rfl;unfold eE Gi;simp only [List.map_cons,List.map_nil,h1,h4,RG,G2]
 decide
theorem Wk:eE Ge = [101,110,100,32,50,48,48,32,37,109,32,37,112]:=by
 have h4:ax (4,[],200,[37,109,32,37,112],())=xS ++ 32 :: (itoa 200 ++ iR [37,109,32,37,112]):=rfl;unfold eE Ge;simp only [List.map_cons,List.map_nil,h4,G2]
 decide
theorem DO:nN oi=Uj:=by
 unfold nN oi;simp only [List.map_cons,List.map_nil,hE,VU,Wl,Wk]
 kernel_rfl
theorem R3:I0 iA:=⟨by decide,by decide,by decide,by decide,by decide⟩
theorem Ot:I0 yR:=⟨by decide,by decide,by decide,by decide,by decide⟩
theorem Hy:iT (47 :: iA)=true:=F8 [iA] (by simp) (by intro p hp; rw [List.mem_singleton] at hp; subst hp; exact R3) (by decide)
theorem Mr:iT (47 :: yR)=true:=F8 [yR] (by simp) (by intro p hp; rw [List.mem_singleton] at hp; subst hp; exact Ot) (by decide)
theorem KG:lb (47 :: iA)=true:=by
 have e:bG (47 :: iA) = [iA]:=by decide
 unfold lb;rw [e];unfold uq;rw [Hy]
 decide
theorem P1:lb (47 :: (yR ++ [47,42]))=true:=by
 have e:bG (47 :: (yR ++ [47,42])) = [yR,[42]]:=by decide
 unfold lb;rw [e];unfold uq;rw [Mr];unfold uq
 decide
theorem RY:lb [47,42,42]=true:=by
 have e:bG [47,42,42] = [[42,42]]:=by decide
 unfold lb;rw [e];unfold uq;rw [abt (show ([42,42]:By) = [42,42] from rfl),abt (show ([]:List By) = [] from rfl)];rfl
theorem Ww:nR wF=true:=by kernel_rfl
theorem Wp:nR Gi=true:=by kernel_rfl
theorem Wd:nR Ge=true:=by kernel_rfl
theorem MS:oG lj=true:=by kernel_rfl
theorem Qi:oG Pf=true:=by kernel_rfl
theorem Kl:zw oi=true:=by
 unfold zw oi ku;simp only [List.all_cons,List.all_nil,MS,Qi,KG,P1,RY,Ww,Wp,Wd];rfl
theorem R4 : ∀ r∈oi,zz r:=by
 intro r hr;have hg:=(Bb Kl).2.2 r hr;obtain ⟨q1,q2,_,_⟩:=wQ hg;have hm:nR r.2.2.1=true:=by
  unfold ku at hg;simp only [abv] at hg;exact hg.2
 obtain ⟨m1,_,m3⟩:=ly hm;refine ⟨?_,by omega,by omega,fun p hp=>DM (m1 p hp)⟩;unfold oi at hr;simp only [List.mem_cons,List.not_mem_nil,or_false] at hr;rcases hr with rfl | rfl | rfl <;> decide
end Go.Vm
namespace Go.Vm
open Go.Proofs
def kC (p:List PhT):Bool:=decide (p.length≤10) && p.all fun x=>decide (x.2.1.length≤100) && decide (x.2.2.2.1.length≤100)
theorem xf (l:List PhT) (hl:l.length≤1000000) : ∀ (n i:Nat),i+n=l.length→af dp (l,(l.length:Int),(i:Int),()) (if (l.drop i).all (fun x=>decide (x.2.1.length≤100) && decide (x.2.2.2.1.length≤100))=true then .inl () else .inr (false,()))
 | 0,i,h=>by
  refine af.fin (.of fun F => ?_);unfold dp;rw [if_neg (by rw [abn]; simp only; omega),List.drop_eq_nil_of_le (by omega)];rfl
 | n+1,i,h=>by
  have hi:i<l.length:=by omega
  have hx:idx l (i:Int)=some l[i]:=bc _ _ _ (List.getElem?_eq_getElem hi);have hw:IntKind.i64.wrap ((i:Int)+1)=((i+1:Nat):Int):=by rw [wrap64 _ (by omega) (by omega)]; omega
  have ih:=xf l hl n (i+1) (by omega);rw [List.drop_eq_getElem_cons hi,List.all_cons];generalize l[i]=x at *
  have a7 : ∀ F,dp F (l,(l.length:Int),(i:Int),())=some (if (decide (x.2.1.length≤100) && decide (x.2.2.2.1.length≤100))=true then .inl (l,(l.length:Int),((i+1:Nat):Int),()) else .inr (.inr (false,()))):=by
   intro F;unfold dp;rw [if_pos (by rw [abn]; simp only; omega)];have e1 : ∀ a:By,(100:Int)<(a.length:Int) ↔ ¬ a.length≤100:=fun a=>by omega
   simp only [hx,abo,e1];by_cases a1:x.2.1.length≤100
   ·by_cases a2:x.2.2.2.1.length≤100 <;> simp [a1,a2,hw]
   ·simp [a1]
  cases hc:(decide (x.2.1.length≤100) && decide (x.2.2.2.1.length≤100)) with
  | true =>
   rw [Bool.true_and];exact af.step (.of fun F=>(a7 F).trans (by rw [hc,if_pos rfl])) ih
  | false =>
   rw [Bool.false_and];exact af.fin (.of fun F=>(a7 F).trans (by rw [hc]; rfl))
theorem Li (l:List PhT):ae (fun F=>fL F l) (kC l):=by
 unfold fL kC;by_cases Nw:l.length≤10
 ·rw [abt Nw,Bool.true_and]
  refine ae.neg (by rw [abn]; omega) ?_;have h:=xf l (by omega) l.length 0 (by omega);rw [List.drop_zero] at h;refine ae.bind h.run ?_;cases hb:l.all (fun x=>decide (x.2.1.length≤100) && decide (x.2.2.2.1.length≤100)) <;> exact .ret _
 ·rw [abu Nw,Bool.false_and]
  exact ae.pos (by rw [abn]; omega) (.ret _)
def Bx (l:List RlT):Bool:=decide (l.length≤10) && l.all fun r=>decide (r.1.length≤100) && decide (r.2.1.length≤100) && kC r.2.2.1
theorem yG (l:List RlT) (hl:l.length≤1000000) : ∀ (n i:Nat),i+n=l.length→af dr (l,(l.length:Int),(i:Int),()) (if (l.drop i).all (fun r=>decide (r.1.length≤100) && decide (r.2.1.length≤100) && kC r.2.2.1)=true then .inl () else .inr (false,()))
 | 0,i,h=>by
  refine af.fin (.of fun F => ?_);unfold dr;rw [if_neg (by rw [abn]; simp only; omega),List.drop_eq_nil_of_le (by omega)];rfl
 | n+1,i,h=>by
  have hi:i<l.length:=by omega
  have hx:idx l (i:Int)=some l[i]:=bc _ _ _ (List.getElem?_eq_getElem hi);have hw:IntKind.i64.wrap ((i:Int)+1)=((i+1:Nat):Int):=by rw [wrap64 _ (by omega) (by omega)]; omega
  have ih:=yG l hl n (i+1) (by omega);rw [List.drop_eq_getElem_cons hi,List.all_cons];generalize l[i]=r at *
  obtain ⟨m,p,pr,u⟩:=r;have hs:=Li pr;have a7:ae (fun F=>dr F (l,(l.length:Int),(i:Int),())) (if (decide (m.length≤100) && decide (p.length≤100) && kC pr)=true then .inl (l,(l.length:Int),((i+1:Nat):Int),()) else .inr (.inr (false,()))):=by
   unfold dr;refine ae.pos (by rw [abn]; simp only; omega) (ae.bind (.of fun F=>hx) ?_);refine ae.bind (r:=(((),l,(l.length:Int),(i:Int), !(decide (m.length≤100) && decide (p.length≤100)),(m,p,pr,()),()):Unit×List RlT×Int×Int×Bool×RlT×Unit)) (.of fun F => ?_) ?_
   ·have e1 : ∀ a:By,(100:Int)<(a.length:Int) ↔ ¬ a.length≤100:=fun a=>by omega
    simp only [e1];by_cases a1:m.length≤100 <;> by_cases a2:p.length≤100 <;> simp [a1,a2]
   refine ae.bind (r:=((l,(l.length:Int),(i:Int), !(decide (m.length≤100) && decide (p.length≤100) && kC pr),()):List RlT×Int×Int×Bool×Unit)) ?_ ?_
   ·cases (decide (m.length≤100) && decide (p.length≤100)) with
    | true=>exact ae.pos rfl (ae.bind hs (.ret _))
    | false=>exact ae.neg Bool.noConfusion (.ret _)
   ·cases (decide (m.length≤100) && decide (p.length≤100) && kC pr) with
    | true=>exact ae.neg abw (.of fun F=>by simp only [hw,if_true])
    | false=>exact ae.pos rfl (.ret _)
  show af _ _ (if ((decide (m.length≤100) && decide (p.length≤100) && kC pr) && _)=true then _ else _);cases hc:(decide (m.length≤100) && decide (p.length≤100) && kC pr) with
  | true =>
   rw [hc,if_pos rfl] at a7;rw [Bool.true_and];exact af.step a7 ih
  | false =>
   rw [hc,if_neg abw] at a7;rw [Bool.false_and,if_neg abw];exact af.fin a7
theorem Ov (l:List RlT):ae (fun F=>fN F l) (Bx l):=by
 unfold fN Bx;by_cases Nw:l.length≤10
 ·rw [abt Nw,Bool.true_and]
  refine ae.neg (by rw [abn]; omega) ?_;have h:=yG l (by omega) l.length 0 (by omega);rw [List.drop_zero] at h;refine ae.bind h.run ?_;cases hb:l.all (fun r=>decide (r.1.length≤100) && decide (r.2.1.length≤100) && kC r.2.2.1) <;> exact .ret _
 ·rw [abu Nw,Bool.false_and]
  exact ae.pos (by rw [abn]; omega) (.ret _)
theorem JJ {l:List RlT} (h:Bx l=true):l.length≤10 ∧ ∀ r∈l,zz r:=by
 unfold Bx at h;rw [abv,abn] at h;refine ⟨h.1,fun r hr => ?_⟩;have:=List.all_eq_true.1 h.2 r hr;simp only [abv,abn] at this;obtain ⟨⟨h1,h2⟩,h3⟩:=this;unfold kC at h3;rw [abv,abn] at h3;refine ⟨by omega,by omega,by omega,fun p hp => ?_⟩;have:=List.all_eq_true.1 h3.2 p hp;simp only [abv,abn] at this;exact ⟨by omega,by omega⟩
end Go.Vm
