import Derived.Test.YtihpjgcbmipdbaaGreatDoorFref23
import Derived.Test.YtihpjgcbmipdbaaGreatDoorFlaw23
import Derived.Test.YtihpjgcbmipdbaaGreatDoorPr3
/- Programs: the document's functions are the plain ones. No condition but on lengths. -/
namespace Go.Vm
open Go.Proofs
open Go.Lib (decDigits itoa)
set_option linter.unusedVariables false
set_option linter.unusedSimpArgs false
/-! ### phases -/
theorem w5 (x:By) (hx:x.length≤1000) : ∀ (n i:Nat),i+n=x.length→af cE (x,(i:Int),()) (if (x.drop i).all (fun c=>c != 59)=true then .inl (x,()) else .inr (false,()))
 | 0,i,h=>by
  refine af.fin (.of fun F => ?_)
  unfold cE
  rw [if_neg (by rw [decide_eq_true_eq]; simp only; omega),List.drop_eq_nil_of_le (by omega)]
  rfl
 | n+1,i,h=>by
  have hi:i<x.length:=by omega
  have hx0:idx x (i:Int)=some x[i]:=aV _ _ _ (List.getElem?_eq_getElem hi)
  have hw:IntKind.i64.wrap ((i:Int)+1)=((i+1:Nat):Int):=by rw [wrap64 _ (by omega) (by omega)]; omega
  have ih:=w5 x hx n (i+1) (by omega)
  rw [List.drop_eq_getElem_cons hi,List.all_cons]
  generalize x[i]=c at *
  have n59:((c.toNat:Int)=59)=(c=59):=nvB c 59
  by_cases hc:c=59
  ·have e:(c != 59)=false:=by rw [hc]; rfl
   rw [e,Bool.false_and]
   refine af.fin (.of fun F => ?_)
   unfold cE
   rw [if_pos (by rw [decide_eq_true_eq]; simp only; omega)]
   simp only [hx0,Option.bind_some,n59,decide_eq_true hc]
   rfl
  ·have e:(c != 59)=true:=by rw [bne_iff_ne]; exact hc
   rw [e,Bool.true_and]
   refine af.step (.of fun F => ?_) ih
   unfold cE
   rw [if_pos (by rw [decide_eq_true_eq]; simp only; omega)]
   simp only [hx0,Option.bind_some,n59,decide_eq_false hc,Bool.false_eq_true,if_false,hw]
theorem FR (x:By) (hx:x.length≤1000):ae (fun F=>dH F x) (lY x):=by
 unfold dH lY
 have h:=w5 x hx x.length 0 (by omega)
 rw [List.drop_zero] at h
 refine ae.bind h.run ?_
 by_cases ha:x.all (fun c=>c != 59)=true
 ·rw [if_pos ha,ha,Bool.true_and]
  exact ae.bind (G6 x hx) (.ret _)
 ·have ha':x.all (fun c=>c != 59)=false:=by simpa using ha
  rw [if_neg ha,ha',Bool.false_and]
  exact .ret _
theorem Jo (p:PhT) (hp:xX p):ae (fun F=>eD F p) (eF p):=by
 obtain ⟨k,nm,n,t,u⟩:=p
 obtain ⟨hn,ht⟩:=hp
 simp only at hn ht
 unfold eD eF
 simp only
 by_cases k1:k=1
 ·rw [if_pos k1]
  refine ae.pos (decide_eq_true k1) (.of fun F => ?_)
  by_cases c1:1≤n
  ·by_cases c2:n≤80
   ·by_cases c3:nm = [] <;> by_cases c4:t = [] <;> simp [c1,c2,c3,c4]
   ·simp [c1,c2]
  ·simp [c1]
 rw [if_neg k1]
 refine ae.neg (by rw [decide_eq_true_eq]; exact k1) ?_
 by_cases k2:k=2
 ·rw [if_pos k2]
  refine ae.pos (decide_eq_true k2) ?_
  refine ae.bind (r:=(((),decide (1≤n) && decide (n≤1073741824),(k,nm,n,t,()),()):Unit×Bool×PhT×Unit)) (.of fun F=>by
   by_cases c1:1≤n <;> simp [c1]) ?_
  refine ae.bind (r:=(((),(decide (1≤n) && decide (n≤1073741824)) && nmP nm,(k,nm,n,t,()),()):Unit×Bool×PhT×Unit)) ?_ ?_
  ·cases hb:(decide (1≤n) && decide (n≤1073741824)) with
   | true=>exact ae.pos rfl (ae.bind (wX nm (by omega)) (.ret _))
   | false=>exact ae.neg Bool.false_ne_true (.ret _)
  ·refine .of fun F => ?_
   cases hb:((decide (1≤n) && decide (n≤1073741824)) && nmP nm) <;> simp
 rw [if_neg k2]
 refine ae.neg (by rw [decide_eq_true_eq]; exact k2) ?_
 by_cases k3:k=3
 ·rw [if_pos k3]
  refine ae.pos (decide_eq_true k3) ?_
  refine ae.bind (r:=(((),decide (n=0) && nmP nm,(k,nm,n,t,()),()):Unit×Bool×PhT×Unit)) ?_ ?_
  ·by_cases c1:n=0
   ·rw [decide_eq_true c1,Bool.true_and]
    exact ae.pos rfl (ae.bind (wX nm (by omega)) (.ret _))
   ·rw [decide_eq_false c1,Bool.false_and]
    exact ae.neg Bool.false_ne_true (.ret _)
  refine ae.bind (r:=(((decide (n=0) && nmP nm) && lY t,()):Bool×Unit)) ?_ (.ret _)
  cases hb:(decide (n=0) && nmP nm) with
  | true=>exact ae.pos rfl (ae.bind (FR t ht) (.ret _))
  | false=>exact ae.neg Bool.false_ne_true (.ret _)
 rw [if_neg k3]
 refine ae.neg (by rw [decide_eq_true_eq]; exact k3) ?_
 by_cases k4:k=4
 ·rw [if_pos k4]
  refine ae.bind (r:=(((),decide (n=200) || decide (n=201),(k,nm,n,t,()),()):Unit×Bool×PhT×Unit)) (ae.pos (decide_eq_true k4) (.of fun F=>by
   by_cases c1:n=200 <;> simp [c1])) ?_
  refine ae.bind (r:=(((),(decide (n=200) || decide (n=201)) && decide (nm = []),(k,nm,n,t,()),()):Unit×Bool×PhT×Unit)) (.of fun F=>by
   cases hb:(decide (n=200) || decide (n=201)) <;> simp [hb]) ?_
  refine ae.bind (r:=((((decide (n=200) || decide (n=201)) && decide (nm = [])) && lY t,()):Bool×Unit)) ?_ (.ret _)
  cases hb:((decide (n=200) || decide (n=201)) && decide (nm = [])) with
  | true=>exact ae.pos rfl (ae.bind (FR t ht) (.ret _))
  | false=>exact ae.neg Bool.false_ne_true (.ret _)
 ·rw [if_neg k4]
  refine ae.bind (r:=(((),false,(k,nm,n,t,()),()):Unit×Bool×PhT×Unit)) (ae.neg (by rw [decide_eq_true_eq]; exact k4) (.ret _)) (.of fun F=>rfl)
theorem zo (l:List PhT) (hl:l.length≤1000000) (hb : ∀ p∈l,xX p) : ∀ (n i:Nat),i+n=l.length→af cN (l,(i:Int),()) (if BX (l.drop i)=true then .inl () else .inr (false,()))
 | 0,i,h=>by
  refine af.fin (.of fun F => ?_)
  unfold cN
  rw [if_neg (by rw [decide_eq_true_eq]; simp only; omega),List.drop_eq_nil_of_le (by omega)]
  rfl
 | n+1,i,h=>by
  have hi:i<l.length:=by omega
  have hx:idx l (i:Int)=some l[i]:=aV _ _ _ (List.getElem?_eq_getElem hi)
  have hw:IntKind.i64.wrap ((i:Int)+1)=((i+1:Nat):Int):=by rw [wrap64 _ (by omega) (by omega)]; omega
  have hw1:IntKind.i64.wrap ((l.length:Int) - 1)=((l.length - 1:Nat):Int):=by rw [wrap64 _ (by omega) (by omega)]; omega
  have ih:=zo l hl hb n (i+1) (by omega)
  have hr:=Jo l[i] (hb _ (List.getElem_mem hi))
  have hd:=Av l i hi
  rw [List.drop_eq_getElem_cons hi]
  generalize l[i]=p at *
  have hk:decide (l.drop (i+1) = [])=decide ((i:Int)=((l.length - 1:Nat):Int)):=by
   rw [Bool.eq_iff_iff,decide_eq_true_eq,decide_eq_true_eq,hd]; omega
  have e:BX (p :: l.drop (i+1))=(eF p && (decide (p.1=4) == decide ((i:Int)=((l.length - 1:Nat):Int))) && BX (l.drop (i+1))):=by rw [← hk]; rfl
  rw [e]
  have hbody:ae (fun F=>cN F (l,(i:Int),())) (if (eF p && (decide (p.1=4) == decide ((i:Int)=((l.length - 1:Nat):Int))))=true then .inl (l,((i+1:Nat):Int),()) else .inr (.inr (false,()))):=by
   unfold cN
   refine ae.pos (by rw [decide_eq_true_eq]; simp only; omega) ?_
   refine ae.bind (r:=((l,(i:Int), !(eF p && (decide (p.1=4) == decide ((i:Int)=((l.length - 1:Nat):Int)))),()):List PhT×Int×Bool×Unit)) (ae.bind (.of fun F=>hx) (ae.bind hr ?_)) ?_
   ·cases hrp:eF p with
    | true=>exact .of fun F=>by simp [hw1,hx]
    | false=>exact .of fun F=>by simp
   ·cases hrp:(eF p && (decide (p.1=4) == decide ((i:Int)=((l.length - 1:Nat):Int)))) with
    | true=>exact ae.neg (by simp) (.of fun F=>by simp [hw])
    | false=>exact ae.pos (by simp) (.of fun F=>by simp)
  cases hrp:(eF p && (decide (p.1=4) == decide ((i:Int)=((l.length - 1:Nat):Int)))) with
  | true =>
   rw [hrp,if_pos rfl] at hbody
   rw [Bool.true_and]
   exact af.step hbody ih
  | false =>
   rw [hrp,if_neg Bool.false_ne_true] at hbody
   rw [Bool.false_and,if_neg Bool.false_ne_true]
   exact af.fin hbody
theorem IK (l:List PhT) (hl:l.length≤1000000) (hb : ∀ p∈l,xX p):ae (fun F=>dX F l) (kY l):=by
 unfold dX kY
 refine ae.bind (r:=((l, !(decide (1≤l.length) && decide (l.length≤5)),()):List PhT×Bool×Unit)) (.of fun F => ?_) ?_
 ·by_cases h0:l.length=0
  ·rw [if_neg (by rw [decide_eq_true (by omega)]; decide),decide_eq_false (by omega)]
   rfl
  ·rw [if_pos (decide_eq_false (by omega)),decide_eq_true (by omega:1≤l.length),Bool.true_and]
   by_cases h5:l.length≤5
   ·rw [decide_eq_false (by omega),decide_eq_true h5]; rfl
   ·rw [decide_eq_true (by omega),decide_eq_false h5]; rfl
 cases hc:(decide (1≤l.length) && decide (l.length≤5)) with
 | false=>exact ae.pos rfl (.ret _)
 | true =>
  refine ae.neg (by simp) ?_
  have h:=zo l hl hb l.length 0 (by omega)
  rw [List.drop_zero] at h
  refine ae.bind h.run ?_
  rw [Bool.true_and]
  cases BX l <;> exact .ret _
/-! ### texts -/
theorem Cq (F:Nat) (x:By) (h:x.length≤1000):cP F x=some (gm x):=by
 unfold cP gm
 by_cases hx:x = []
 ·rw [if_pos (decide_eq_true hx),if_pos hx]
 ·rw [if_neg (by rw [decide_eq_true_eq]; exact hx),if_neg hx,if_pos (by rw [decide_eq_true_eq]; simp only [List.length_singleton]; omega)]
  rfl
theorem y8 (p:PhT) (h:eF p=true):ae (fun F=>bE F p) (al p):=by
 have big : ∀ {a b:Nat},a+b≤100000→decide (a+b≤9223372036854775807)=true:=fun h=>decide_eq_true (by omega)
 rcases iH h with ⟨n,rfl,h1,h2⟩ | ⟨nm,n,rfl,h3,h1,h2⟩ | ⟨nm,t,rfl,h2,h3⟩ | ⟨n,t,rfl,h1,h3⟩
 ·have hd:=uu (n:Int) (by unfold okN; omega)
  have hl:=jL n (by omega)
  unfold bE
  refine ae.pos (by simp) (ae.bind hd ?_)
  exact ae.pos (big (by simp only [List.length_cons,List.length_nil]; omega)) (.of fun F=>rfl)
 ·have hd:=uu (n:Int) (by unfold okN; omega)
  have hl:=jL n h2
  have hn:=ug h3
  unfold bE
  refine ae.neg (by simp) (ae.pos (by simp) ?_)
  refine ae.bind (r:=((al (2,nm,(n:Int),[],()),()):By×Unit)) ?_ (.ret _)
  refine ae.pos (big (by simp only [List.length_cons,List.length_nil]; omega)) ?_
  refine ae.pos (big (by simp only [List.length_append,List.length_cons,List.length_nil]; omega)) ?_
  refine ae.bind hd ?_
  refine ae.pos (big (by simp only [List.length_append,List.length_cons,List.length_nil]; omega)) (.of fun F => ?_)
  show some ([110,101,101,100,32] ++ nm ++ [32] ++ itoa (n:Int),())=some (pB ++ 32 :: (nm ++ 32 :: itoa (n:Int)),())
  simp [List.append_assoc]
 ·have hn:=ug h2
  have ht:=kV h3
  have htl:=qG t
  unfold bE
  refine ae.neg (by simp) (ae.neg (by simp) (ae.pos (by simp) ?_))
  refine ae.bind (r:=((al (3,nm,0,t,()),()):By×Unit)) ?_ (.ret _)
  refine ae.pos (big (by simp only [List.length_cons,List.length_nil]; omega)) ?_
  refine ae.bind (.of fun F=>Cq F t (by omega)) ?_
  refine ae.pos (big (by simp only [List.length_append,List.length_cons,List.length_nil]; omega)) (.of fun F => ?_)
  show some ([99,97,108,108,32] ++ nm ++ gm t,())=some (rB ++ 32 :: (nm ++ gm t),())
  simp [List.append_assoc]
 ·have hd:=uu (n:Int) (by unfold okN; omega)
  have hl:=jL n (by omega)
  have ht:=kV h3
  have htl:=qG t
  unfold bE
  refine ae.neg (by simp) (ae.neg (by simp) (ae.neg (by simp) ?_))
  refine ae.bind (r:=((al (4,[],(n:Int),t,()),()):By×Unit)) ?_ (.ret _)
  refine ae.bind hd ?_
  refine ae.pos (big (by simp only [List.length_cons,List.length_nil]; omega)) ?_
  refine ae.bind (.of fun F=>Cq F t (by omega)) ?_
  refine ae.pos (big (by simp only [List.length_append,List.length_cons,List.length_nil]; omega)) (.of fun F => ?_)
  show some ([101,110,100,32] ++ itoa (n:Int) ++ gm t,())=some (uB ++ 32 :: (itoa (n:Int) ++ gm t),())
  simp [List.append_assoc]
theorem ve (l:List PhT) (hl:l.length≤1000) (hr : ∀ p∈l,eF p=true) : ∀ (n i:Nat) (out:By),i+n=l.length→1≤i→out.length≤1000 * i→af aS (l,out,(i:Int),()) (out ++ Lib.joinTail [59,32] ((l.drop i).map al),())
 | 0,i,out,h,h1,ho=>by
  refine af.fin (.of fun F => ?_)
  unfold aS
  rw [if_neg (by rw [decide_eq_true_eq]; simp only; omega),List.drop_eq_nil_of_le (by omega)]
  show some (Sum.inr (out,()))=some (Sum.inr (out ++ [],()))
  rw [List.append_nil]
 | n+1,i,out,h,h1,ho=>by
  have hi:i<l.length:=by omega
  have hx:idx l (i:Int)=some l[i]:=aV _ _ _ (List.getElem?_eq_getElem hi)
  have hw:IntKind.i64.wrap ((i:Int)+1)=((i+1:Nat):Int):=by rw [wrap64 _ (by omega) (by omega)]; omega
  have hr1:=hr l[i] (List.getElem_mem hi)
  rw [List.drop_eq_getElem_cons hi,List.map_cons]
  generalize l[i]=p at *
  have ht:=y8 p hr1
  have htl:=lS hr1
  have ih:=ve l hl hr n (i+1) (out ++ [59,32] ++ al p) (by omega) (by omega) (by simp only [List.length_append,List.length_cons,List.length_nil]; omega)
  have e:out ++ Lib.joinTail [59,32] (al p :: (l.drop (i+1)).map al)=out ++ [59,32] ++ al p ++ Lib.joinTail [59,32] ((l.drop (i+1)).map al):=by
   show out ++ ([59,32] ++ al p ++ Lib.joinTail [59,32] ((l.drop (i+1)).map al)) = _
   simp only [List.append_assoc]
  rw [e]
  refine af.step ?_ ih
  unfold aS
  refine ae.pos (by rw [decide_eq_true_eq]; simp only; omega) ?_
  refine ae.bind (r:=((l,out ++ [59,32],(i:Int),()):List PhT×By×Int×Unit)) (ae.pos (by rw [decide_eq_true_eq]; simp only; omega) (ae.pos (by rw [decide_eq_true_eq]; simp only [List.length_cons,List.length_nil]; omega) (.ret _))) ?_
  refine ae.bind (.of fun F=>hx) ?_
  refine ae.bind ht ?_
  refine ae.pos (by rw [decide_eq_true_eq]; simp only [List.length_append,List.length_cons,List.length_nil]; omega) (.of fun F => ?_)
  simp only [hw]
theorem Cx (l:List PhT) (hl:l.length≤1000) (hr : ∀ p∈l,eF p=true):ae (fun F=>bX F l) (cV l):=by
 unfold bX
 cases l with
 | nil =>
  have:af aS (([]:List PhT),([]:By),0,()) (([]:By),()):=af.fin (.of fun F=>rfl)
  exact ae.bind this.run (.ret _)
 | cons p r =>
  rw [List.length_cons] at hl
  have hr1:=hr p (List.mem_cons_self ..)
  have ht:=y8 p hr1
  have htl:=lS hr1
  have hw:IntKind.i64.wrap ((0:Int)+1)=((1:Nat):Int):=by rw [wrap64 _ (by omega) (by omega)]; rfl
  have hx:idx (p :: r) 0=some p:=aV _ 0 _ rfl
  have h:=ve (p :: r) (by rw [List.length_cons]; omega) hr r.length 1 (al p) (by rw [List.length_cons]; omega) (Nat.le_refl _) (by omega)
  have hs:af aS (p :: r,([]:By),0,()) (cV (p :: r),()):=by
   rw [lQ]
   refine af.step ?_ h
   unfold aS
   refine ae.pos (by rw [decide_eq_true_eq]; simp only [List.length_cons]; omega) ?_
   refine ae.bind (r:=((p :: r,[],0,()):List PhT×By×Int×Unit)) (ae.neg (by simp) (.ret _)) ?_
   refine ae.bind (.of fun F=>hx) ?_
   refine ae.bind ht ?_
   refine ae.pos (by rw [decide_eq_true_eq]; simp only [List.length_nil]; omega) (.of fun F => ?_)
   simp only [hw,List.nil_append]
  exact ae.bind hs.run (.ret _)
end Go.Vm
/- Programs: what the document parses is the plain one; small programs. No condition but on lengths. -/
namespace Go.Vm
open Go.Proofs
open Go.Lib (decDigits itoa)
set_option linter.unusedVariables false
set_option linter.unusedSimpArgs false
/-! ### words, numbers -/
theorem zl (s p q:By) (hs:s=p ++ 32 :: q) (hp : ∀ b∈p,b≠32) (hl:s.length≤1000000) : ∀ (n i:Nat),i+n=p.length→af a8 (s,(i:Int),()) (.inr (p,q,()))
 | 0,i,h=>by
  have hsl:s.length=p.length+1+q.length:=by rw [hs,List.length_append,List.length_cons]; omega
  have hip:i=p.length:=by omega
  have hx:idx s (i:Int)=some 32:=aV _ _ _ (by rw [hs,hip,List.getElem?_append_right (Nat.le_refl _),Nat.sub_self]; rfl)
  have hw:IntKind.i64.wrap ((i:Int)+1)=((i+1:Nat):Int):=by rw [wrap64 _ (by omega) (by omega)]; omega
  have s1:sub s 0 (i:Int)=some p:=by
   have:=jT s 0 i (Nat.zero_le _) (by omega)
   rw [List.drop_zero,Nat.sub_zero,hip] at this
   rw [hip]
   refine (this:sub s 0 (p.length:Int) = _).trans ?_
   rw [hs,List.take_left]
  have s2:sub s ((i+1:Nat):Int) (s.length:Int)=some q:=by
   have:=ec s (i+1) (by omega)
   rw [this,hip,hs]
   congr 1
   rw [show p ++ 32 :: q=(p ++ [32]) ++ q by simp,List.drop_left' (by simp)]
  refine af.fin (.of fun F => ?_)
  unfold a8
  rw [if_pos (by rw [decide_eq_true_eq]; simp only; omega)]
  simp only [hx,Option.bind_some]
  rw [if_pos (by rfl)]
  simp only [s1,hw,s2,Option.bind_some]
 | n+1,i,h=>by
  have hsl:s.length=p.length+1+q.length:=by rw [hs,List.length_append,List.length_cons]; omega
  have hi:i<p.length:=by omega
  have hx:idx s (i:Int)=some p[i]:=aV _ _ _ (by rw [hs,List.getElem?_append_left hi,List.getElem?_eq_getElem hi])
  have hc:=hp p[i] (List.getElem_mem hi)
  have hw:IntKind.i64.wrap ((i:Int)+1)=((i+1:Nat):Int):=by rw [wrap64 _ (by omega) (by omega)]; omega
  have n32:((p[i].toNat:Int)=32)=(p[i]=32):=nvB p[i] 32
  refine af.step (.of fun F => ?_) (zl s p q hs hp hl n (i+1) (by omega))
  unfold a8
  rw [if_pos (by rw [decide_eq_true_eq]; simp only; omega)]
  simp only [hx,Option.bind_some,n32,decide_eq_false hc,Bool.false_eq_true,if_false,hw]
theorem wB (s:By) (hp : ∀ b∈s,b≠32) (hl:s.length≤1000000) : ∀ (n i:Nat),i+n=s.length→af a8 (s,(i:Int),()) (.inl (s,()))
 | 0,i,h=>by
  refine af.fin (.of fun F => ?_)
  unfold a8
  rw [if_neg (by rw [decide_eq_true_eq]; simp only; omega)]
 | n+1,i,h=>by
  have hi:i<s.length:=by omega
  have hx:idx s (i:Int)=some s[i]:=aV _ _ _ (List.getElem?_eq_getElem hi)
  have hc:=hp s[i] (List.getElem_mem hi)
  have hw:IntKind.i64.wrap ((i:Int)+1)=((i+1:Nat):Int):=by rw [wrap64 _ (by omega) (by omega)]; omega
  have n32:((s[i].toNat:Int)=32)=(s[i]=32):=nvB s[i] 32
  refine af.step (.of fun F => ?_) (wB s hp hl n (i+1) (by omega))
  unfold a8
  rw [if_pos (by rw [decide_eq_true_eq]; simp only; omega)]
  simp only [hx,Option.bind_some,n32,decide_eq_false hc,Bool.false_eq_true,if_false,hw]
theorem FD (s:By) (hl:s.length≤1000000):ae (fun F=>dG F s) (bK s):=by
 unfold dG bK
 rcases zp 32 s with ⟨p,q,hs,hp,hc⟩ | ⟨hp,hc⟩
 ·rw [hc]
  have h:=zl s p q hs hp hl p.length 0 (by omega)
  exact ae.bind h.run (.ret _)
 ·rw [hc]
  have h:=wB s hp hl s.length 0 (by omega)
  exact ae.bind h.run (.ret _)
def yX (acc:Nat):By→Int×Unit ⊕ Int×Unit
 | [] => .inl ((acc:Int),())
 | c :: r=>if bj c=true∧acc≤1073741824 then yX (acc * 10+(c.toNat - 48)) r else .inr (0,())
theorem yO : ∀ (l:By) (acc:Nat),cm (yX acc l) (fun v=>v.1) (fun v=>v.1)=(ru acc l:Int)
 | [],acc=>rfl
 | c :: r,acc=>by
  unfold yX ru
  by_cases h:bj c=true∧acc≤1073741824
  ·rw [if_pos h,if_pos h]; exact yO r _
  ·rw [if_neg h,if_neg h]; rfl
theorem sM (s:By) (hl:s.length≤1000000) : ∀ (n i acc:Nat),i+n=s.length→acc≤11000000000→af bS (s,(acc:Int),(i:Int),()) (yX acc (s.drop i))
 | 0,i,acc,h,ha=>by
  refine af.fin (.of fun F => ?_)
  unfold bS
  rw [if_neg (by rw [decide_eq_true_eq]; simp only; omega),List.drop_eq_nil_of_le (by omega)]
  rfl
 | n+1,i,acc,h,ha=>by
  have hi:i<s.length:=by omega
  have hx:idx s (i:Int)=some s[i]:=aV _ _ _ (List.getElem?_eq_getElem hi)
  have hw:IntKind.i64.wrap ((i:Int)+1)=((i+1:Nat):Int):=by rw [wrap64 _ (by omega) (by omega)]; omega
  have ih:=fun acc=>sM s hl n (i+1) acc (by omega)
  rw [List.drop_eq_getElem_cons hi]
  generalize s[i]=c at *
  have hlt:=c.toNat_lt
  have e3:bj c=(decide (48≤c.toNat) && decide (c.toNat≤57)):=rfl
  unfold yX
  have hbody : ∀ F,bS F (s,(acc:Int),(i:Int),())=if bj c=true∧acc≤1073741824 then some (.inl (s,((acc * 10+(c.toNat - 48):Nat):Int),((i+1:Nat):Int),())) else some (.inr (.inr (0,()))):=by
   intro F
   unfold bS
   rw [if_pos (by rw [decide_eq_true_eq]; simp only; omega)]
   by_cases c1:48≤c.toNat
   ·have c1' : ¬ (c.toNat:Int)<48:=by omega
    by_cases c2:c.toNat≤57
    ·have c2' : ¬ (57:Int)<(c.toNat:Int):=by omega
     by_cases c3:acc≤1073741824
     ·have c3' : ¬ (1073741824:Int)<(acc:Int):=by omega
      have w1:IntKind.i64.wrap ((acc:Int) * 10)=(acc:Int) * 10:=wrap64 _ (by omega) (by omega)
      have w2:IntKind.i64.wrap (c.toNat:Int)=(c.toNat:Int):=wrap64 _ (by omega) (by omega)
      have w3:IntKind.i64.wrap ((acc:Int) * 10+(c.toNat:Int))=(acc:Int) * 10+(c.toNat:Int):=wrap64 _ (by omega) (by omega)
      have w4:IntKind.i64.wrap ((acc:Int) * 10+(c.toNat:Int) - 48)=((acc * 10+(c.toNat - 48):Nat):Int):=by rw [wrap64 _ (by omega) (by omega)]; omega
      rw [if_pos ⟨by rw [e3,decide_eq_true c1,decide_eq_true c2]; rfl,c3⟩]
      simp only [hx,Option.bind_some,decide_eq_false c1',decide_eq_false c2',decide_eq_false c3',if_true,Bool.false_eq_true,if_false,w1,w2,w3,w4,hw]
     ·have c3':(1073741824:Int)<(acc:Int):=by omega
      rw [if_neg (fun hh=>c3 hh.2)]
      simp only [hx,Option.bind_some,decide_eq_false c1',decide_eq_false c2',decide_eq_true c3',if_true,Bool.false_eq_true,if_false]
    ·have c2':(57:Int)<(c.toNat:Int):=by omega
     rw [if_neg (fun hh=>by have:=hh.1; rw [e3,decide_eq_false c2,Bool.and_false] at this; cases this)]
     simp only [hx,Option.bind_some,decide_eq_false c1',decide_eq_true c2',if_true,Bool.true_eq_false,if_false]
   ·have c1':(c.toNat:Int)<48:=by omega
    rw [if_neg (fun hh=>by have:=hh.1; rw [e3,decide_eq_false c1,Bool.false_and] at this; cases this)]
    simp only [hx,Option.bind_some,decide_eq_true c1',if_true,Bool.true_eq_false,if_false]
  by_cases hc:bj c=true∧acc≤1073741824
  ·rw [if_pos hc]
   refine af.step (.of fun F=>(hbody F).trans (if_pos hc)) (ih _ (by omega))
  ·rw [if_neg hc]
   exact af.fin (.of fun F=>(hbody F).trans (if_neg hc))
theorem uh (s:By) (hl:s.length≤1000000):ae (fun F=>bM F s) ((ru 0 s:Nat):Int):=by
 unfold bM
 have h:=sM s hl s.length 0 0 (by omega) (by omega)
 rw [List.drop_zero] at h
 refine ae.bind h.run ?_
 rw [← yO]
 refine .of fun F => ?_
 cases yX 0 s <;> rfl
theorem LB (s:By) (hl:s.length≤100000):ae (fun F=>eU F s) (gY s):=by
 unfold eU gY
 have h1:=(jS s [32]).2
 refine ae.bind (FD s (by omega)) ?_
 have e1:(bK s).2.length≤s.length:=h1
 generalize bK s=w at *
 obtain ⟨kind,rest⟩:=w
 simp only at e1 ⊢
 by_cases k1:kind=rD
 ·rw [if_pos k1]
  exact ae.pos (decide_eq_true k1) (ae.bind (uh rest (by omega)) (.ret _))
 rw [if_neg k1]
 refine ae.neg (by rw [decide_eq_true_eq]; exact k1) ?_
 refine ae.bind (FD rest (by omega)) ?_
 have e2:(bK rest).1.length≤rest.length∧(bK rest).2.length≤rest.length:=jS rest [32]
 generalize bK rest=w at *
 obtain ⟨one,behind⟩:=w
 simp only at e2 ⊢
 by_cases k2:kind=pB
 ·rw [if_pos k2]
  exact ae.pos (decide_eq_true k2) (ae.bind (uh behind (by omega)) (.ret _))
 rw [if_neg k2]
 refine ae.neg (by rw [decide_eq_true_eq]; exact k2) ?_
 by_cases k3:kind=rB
 ·rw [if_pos k3]
  exact ae.pos (decide_eq_true k3) (.ret _)
 rw [if_neg k3]
 refine ae.neg (by rw [decide_eq_true_eq]; exact k3) ?_
 by_cases k4:kind=uB
 ·rw [if_pos k4]
  exact ae.pos (decide_eq_true k4) (ae.bind (uh one (by omega)) (.ret _))
 ·rw [if_neg k4]
  exact ae.neg (by rw [decide_eq_true_eq]; exact k4) (.ret _)
theorem Gr (x:By) (h:x.length≤1000):xX (gY x):=by
 have h1:(bK x).1.length≤x.length∧(bK x).2.length≤x.length:=jS x [32]
 have h2:(bK (bK x).2).1.length≤(bK x).2.length∧(bK (bK x).2).2.length≤(bK x).2.length:=jS _ [32]
 unfold gY
 split
 ·exact ⟨Nat.zero_le _,Nat.zero_le _⟩
 split
 ·exact ⟨by simp only; omega,Nat.zero_le _⟩
 split
 ·exact ⟨by simp only; omega,by simp only; omega⟩
 split
 ·exact ⟨Nat.zero_le _,by simp only; omega⟩
 ·exact ⟨Nat.zero_le _,Nat.zero_le _⟩
/-! ### parsing -/
abbrev RpR:=By×Unit×List PhT×Unit ⊕ Unit×Bool×List PhT×Unit
def rpF (s:By):Option (List PhT)→RpR
 | some l => .inl (s,(),l,())
 | none => .inr ((),false,[],())
theorem pf (s:By) (hs:s.length≤1000) : ∀ (n i a:Nat) (out:List PhT),i+n=s.length+1→a≤s.length→out.length≤6→af aK (s,(),(a:Int),(i:Int),out,()) (rpF s (kx s n i a out))
 | 0,i,a,out,h,ha,ho=>by
  refine af.fin (.of fun F => ?_)
  unfold aK
  rw [if_neg (by rw [decide_eq_true_eq]; simp only; omega)]
  rfl
 | n+1,i,a,out,h,ha,ho=>by
  have hw:IntKind.i64.wrap ((i:Int)+1)=((i+1:Nat):Int):=by rw [wrap64 _ (by omega) (by omega)]; omega
  have hw2:IntKind.i64.wrap ((i:Int)+2)=((i+2:Nat):Int):=by rw [wrap64 _ (by omega) (by omega)]; omega
  have h1 : ∀ F:Nat,(if decide ((i:Int)≤(s.length:Int))=true then some (s,(),(a:Int),(i:Int),decide ((out.length:Int)<6),out,()) else some (s,(),(a:Int),(i:Int),false,out,()):Option (By×Unit×Int×Int×Bool×List PhT×Unit))=some (s,(),(a:Int),(i:Int),decide ((out.length:Int)<6),out,()):=fun _=>if_pos (by rw [decide_eq_true_eq]; omega)
  unfold kx
  by_cases h6:6≤out.length
  ·rw [if_pos h6]
   refine af.fin (.of fun F => ?_)
   unfold aK
   simp only [h1 F,Option.bind_some]
   rw [if_neg (by rw [decide_eq_true_eq]; omega)]
   rfl
  rw [if_neg h6]
  have hd6:decide ((out.length:Int)<6)=true:=decide_eq_true (by omega)
  have h2 : ∀ F:Nat,(if decide ((i:Int)=(s.length:Int))=false then (idx s (i:Int)).bind fun v2=>some (s,(),(a:Int),(i:Int),decide ((v2.toNat:Int)=59),out,()) else some (s,(),(a:Int),(i:Int),true,out,()):Option (By×Unit×Int×Int×Bool×List PhT×Unit))=some (s,(),(a:Int),(i:Int),decide (i=s.length∨s[i]? = some 59),out,()):=by
   intro F
   by_cases hl:i=s.length
   ·rw [if_neg (by rw [decide_eq_true (by omega)]; decide),decide_eq_true (.inl hl)]
   ·have hi:i<s.length:=by omega
    have hx:idx s (i:Int)=some s[i]:=aV _ _ _ (List.getElem?_eq_getElem hi)
    rw [if_pos (decide_eq_false (by omega)),hx,Option.bind_some,List.getElem?_eq_getElem hi]
    have n59:((s[i].toNat:Int)=59)=(s[i]=59):=nvB s[i] 59
    simp only [n59]
    by_cases hc:s[i]=59
    ·rw [decide_eq_true hc,decide_eq_true (.inr (by rw [hc]))]
    ·rw [decide_eq_false hc,decide_eq_false (by rintro (h | h); exact hl h; injection h with h; exact hc h)]
  by_cases hc:i=s.length∨s[i]? = some 59
  ·rw [if_pos hc]
   by_cases hia:i<a
   ·rw [if_pos hia]
    refine af.fin ?_
    unfold aK
    refine ae.bind (.of h1) (ae.pos hd6 (ae.bind (.of h2) ?_))
    refine ae.bind (r:=(.inr ((),false,[],()):(By×Unit×Int×Int×List PhT×Unit) ⊕ (Unit×Bool×List PhT×Unit))) ?_ (.ret _)
    exact ae.pos (decide_eq_true hc) (ae.pos (by rw [decide_eq_true_eq]; simp only; omega) (.ret _))
   rw [if_neg hia]
   have hsb:sub s (a:Int) (i:Int)=some ((s.drop a).take (i - a)):=jT s a i (by omega) (by omega)
   have hpl:((s.drop a).take (i - a)).length≤1000:=by simp only [List.length_take,List.length_drop]; omega
   have hrd:=LB ((s.drop a).take (i - a)) (by omega)
   generalize (s.drop a).take (i - a)=x at *
   have hbody : ∀ z,ae (fun F=>(if decide ((s.length:Int)<((i+2:Nat):Int))=true then some (Sum.inr (Sum.inl (s,(),out ++ [gY x],()))) else some (Sum.inl (s,(),((i+2:Nat):Int),((i+1:Nat):Int),out ++ [gY x],())):Option ((By×Unit×Int×Int×List PhT×Unit) ⊕ RpR))) z→ae (fun F=>aK F (s,(),(a:Int),(i:Int),out,())) z:=by
    intro z hz
    unfold aK
    refine ae.bind (.of h1) ?_
    refine ae.pos hd6 ?_
    refine ae.bind (.of h2) ?_
    refine ae.bind (r:=(.inl (s,(),((i+2:Nat):Int),(i:Int),out ++ [gY x],()):(By×Unit×Int×Int×List PhT×Unit) ⊕ (Unit×Bool×List PhT×Unit))) ?_ ?_
    ·refine ae.pos (decide_eq_true hc) (ae.neg (by rw [decide_eq_true_eq]; simp only; omega) ?_)
     refine ae.bind (.of fun F=>hsb) (ae.bind hrd ?_)
     refine ae.pos (by rw [decide_eq_true_eq]; simp only [List.length_singleton]; omega) (.of fun F => ?_)
     simp only [hw2]
    ·refine hz.congr fun F => ?_
     simp only [aB,hw]
   by_cases h22:s.length<i+2
   ·rw [if_pos h22]
    refine af.fin (hbody _ (ae.pos (by rw [decide_eq_true_eq]; omega) (.ret _)))
   ·rw [if_neg h22]
    refine af.step (hbody _ (ae.neg (by rw [decide_eq_true_eq]; omega) (.ret _))) ?_
    exact pf s hs n (i+1) (i+2) (out ++ [gY x]) (by omega) (by omega) (by rw [List.length_append,List.length_singleton]; omega)
  ·rw [if_neg hc]
   refine af.step ?_ (pf s hs n (i+1) a out (by omega) ha ho)
   unfold aK
   refine ae.bind (.of h1) (ae.pos hd6 (ae.bind (.of h2) ?_))
   refine ae.bind (r:=(.inl (s,(),(a:Int),(i:Int),out,()):(By×Unit×Int×Int×List PhT×Unit) ⊕ (Unit×Bool×List PhT×Unit))) (ae.neg (by rw [decide_eq_true_eq]; exact hc) (.ret _)) ?_
   exact ae.neg (by rw [decide_eq_true_eq]; simp only; omega) (.of fun F=>by simp only [hw])
theorem uv (s:By) (hs:s.length≤1000) : ∀ (n i a:Nat) (out l:List PhT),(∀ p∈out,xX p)→out.length≤6→kx s n i a out=some l→(∀ p∈l,xX p)∧l.length≤7
 | 0,i,a,out,l,hb,ho,h=>by
  cases h
  exact ⟨hb,by omega⟩
 | n+1,i,a,out,l,hb,ho,h=>by
  unfold kx at h
  have hb' : ∀ p∈out ++ [gY ((s.drop a).take (i - a))],xX p:=by
   intro p hp
   rcases List.mem_append.1 hp with hp | hp
   ·exact hb p hp
   ·rw [List.mem_singleton] at hp
    subst hp
    exact Gr _ (by simp only [List.length_take,List.length_drop]; omega)
  split at h
  ·cases h; exact ⟨hb,by omega⟩
  split at h
  ·split at h
   ·cases h
   split at h
   ·cases h
    exact ⟨hb',by rw [List.length_append,List.length_singleton]; omega⟩
   ·exact uv s hs n _ _ _ l hb' (by rw [List.length_append,List.length_singleton]; omega) h
  ·exact uv s hs n _ _ _ l hb ho h
def lW (s:By):List PhT×Bool:=match D7 s with
 | none=>([],false)
 | some l=>if kY l=true∧cV l=s then (l,true) else ([],false)
theorem JJ (s:By) (hs:s.length≤1000):ae (fun F=>di F s) (lW s):=by
 unfold di lW
 have h:=pf s hs (s.length+1) 0 0 [] (by omega) (by omega) (Nat.zero_le _)
 refine ae.bind h.run ?_
 have hbn:=uv s hs (s.length+1) 0 0 []
 show ae _ (match kx s (s.length+1) 0 0 [] with
  | none=>([],false)
  | some l=>if kY l=true∧cV l=s then (l,true) else ([],false))
 cases hr:kx s (s.length+1) 0 0 [] with
 | none=>exact .ret _
 | some l =>
  obtain ⟨b1,b2⟩:=hbn l (fun p hp=>by cases hp) (Nat.zero_le _) hr
  have hm:=IK l (by omega) b1
  show ae _ (if kY l=true∧cV l=s then (l,true) else ([],false))
  by_cases hmm:kY l=true
  ·have hp:=Cx l (by omega) (jE hmm).1
   rw [hmm] at hm
   by_cases he:cV l=s
   ·rw [if_pos ⟨hmm,he⟩]
    refine ae.bind (r:=(((),false,l,()):Unit×Bool×List PhT×Unit)) (ae.bind hm (ae.pos rfl (ae.bind hp (.of fun F => ?_)))) (ae.neg Bool.false_ne_true (.ret _))
    show some ((), !decide (cV l=s),l,()) = _
    rw [decide_eq_true he]
    rfl
   ·rw [if_neg (fun hh=>he hh.2)]
    refine ae.bind (r:=(((),true,l,()):Unit×Bool×List PhT×Unit)) (ae.bind hm (ae.pos rfl (ae.bind hp (.of fun F => ?_)))) (ae.pos rfl (.ret _))
    show some ((), !decide (cV l=s),l,()) = _
    rw [decide_eq_false he]
    rfl
  ·have hm':kY l=false:=by simpa using hmm
   rw [hm'] at hm
   rw [if_neg (fun hh=>hmm hh.1)]
   exact ae.bind (r:=(((),true,l,()):Unit×Bool×List PhT×Unit)) (ae.bind hm (ae.neg (by decide) (.ret _))) (ae.pos rfl (.ret _))
theorem yh (l:List PhT) (h:kY l=true):lW (cV l)=(l,true):=by
 unfold lW
 rw [Db l h]
 exact if_pos ⟨h,rfl⟩
end Go.Vm
