import Derived.Test.YtihpjgcbmipdbaaGreatDoorPg4
import Derived.Test.YtihpjgcbmipdbaaGreatDoorFref23b
import Derived.Test.YtihpjgcbmipdbaaGreatDoorFlaw23
import Derived.Test.YtihpjgcbmipdbaaGreatDoorPu3
import Derived.Test.YtihpjgcbmipdbaaGreatDoorPh1
import Derived.Test.YtihpjgcbmipdbaaGreatDoorPh7
/- Programs: what the program prints and parses is the plain one. No condition but on lengths. -/
namespace Go.Vm
open Go.Proofs
open Go.Lib (decDigits itoa)
set_option linter.unusedVariables false
set_option linter.unusedSimpArgs false
theorem Is {s:By} (h:nmP s=true):s.length≤12:=by
 unfold nmP at h
 simp only [Bool.and_eq_true,decide_eq_true_eq] at h
 exact h.2
theorem yF {s:By} (h:kN s=true):s.length≤60:=by
 unfold kN pq at h
 simp only [Bool.and_eq_true,decide_eq_true_eq] at h
 exact h.2.1
theorem AL (t:By) (r:List By):kH ((32 :: t) :: r)=(kH r).map (fX t :: ·):=rfl
theorem yw (x:By) (r:List By) (h : ∀ t,x≠32 :: t):kH (x :: r)=none:=by
 unfold kH
 split
 ·exact absurd rfl (h _)
 ·rfl
abbrev PaR:=Unit×List PhT×Unit ⊕ Unit×Int×List PhT×Unit
def paR (out:List PhT):Option (List PhT)→PaR
 | some l => .inl ((),out ++ l,())
 | none => .inr ((),3,[],())
theorem tE (xs:List By) (hn:xs.length≤1000000) (hx : ∀ x∈xs,x.length≤100000) : ∀ (n i:Nat) (out:List PhT),i+n=xs.length→out.length=i→1≤i→af ey ((),xs,(xs.length:Int),(i:Int),out,()) (paR out (kH (xs.drop i)))
 | 0,i,out,h,ho,h1=>by
  refine af.fin (.of fun F => ?_)
  unfold ey
  rw [if_neg (by rw [decide_eq_true_eq]; simp only; omega),List.drop_eq_nil_of_le (by omega)]
  show some (Sum.inr (Sum.inl ((),out,())))=some (Sum.inr (Sum.inl ((),out ++ [],())))
  rw [List.append_nil]
 | n+1,i,out,h,ho,h1=>by
  have hi:i<xs.length:=by omega
  have hx0:idx xs (i:Int)=some xs[i]:=bn _ _ _ (List.getElem?_eq_getElem hi)
  have hw:IntKind.i64.wrap ((i:Int)+1)=((i+1:Nat):Int):=by rw [wrap64 _ (by omega) (by omega)]; omega
  have hxl:=hx xs[i] (List.getElem_mem hi)
  have hsb:sub ([59,32]:By) 1 2=some [32]:=rfl
  rw [List.drop_eq_getElem_cons hi]
  generalize xs[i]=x at *
  by_cases hc : ∃ t,x=32 :: t
  ·obtain ⟨t,rfl⟩:=hc
   rw [List.length_cons] at hxl
   have ih:=tE xs hn hx n (i+1) (out ++ [fX t]) (by omega) (by rw [List.length_append,List.length_singleton]; omega) (by omega)
   have e:paR out (kH ((32 :: t) :: xs.drop (i+1)))=paR (out ++ [fX t]) (kH (xs.drop (i+1))):=by
    rw [AL]
    cases kH (xs.drop (i+1)) with
    | none=>rfl
    | some l=>show Sum.inl ((),out ++ (fX t :: l),())=Sum.inl ((),(out ++ [fX t]) ++ l,()); rw [List.append_assoc]; rfl
   rw [e]
   refine af.step (.of fun F => ?_) ih
   unfold ey
   rw [if_pos (by rw [decide_eq_true_eq]; simp only; omega)]
   simp only [hx0,Option.bind_some]
   rw [if_pos (by rw [decide_eq_true_eq]; omega)]
   simp only [hsb,Option.bind_some,JI F t (by omega),Bool.not_true,Bool.false_eq_true,if_false,ax,En F t (by omega)]
   rw [if_pos (by rw [decide_eq_true_eq]; simp only [List.length_singleton]; omega),hw]
  ·have hm : ∀ t,x≠32 :: t:=fun t ht=>hc ⟨t,ht⟩
   rw [yw x _ hm]
   refine af.fin (.of fun F => ?_)
   unfold ey
   rw [if_pos (by rw [decide_eq_true_eq]; simp only; omega)]
   simp only [hx0,Option.bind_some]
   rw [if_pos (by rw [decide_eq_true_eq]; omega)]
   simp only [hsb,Option.bind_some,Hx F x hm,Bool.not_false,if_true,aT]
   rfl
theorem xY (x:By) (h:x.length≤1000):qW (fX x):=by
 have h1:=uN x [32]
 have h2:=uN (Lib.cut x [32]).2.1 [32]
 unfold fX
 split
 ·exact ⟨Nat.zero_le _,Nat.zero_le _⟩
 split
 ·exact ⟨Nat.zero_le _,Nat.zero_le _⟩
 split
 ·exact ⟨Nat.zero_le _,Nat.zero_le _⟩
 split
 ·exact ⟨by simp only; omega,Nat.zero_le _⟩
 split
 ·exact ⟨by simp only; omega,by simp only; omega⟩
 split
 ·exact ⟨Nat.zero_le _,by simp only; omega⟩
 ·exact ⟨Nat.zero_le _,Nat.zero_le _⟩
theorem Bw : ∀ (xs:List By) (l:List PhT),(∀ x∈xs,x.length≤1000)→kH xs=some l→l.length=xs.length ∧ ∀ p∈l,qW p
 | [],l,hx,h=>by cases h; exact ⟨rfl,fun p hp=>by cases hp⟩
 | x :: xs,l,hx,h=>by
  by_cases hc : ∃ t,x=32 :: t
  ·obtain ⟨t,rfl⟩:=hc
   rw [AL] at h
   obtain ⟨l',h1,rfl⟩:=Option.map_eq_some_iff.1 h
   obtain ⟨i1,i2⟩:=Bw xs l' (fun y hy=>hx y (List.mem_cons_of_mem _ hy)) h1
   have h2:=hx (32 :: t) (List.mem_cons_self ..)
   rw [List.length_cons] at h2
   refine ⟨by rw [List.length_cons,List.length_cons,i1],fun p hp => ?_⟩
   rcases List.mem_cons.1 hp with rfl | hp
   ·exact xY t (by omega)
   ·exact i2 p hp
  ·rw [yw x xs fun t ht=>hc ⟨t,ht⟩] at h
   cases h
theorem IE (s:By) (hs:s.length≤1000):ae (fun F=>kV F s) (zi s):=by
 obtain ⟨c1,c2⟩:=AE 59 s
 have hsp : ∀ F,iB F (s,[59])=some (kC 59 s):=by
  intro F
  unfold iB zj
  rw [if_pos (decide_eq_true (by simp only; omega)),if_pos (by rfl),vu]
 unfold kV zi D6
 refine ae.bind (.of hsp) ?_
 cases hx:kC 59 s with
 | nil=>exact absurd hx (D0 59 s)
 | cons x xs =>
  rw [hx] at c1 c2
  rw [List.length_cons] at c1
  have hxl:=c2 x (List.mem_cons_self ..)
  have hw:IntKind.i64.wrap ((0:Int)+1)=((1:Nat):Int):=by rw [wrap64 _ (by omega) (by omega)]; rfl
  have h:=tE (x :: xs) (by rw [List.length_cons]; omega) (fun y hy=>by have:=c2 y hy; omega) xs.length 1 [fX x] (by rw [List.length_cons]; omega) rfl (Nat.le_refl _)
  have hl:af ey ((),x :: xs,((x :: xs).length:Int),0,[],()) (paR [fX x] (kH xs)):=by
   refine af.step (.of fun F => ?_) h
   unfold ey
   rw [if_pos (by rw [decide_eq_true_eq]; simp only [List.length_cons]; omega)]
   have hx0:idx (x :: xs) 0=some x:=bn _ 0 _ rfl
   simp only [hx0,Option.bind_some]
   rw [if_neg (by rw [decide_eq_true_eq]; simp only [List.length_nil]; omega)]
   simp only [Option.bind_some,ax,En F x (by omega)]
   rw [if_pos (by rw [decide_eq_true_eq]; simp only [List.length_nil,List.length_singleton]; omega),hw]
   rfl
  refine ae.bind hl.run ?_
  simp only
  cases hr:kH xs with
  | none=>exact .ret _
  | some l =>
   obtain ⟨b1,b2⟩:=Bw xs l (fun y hy=>by have:=c2 y (List.mem_cons_of_mem _ hy); omega) hr
   have hm:=GN (fX x :: l) (by rw [List.length_cons]; omega) fun p hp=>by
    rcases List.mem_cons.1 hp with rfl | hp
    ·exact xY x (by omega)
    ·exact b2 p hp
   show ae _ (if oz (fX x :: l)=true then (fX x :: l,0) else ([],3))
   refine ae.bind hm ?_
   by_cases hmm:oz (fX x :: l)=true
   ·rw [if_pos hmm,hmm]
    exact ae.neg (by decide) (.ret _)
   ·have hmm':oz (fX x :: l)=false:=by simpa using hmm
    rw [if_neg hmm,hmm']
    exact ae.pos rfl (.ret _)
end Go.Vm
/- Programs: the document's functions are the plain ones. No condition but on lengths. -/
namespace Go.Vm
open Go.Proofs
open Go.Lib (decDigits itoa)
set_option linter.unusedVariables false
set_option linter.unusedSimpArgs false
/-! ### phases -/
theorem u6 (x:By) (hx:x.length≤1000) : ∀ (n i:Nat),i+n=x.length→af cY (x,(i:Int),()) (if (x.drop i).all (fun c=>c != 59)=true then .inl (x,()) else .inr (false,()))
 | 0,i,h=>by
  refine af.fin (.of fun F => ?_)
  unfold cY
  rw [if_neg (by rw [decide_eq_true_eq]; simp only; omega),List.drop_eq_nil_of_le (by omega)]
  rfl
 | n+1,i,h=>by
  have hi:i<x.length:=by omega
  have hx0:idx x (i:Int)=some x[i]:=bn _ _ _ (List.getElem?_eq_getElem hi)
  have hw:IntKind.i64.wrap ((i:Int)+1)=((i+1:Nat):Int):=by rw [wrap64 _ (by omega) (by omega)]; omega
  have ih:=u6 x hx n (i+1) (by omega)
  rw [List.drop_eq_getElem_cons hi,List.all_cons]
  generalize x[i]=c at *
  have n59:((c.toNat:Int)=59)=(c=59):=nvB c 59
  by_cases hc:c=59
  ·have e:(c != 59)=false:=by rw [hc]; rfl
   rw [e,Bool.false_and]
   refine af.fin (.of fun F => ?_)
   unfold cY
   rw [if_pos (by rw [decide_eq_true_eq]; simp only; omega)]
   simp only [hx0,Option.bind_some,n59,decide_eq_true hc]
   rfl
  ·have e:(c != 59)=true:=by rw [bne_iff_ne]; exact hc
   rw [e,Bool.true_and]
   refine af.step (.of fun F => ?_) ih
   unfold cY
   rw [if_pos (by rw [decide_eq_true_eq]; simp only; omega)]
   simp only [hx0,Option.bind_some,n59,decide_eq_false hc,Bool.false_eq_true,if_false,hw]
theorem Em (x:By) (hx:x.length≤1000):ae (fun F=>dN F x) (kN x):=by
 unfold dN kN
 have h:=u6 x hx x.length 0 (by omega)
 rw [List.drop_zero] at h
 refine ae.bind h.run ?_
 by_cases ha:x.all (fun c=>c != 59)=true
 ·rw [if_pos ha,ha,Bool.true_and]
  exact ae.bind (yz x hx) (.ret _)
 ·have ha':x.all (fun c=>c != 59)=false:=by simpa using ha
  rw [if_neg ha,ha',Bool.false_and]
  exact .ret _
theorem Hk (p:PhT) (hp:qW p):ae (fun F=>eI F p) (ee p):=by
 obtain ⟨k,nm,n,t,u⟩:=p
 obtain ⟨hn,ht⟩:=hp
 simp only at hn ht
 unfold eI ee
 simp only
 by_cases k1:k=1
 ·rw [if_pos k1]
  refine ae.pos (decide_eq_true k1) (.of fun F => ?_)
  by_cases c1:1≤n
  ·by_cases c2:n≤80
   ·by_cases c3:nm = [] <;> by_cases c4:t = [] <;> simp [c1,c2,c3,c4]
   ·simp [c1,c2]
  ·simp [c1]
 rw [if_neg k1]
 refine ae.neg (by rw [decide_eq_true_eq]; exact k1) ?_
 by_cases k2:k=2
 ·rw [if_pos k2]
  refine ae.pos (decide_eq_true k2) ?_
  refine ae.bind (r:=(((),decide (1≤n) && decide (n≤1073741824),(k,nm,n,t,()),()):Unit×Bool×PhT×Unit)) (.of fun F=>by
   by_cases c1:1≤n <;> simp [c1]) ?_
  refine ae.bind (r:=(((),(decide (1≤n) && decide (n≤1073741824)) && nmP nm,(k,nm,n,t,()),()):Unit×Bool×PhT×Unit)) ?_ ?_
  ·cases hb:(decide (1≤n) && decide (n≤1073741824)) with
   | true=>exact ae.pos rfl (ae.bind (vL nm (by omega)) (.ret _))
   | false=>exact ae.neg Bool.false_ne_true (.ret _)
  ·refine .of fun F => ?_
   cases hb:((decide (1≤n) && decide (n≤1073741824)) && nmP nm) <;> simp
 rw [if_neg k2]
 refine ae.neg (by rw [decide_eq_true_eq]; exact k2) ?_
 by_cases k3:k=3
 ·rw [if_pos k3]
  refine ae.pos (decide_eq_true k3) ?_
  refine ae.bind (r:=(((),decide (n=0) && nmP nm,(k,nm,n,t,()),()):Unit×Bool×PhT×Unit)) ?_ ?_
  ·by_cases c1:n=0
   ·rw [decide_eq_true c1,Bool.true_and]
    exact ae.pos rfl (ae.bind (vL nm (by omega)) (.ret _))
   ·rw [decide_eq_false c1,Bool.false_and]
    exact ae.neg Bool.false_ne_true (.ret _)
  refine ae.bind (r:=(((decide (n=0) && nmP nm) && kN t,()):Bool×Unit)) ?_ (.ret _)
  cases hb:(decide (n=0) && nmP nm) with
  | true=>exact ae.pos rfl (ae.bind (Em t ht) (.ret _))
  | false=>exact ae.neg Bool.false_ne_true (.ret _)
 rw [if_neg k3]
 refine ae.neg (by rw [decide_eq_true_eq]; exact k3) ?_
 by_cases k4:k=4
 ·rw [if_pos k4]
  refine ae.bind (r:=(((),decide (n=200) || decide (n=201),(k,nm,n,t,()),()):Unit×Bool×PhT×Unit)) (ae.pos (decide_eq_true k4) (.of fun F=>by
   by_cases c1:n=200 <;> simp [c1])) ?_
  refine ae.bind (r:=(((),(decide (n=200) || decide (n=201)) && decide (nm = []),(k,nm,n,t,()),()):Unit×Bool×PhT×Unit)) (.of fun F=>by
   cases hb:(decide (n=200) || decide (n=201)) <;> simp [hb]) ?_
  refine ae.bind (r:=((((decide (n=200) || decide (n=201)) && decide (nm = [])) && kN t,()):Bool×Unit)) ?_ (.ret _)
  cases hb:((decide (n=200) || decide (n=201)) && decide (nm = [])) with
  | true=>exact ae.pos rfl (ae.bind (Em t ht) (.ret _))
  | false=>exact ae.neg Bool.false_ne_true (.ret _)
 ·rw [if_neg k4]
  refine ae.bind (r:=(((),false,(k,nm,n,t,()),()):Unit×Bool×PhT×Unit)) (ae.neg (by rw [decide_eq_true_eq]; exact k4) (.ret _)) (.of fun F=>rfl)
theorem yB (l:List PhT) (hl:l.length≤1000000) (hb : ∀ p∈l,qW p) : ∀ (n i:Nat),i+n=l.length→af du (l,(i:Int),()) (if uu (l.drop i)=true then .inl () else .inr (false,()))
 | 0,i,h=>by
  refine af.fin (.of fun F => ?_)
  unfold du
  rw [if_neg (by rw [decide_eq_true_eq]; simp only; omega),List.drop_eq_nil_of_le (by omega)]
  rfl
 | n+1,i,h=>by
  have hi:i<l.length:=by omega
  have hx:idx l (i:Int)=some l[i]:=bn _ _ _ (List.getElem?_eq_getElem hi)
  have hw:IntKind.i64.wrap ((i:Int)+1)=((i+1:Nat):Int):=by rw [wrap64 _ (by omega) (by omega)]; omega
  have hw1:IntKind.i64.wrap ((l.length:Int) - 1)=((l.length - 1:Nat):Int):=by rw [wrap64 _ (by omega) (by omega)]; omega
  have ih:=yB l hl hb n (i+1) (by omega)
  have hr:=Hk l[i] (hb _ (List.getElem_mem hi))
  have hd:=sH l i hi
  rw [List.drop_eq_getElem_cons hi]
  generalize l[i]=p at *
  have hk:decide (l.drop (i+1) = [])=decide ((i:Int)=((l.length - 1:Nat):Int)):=by
   rw [Bool.eq_iff_iff,decide_eq_true_eq,decide_eq_true_eq,hd]; omega
  have e:uu (p :: l.drop (i+1))=(ee p && (decide (p.1=4) == decide ((i:Int)=((l.length - 1:Nat):Int))) && uu (l.drop (i+1))):=by rw [← hk]; rfl
  rw [e]
  have hbody:ae (fun F=>du F (l,(i:Int),())) (if (ee p && (decide (p.1=4) == decide ((i:Int)=((l.length - 1:Nat):Int))))=true then .inl (l,((i+1:Nat):Int),()) else .inr (.inr (false,()))):=by
   unfold du
   refine ae.pos (by rw [decide_eq_true_eq]; simp only; omega) ?_
   refine ae.bind (r:=((l,(i:Int), !(ee p && (decide (p.1=4) == decide ((i:Int)=((l.length - 1:Nat):Int)))),()):List PhT×Int×Bool×Unit)) (ae.bind (.of fun F=>hx) (ae.bind hr ?_)) ?_
   ·cases hrp:ee p with
    | true=>exact .of fun F=>by simp [hw1,hx]
    | false=>exact .of fun F=>by simp
   ·cases hrp:(ee p && (decide (p.1=4) == decide ((i:Int)=((l.length - 1:Nat):Int)))) with
    | true=>exact ae.neg (by simp) (.of fun F=>by simp [hw])
    | false=>exact ae.pos (by simp) (.of fun F=>by simp)
  cases hrp:(ee p && (decide (p.1=4) == decide ((i:Int)=((l.length - 1:Nat):Int)))) with
  | true =>
   rw [hrp,if_pos rfl] at hbody
   rw [Bool.true_and]
   exact af.step hbody ih
  | false =>
   rw [hrp,if_neg Bool.false_ne_true] at hbody
   rw [Bool.false_and,if_neg Bool.false_ne_true]
   exact af.fin hbody
theorem LB (l:List PhT) (hl:l.length≤1000000) (hb : ∀ p∈l,qW p):ae (fun F=>fm F l) (oz l):=by
 unfold fm oz
 refine ae.bind (r:=((l, !(decide (1≤l.length) && decide (l.length≤5)),()):List PhT×Bool×Unit)) (.of fun F => ?_) ?_
 ·by_cases h0:l.length=0
  ·rw [if_neg (by rw [decide_eq_true (by omega)]; decide),decide_eq_false (by omega)]
   rfl
  ·rw [if_pos (decide_eq_false (by omega)),decide_eq_true (by omega:1≤l.length),Bool.true_and]
   by_cases h5:l.length≤5
   ·rw [decide_eq_false (by omega),decide_eq_true h5]; rfl
   ·rw [decide_eq_true (by omega),decide_eq_false h5]; rfl
 cases hc:(decide (1≤l.length) && decide (l.length≤5)) with
 | false=>exact ae.pos rfl (.ret _)
 | true =>
  refine ae.neg (by simp) ?_
  have h:=yB l hl hb l.length 0 (by omega)
  rw [List.drop_zero] at h
  refine ae.bind h.run ?_
  rw [Bool.true_and]
  cases uu l <;> exact .ret _
/-! ### texts -/
end Go.Vm
/- Programs: what the document parses is the plain one; small programs. No condition but on lengths. -/
namespace Go.Vm
open Go.Proofs
open Go.Lib (decDigits itoa)
set_option linter.unusedVariables false
set_option linter.unusedSimpArgs false
/-! ### words, numbers -/
end Go.Vm
/- Right texts, plainly. No condition. -/
namespace Go.Vm
open Go.Lib (decodeL decodeN decodeL_N decode_N decodeN_shape decodeL_le)
set_option linter.unusedVariables false
set_option linter.unusedSimpArgs false
end Go.Vm
/- Phrases: small entries; what is let out is right; the law of fills. No condition but on lengths. -/
namespace Go.Vm
open Go.Proofs
open Go.Lib (decodeL decodeN decodeL_N decode_N decodeN_shape decodeL_le)
set_option linter.unusedVariables false
set_option linter.unusedSimpArgs false
/-! ### small entries -/
def jK (e:EnT):Bool:=decide (e.key.length≤100) && decide (e.2.2.2.2.2.2.1.length≤100) && decide (e.2.2.2.2.2.2.2.2.2.2.1.length≤100) && decide (e.method.length≤100) && decide (e.path.length≤100) && decide (e.body.length≤100)
theorem GD (e:EnT) (h:jK e=true):e.key.length≤1000∧e.method.length≤1000∧e.path.length≤1000∧e.body.length≤1000:=by
 unfold jK at h
 simp only [Bool.and_eq_true,decide_eq_true_eq] at h
 omega
theorem wv (l:List (Int×EnT)) (hl:l.length≤1000000) : ∀ (n i:Nat),i+n=l.length→af cK (l,(l.length:Int),(i:Int),()) (if (l.drop i).all (fun r=>jK r.2)=true then .inl () else .inr (false,()))
 | 0,i,h=>by
  refine af.fin (.of fun F => ?_)
  unfold cK
  rw [if_neg (by rw [decide_eq_true_eq]; simp only; omega),List.drop_eq_nil_of_le (by omega)]
  rfl
 | n+1,i,h=>by
  have hi:i<l.length:=by omega
  have hx:idx l (i:Int)=some l[i]:=bn _ _ _ (List.getElem?_eq_getElem hi)
  have hw:IntKind.i64.wrap ((i:Int)+1)=((i+1:Nat):Int):=by rw [wrap64 _ (by omega) (by omega)]; omega
  have ih:=wv l hl n (i+1) (by omega)
  rw [List.drop_eq_getElem_cons hi,List.all_cons]
  generalize l[i]=m at *
  obtain ⟨k,te,key,st,ep,tok,po,pr,le,ex,sta,tx,me,pa,bo,u⟩:=m
  have body : ∀ F,cK F (l,(l.length:Int),(i:Int),())=some (if jK (te,key,st,ep,tok,po,pr,le,ex,sta,tx,me,pa,bo,u)=true then .inl (l,(l.length:Int),((i+1:Nat):Int),()) else .inr (.inr (false,()))):=by
   intro F
   unfold cK jK
   rw [if_pos (by rw [decide_eq_true_eq]; simp only; omega)]
   have e1 : ∀ a:By,(100:Int)<(a.length:Int) ↔ ¬ a.length≤100:=fun a=>by omega
   simp only [hx,Option.bind_some,e1]
   by_cases a1:key.length≤100
   ·by_cases a2:pr.length≤100
    ·by_cases a3:tx.length≤100
     ·by_cases a4:me.length≤100
      ·by_cases a5:pa.length≤100
       ·by_cases a6:bo.length≤100
        ·simp [a1,a2,a3,a4,a5,a6,hw]
        ·simp [a1,a2,a3,a4,a5,a6,hw]
       ·simp [a1,a2,a3,a4,a5,hw]
      ·simp [a1,a2,a3,a4,hw]
     ·simp [a1,a2,a3,hw]
    ·simp [a1,a2,hw]
   ·simp [a1,hw]
  by_cases hc:jK (te,key,st,ep,tok,po,pr,le,ex,sta,tx,me,pa,bo,u)=true
  ·rw [hc,Bool.true_and]
   exact af.step (.of fun F=>(body F).trans (by rw [if_pos hc])) ih
  ·have hc':jK (te,key,st,ep,tok,po,pr,le,ex,sta,tx,me,pa,bo,u)=false:=by simpa using hc
   rw [hc',Bool.false_and]
   exact af.fin (.of fun F=>(body F).trans (by rw [if_neg hc]; rfl))
theorem J0 (l:List (Int×EnT)) (most:Int) (hl:l.length≤1000000):ae (fun F=>dF F (l,most)) (decide ((l.length:Int)≤most) && l.all fun r=>jK r.2):=by
 unfold dF
 by_cases hm:most<(l.length:Int)
 ·rw [decide_eq_false (p:=(l.length:Int)≤most) (by omega),Bool.false_and]
  exact ae.pos (decide_eq_true hm) (.ret _)
 rw [decide_eq_true (p:=(l.length:Int)≤most) (by omega),Bool.true_and]
 refine ae.neg (by rw [decide_eq_true_eq]; exact hm) ?_
 have h:=wv l hl l.length 0 (by omega)
 rw [List.drop_zero] at h
 refine ae.bind h.run ?_
 by_cases ha:(l.all fun r=>jK r.2)=true
 ·rw [if_pos ha,ha]; exact .ret _
 ·have ha':(l.all fun r=>jK r.2)=false:=by simpa using ha
  rw [if_neg ha,ha']; exact .ret _
/-! ### what is let out is right -/
end Go.Vm
