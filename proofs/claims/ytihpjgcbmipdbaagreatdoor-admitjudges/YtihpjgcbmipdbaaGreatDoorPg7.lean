import Derived.Test.YtihpjgcbmipdbaaGreatDoorPr3
set_option linter.unusedVariables false
set_option linter.unusedSimpArgs false
namespace Go.Vm
open Go.Proofs
open Go.Lib (decDigits itoa)
theorem BH (x:By) (hx:x.length≤1000) : ∀ (n i:Nat),i+n=x.length→af dJ (x,(i:Int),()) (if (x.drop i).all (fun c=>c != 59)=true then .inl (x,()) else .inr (false,()))
 | 0,i,h=>by
  refine af.fin (.of fun F => ?_);unfold dJ;rw [if_neg (by rw [abn]; simp only; omega),List.drop_eq_nil_of_le (by omega)];rfl
 | n+1,i,h=>by
  have hi:i<x.length:=by omega
  have o6:idx x (i:Int)=some x[i]:=bc _ _ _ (List.getElem?_eq_getElem hi);have hw:IntKind.i64.wrap ((i:Int)+1)=((i+1:Nat):Int):=by rw [wrap64 _ (by omega) (by omega)]; omega
  have ih:=BH x hx n (i+1) (by omega);rw [List.drop_eq_getElem_cons hi,List.all_cons];generalize x[i]=c at *
  have n59:((c.toNat:Int)=59)=(c=59):=nvB c 59;by_cases hc:c=59
  ·have e:(c != 59)=false:=by rw [hc]; rfl
   rw [e,Bool.false_and];refine af.fin (.of fun F => ?_);unfold dJ;rw [if_pos (by rw [abn]; simp only; omega)];simp only [o6,abo,n59,abt hc];rfl
  ·have e:(c != 59)=true:=by rw [bne_iff_ne]; exact hc
   rw [e,Bool.true_and];refine af.step (.of fun F => ?_) ih;unfold dJ;rw [if_pos (by rw [abn]; simp only; omega)];simp only [o6,abo,n59,abu hc,abq,if_false,hw]
theorem Kw (x:By) (hx:x.length≤1000):ae (fun F=>eS F x) (oD x):=by
 unfold eS oD;have h:=BH x hx x.length 0 (by omega);rw [List.drop_zero] at h;refine ae.bind h.run ?_;by_cases ha:x.all (fun c=>c != 59)=true
 ·rw [if_pos ha,ha,Bool.true_and]
  exact ae.bind (Lz x hx) (.ret _)
 ·have QV:x.all (fun c=>c != 59)=false:=by simpa using ha
  rw [if_neg ha,QV,Bool.false_and];exact .ret _
theorem Oj (p:PhT) (hp:Cr p):ae (fun F=>fO F p) (fU p):=by
 obtain ⟨k,nm,n,t,u⟩:=p;obtain ⟨hn,ht⟩:=hp;simp only at hn ht;unfold fO fU;simp only;by_cases k1:k=1
 ·rw [if_pos k1]
  refine ae.pos (abt k1) (.of fun F => ?_);by_cases c1:1≤n
  ·by_cases c2:n≤80
   ·by_cases c3:nm = [] <;> by_cases c4:t = [] <;> simp [c1,c2,c3,c4]
   ·simp [c1,c2]
  ·simp [c1]
 rw [if_neg k1];refine ae.neg (by rw [abn]; exact k1) ?_;by_cases k2:k=2
 ·rw [if_pos k2]
  refine ae.pos (abt k2) ?_;refine ae.bind (r:=(((),decide (1≤n) && decide (n≤1073741824),(k,nm,n,t,()),()):Unit×Bool×PhT×Unit)) (.of fun F=>by
   by_cases c1:1≤n <;> simp [c1]) ?_
  refine ae.bind (r:=(((),(decide (1≤n) && decide (n≤1073741824)) && nmP nm,(k,nm,n,t,()),()):Unit×Bool×PhT×Unit)) ?_ ?_
  ·cases hb:(decide (1≤n) && decide (n≤1073741824)) with
   | true=>exact ae.pos rfl (ae.bind (A9 nm (by omega)) (.ret _))
   | false=>exact ae.neg abw (.ret _)
  ·refine .of fun F => ?_
   cases hb:((decide (1≤n) && decide (n≤1073741824)) && nmP nm) <;> simp
 rw [if_neg k2];refine ae.neg (by rw [abn]; exact k2) ?_;by_cases k3:k=3
 ·rw [if_pos k3]
  refine ae.pos (abt k3) ?_;refine ae.bind (r:=(((),decide (n=0) && nmP nm,(k,nm,n,t,()),()):Unit×Bool×PhT×Unit)) ?_ ?_
  ·by_cases c1:n=0
   ·rw [abt c1,Bool.true_and]
    exact ae.pos rfl (ae.bind (A9 nm (by omega)) (.ret _))
   ·rw [abu c1,Bool.false_and]
    exact ae.neg abw (.ret _)
  refine ae.bind (r:=(((decide (n=0) && nmP nm) && oD t,()):Bool×Unit)) ?_ (.ret _);cases hb:(decide (n=0) && nmP nm) with
  | true=>exact ae.pos rfl (ae.bind (Kw t ht) (.ret _))
  | false=>exact ae.neg abw (.ret _)
 rw [if_neg k3];refine ae.neg (by rw [abn]; exact k3) ?_;by_cases k4:k=4
 ·rw [if_pos k4]
  refine ae.bind (r:=(((),decide (n=200) || decide (n=201),(k,nm,n,t,()),()):Unit×Bool×PhT×Unit)) (ae.pos (abt k4) (.of fun F=>by
   by_cases c1:n=200 <;> simp [c1])) ?_
  refine ae.bind (r:=(((),(decide (n=200) || decide (n=201)) && decide (nm = []),(k,nm,n,t,()),()):Unit×Bool×PhT×Unit)) (.of fun F=>by
   cases hb:(decide (n=200) || decide (n=201)) <;> simp [hb]) ?_
  refine ae.bind (r:=((((decide (n=200) || decide (n=201)) && decide (nm = [])) && oD t,()):Bool×Unit)) ?_ (.ret _);cases hb:((decide (n=200) || decide (n=201)) && decide (nm = [])) with
  | true=>exact ae.pos rfl (ae.bind (Kw t ht) (.ret _))
  | false=>exact ae.neg abw (.ret _)
 ·rw [if_neg k4]
  refine ae.bind (r:=(((),false,(k,nm,n,t,()),()):Unit×Bool×PhT×Unit)) (ae.neg (by rw [abn]; exact k4) (.ret _)) (.of fun F=>rfl)
theorem Dl (l:List PhT) (hl:l.length≤1000000) (hb : ∀ p∈l,Cr p) : ∀ (n i:Nat),i+n=l.length→af ec (l,(i:Int),()) (if Hw (l.drop i)=true then .inl () else .inr (false,()))
 | 0,i,h=>by
  refine af.fin (.of fun F => ?_);unfold ec;rw [if_neg (by rw [abn]; simp only; omega),List.drop_eq_nil_of_le (by omega)];rfl
 | n+1,i,h=>by
  have hi:i<l.length:=by omega
  have hx:idx l (i:Int)=some l[i]:=bc _ _ _ (List.getElem?_eq_getElem hi);have hw:IntKind.i64.wrap ((i:Int)+1)=((i+1:Nat):Int):=by rw [wrap64 _ (by omega) (by omega)]; omega
  have Ta:IntKind.i64.wrap ((l.length:Int) - 1)=((l.length - 1:Nat):Int):=by rw [wrap64 _ (by omega) (by omega)]; omega
  have ih:=Dl l hl hb n (i+1) (by omega);have hr:=Oj l[i] (hb _ (List.getElem_mem hi));have hd:=Ep l i hi;rw [List.drop_eq_getElem_cons hi];generalize l[i]=p at *
  have hk:decide (l.drop (i+1) = [])=decide ((i:Int)=((l.length - 1:Nat):Int)):=by
   rw [Bool.eq_iff_iff,abn,abn,hd]; omega
  have e:Hw (p :: l.drop (i+1))=(fU p && (decide (p.1=4) == decide ((i:Int)=((l.length - 1:Nat):Int))) && Hw (l.drop (i+1))):=by rw [← hk]; rfl
  rw [e];have a7:ae (fun F=>ec F (l,(i:Int),())) (if (fU p && (decide (p.1=4) == decide ((i:Int)=((l.length - 1:Nat):Int))))=true then .inl (l,((i+1:Nat):Int),()) else .inr (.inr (false,()))):=by
   unfold ec;refine ae.pos (by rw [abn]; simp only; omega) ?_;refine ae.bind (r:=((l,(i:Int), !(fU p && (decide (p.1=4) == decide ((i:Int)=((l.length - 1:Nat):Int)))),()):List PhT×Int×Bool×Unit)) (ae.bind (.of fun F=>hx) (ae.bind hr ?_)) ?_
   ·cases XI:fU p with
    | true=>exact .of fun F=>by simp [Ta,hx]
    | false=>exact .of fun F=>by simp
   ·cases XI:(fU p && (decide (p.1=4) == decide ((i:Int)=((l.length - 1:Nat):Int)))) with
    | true=>exact ae.neg (by simp) (.of fun F=>by simp [hw])
    | false=>exact ae.pos (by simp) (.of fun F=>by simp)
  cases XI:(fU p && (decide (p.1=4) == decide ((i:Int)=((l.length - 1:Nat):Int)))) with
  | true =>
   rw [XI,if_pos rfl] at a7;rw [Bool.true_and];exact af.step a7 ih
  | false =>
   rw [XI,if_neg abw] at a7;rw [Bool.false_and,if_neg abw];exact af.fin a7
theorem OQ (l:List PhT) (hl:l.length≤1000000) (hb : ∀ p∈l,Cr p):ae (fun F=>fq F l) (nR l):=by
 unfold fq nR;refine ae.bind (r:=((l, !(decide (1≤l.length) && decide (l.length≤5)),()):List PhT×Bool×Unit)) (.of fun F => ?_) ?_
 ·by_cases h0:l.length=0
  ·rw [if_neg (by rw [abt (by omega)]; decide),abu (by omega)]
   rfl
  ·rw [if_pos (abu (by omega)),abt (by omega:1≤l.length),Bool.true_and]
   by_cases h5:l.length≤5
   ·rw [abu (by omega),abt h5]; rfl
   ·rw [abt (by omega),abu h5]; rfl
 cases hc:(decide (1≤l.length) && decide (l.length≤5)) with
 | false=>exact ae.pos rfl (.ret _)
 | true =>
  refine ae.neg (by simp) ?_;have h:=Dl l hl hb l.length 0 (by omega);rw [List.drop_zero] at h;refine ae.bind h.run ?_;rw [Bool.true_and];cases Hw l <;> exact .ret _
theorem Gb (F:Nat) (x:By) (h:x.length≤1000):dW F x=some (iR x):=by
 unfold dW iR;by_cases hx:x = []
 ·rw [if_pos (abt hx),if_pos hx]
 ·rw [if_neg (by rw [abn]; exact hx),if_neg hx,if_pos (by rw [abn]; simp only [List.length_singleton]; omega)]
  rfl
theorem Dj (p:PhT) (h:fU p=true):ae (fun F=>cz F p) (ax p):=by
 have big : ∀ {a b:Nat},a+b≤100000→decide (a+b≤9223372036854775807)=true:=fun h=>abt (by omega)
 rcases kq h with ⟨n,rfl,h1,h2⟩ | ⟨nm,n,rfl,h3,h1,h2⟩ | ⟨nm,t,rfl,h2,h3⟩ | ⟨n,t,rfl,h1,h3⟩
 ·have hd:=pK (n:Int) (by unfold okN; omega)
  have hl:=lz n (by omega);unfold cz;refine ae.pos (by simp) (ae.bind hd ?_);exact ae.pos (big (by simp only [abp,List.length_nil]; omega)) (.of fun F=>rfl)
 ·have hd:=pK (n:Int) (by unfold okN; omega)
  have hl:=lz n h2;have hn:=xJ h3;unfold cz;refine ae.neg (by simp) (ae.pos (by simp) ?_);refine ae.bind (r:=((ax (2,nm,(n:Int),[],()),()):By×Unit)) ?_ (.ret _);refine ae.pos (big (by simp only [abp,List.length_nil]; omega)) ?_;refine ae.pos (big (by simp only [abr,abp,List.length_nil]; omega)) ?_;refine ae.bind hd ?_;refine ae.pos (big (by simp only [abr,abp,List.length_nil]; omega)) (.of fun F => ?_);show some ([110,101,101,100,32] ++ nm ++ [32] ++ itoa (n:Int),())=some (sd ++ 32 :: (nm ++ 32 :: itoa (n:Int)),());simp [List.append_assoc]
 ·have hn:=xJ h2
  have ht:=ni h3;have Qp:=tG t;unfold cz;refine ae.neg (by simp) (ae.neg (by simp) (ae.pos (by simp) ?_));refine ae.bind (r:=((ax (3,nm,0,t,()),()):By×Unit)) ?_ (.ret _);refine ae.pos (big (by simp only [abp,List.length_nil]; omega)) ?_;refine ae.bind (.of fun F=>Gb F t (by omega)) ?_;refine ae.pos (big (by simp only [abr,abp,List.length_nil]; omega)) (.of fun F => ?_);show some ([99,97,108,108,32] ++ nm ++ iR t,())=some (uH ++ 32 :: (nm ++ iR t),());simp [List.append_assoc]
 ·have hd:=pK (n:Int) (by unfold okN; omega)
  have hl:=lz n (by omega);have ht:=ni h3;have Qp:=tG t;unfold cz;refine ae.neg (by simp) (ae.neg (by simp) (ae.neg (by simp) ?_));refine ae.bind (r:=((ax (4,[],(n:Int),t,()),()):By×Unit)) ?_ (.ret _);refine ae.bind hd ?_;refine ae.pos (big (by simp only [abp,List.length_nil]; omega)) ?_;refine ae.bind (.of fun F=>Gb F t (by omega)) ?_;refine ae.pos (big (by simp only [abr,abp,List.length_nil]; omega)) (.of fun F => ?_);show some ([101,110,100,32] ++ itoa (n:Int) ++ iR t,())=some (xS ++ 32 :: (itoa (n:Int) ++ iR t),());simp [List.append_assoc]
theorem yB (l:List PhT) (hl:l.length≤1000) (hr : ∀ p∈l,fU p=true) : ∀ (n i:Nat) (out:By),i+n=l.length→1≤i→out.length≤1000 * i→af bB (l,out,(i:Int),()) (out ++ Lib.joinTail [59,32] ((l.drop i).map ax),())
 | 0,i,out,h,h1,ho=>by
  refine af.fin (.of fun F => ?_);unfold bB;rw [if_neg (by rw [abn]; simp only; omega),List.drop_eq_nil_of_le (by omega)];show some (Sum.inr (out,()))=some (Sum.inr (out ++ [],()));rw [List.append_nil]
 | n+1,i,out,h,h1,ho=>by
  have hi:i<l.length:=by omega
  have hx:idx l (i:Int)=some l[i]:=bc _ _ _ (List.getElem?_eq_getElem hi);have hw:IntKind.i64.wrap ((i:Int)+1)=((i+1:Nat):Int):=by rw [wrap64 _ (by omega) (by omega)]; omega
  have uA:=hr l[i] (List.getElem_mem hi);rw [List.drop_eq_getElem_cons hi,List.map_cons];generalize l[i]=p at *
  have ht:=Dj p uA;have Qp:=oI uA;have ih:=yB l hl hr n (i+1) (out ++ [59,32] ++ ax p) (by omega) (by omega) (by simp only [abr,abp,List.length_nil]; omega);have e:out ++ Lib.joinTail [59,32] (ax p :: (l.drop (i+1)).map ax)=out ++ [59,32] ++ ax p ++ Lib.joinTail [59,32] ((l.drop (i+1)).map ax):=by
   show out ++ ([59,32] ++ ax p ++ Lib.joinTail [59,32] ((l.drop (i+1)).map ax)) = _;simp only [List.append_assoc]
  rw [e];refine af.step ?_ ih;unfold bB;refine ae.pos (by rw [abn]; simp only; omega) ?_;refine ae.bind (r:=((l,out ++ [59,32],(i:Int),()):List PhT×By×Int×Unit)) (ae.pos (by rw [abn]; simp only; omega) (ae.pos (by rw [abn]; simp only [abp,List.length_nil]; omega) (.ret _))) ?_;refine ae.bind (.of fun F=>hx) ?_;refine ae.bind ht ?_;refine ae.pos (by rw [abn]; simp only [abr,abp,List.length_nil]; omega) (.of fun F => ?_);simp only [hw]
theorem GC (l:List PhT) (hl:l.length≤1000) (hr : ∀ p∈l,fU p=true):ae (fun F=>cV F l) (eE l):=by
 unfold cV;cases l with
 | nil =>
  have:af bB (([]:List PhT),([]:By),0,()) (([]:By),()):=af.fin (.of fun F=>rfl);exact ae.bind this.run (.ret _)
 | cons p r =>
  rw [abp] at hl;have uA:=hr p (List.mem_cons_self ..);have ht:=Dj p uA;have Qp:=oI uA;have hw:IntKind.i64.wrap ((0:Int)+1)=((1:Nat):Int):=by rw [wrap64 _ (by omega) (by omega)]; rfl
  have hx:idx (p :: r) 0=some p:=bc _ 0 _ rfl;have h:=yB (p :: r) (by rw [abp]; omega) hr r.length 1 (ax p) (by rw [abp]; omega) (Nat.le_refl _) (by omega);have hs:af bB (p :: r,([]:By),0,()) (eE (p :: r),()):=by
   rw [oC];refine af.step ?_ h;unfold bB;refine ae.pos (by rw [abn]; simp only [abp]; omega) ?_;refine ae.bind (r:=((p :: r,[],0,()):List PhT×By×Int×Unit)) (ae.neg (by simp) (.ret _)) ?_;refine ae.bind (.of fun F=>hx) ?_;refine ae.bind ht ?_;refine ae.pos (by rw [abn]; simp only [List.length_nil]; omega) (.of fun F => ?_);simp only [hw,List.nil_append]
  exact ae.bind hs.run (.ret _)
end Go.Vm
namespace Go.Vm
open Go.Proofs
open Go.Lib (decDigits itoa)
theorem C0 (s p q:By) (hs:s=p ++ 32 :: q) (hp : ∀ b∈p,b≠32) (hl:s.length≤1000000) : ∀ (n i:Nat),i+n=p.length→af bI (s,(i:Int),()) (.inr (p,q,()))
 | 0,i,h=>by
  have QE:s.length=p.length+1+q.length:=by rw [hs,abr,abp]; omega
  have Tb:i=p.length:=by omega
  have hx:idx s (i:Int)=some 32:=bc _ _ _ (by rw [hs,Tb,List.getElem?_append_right (Nat.le_refl _),Nat.sub_self]; rfl);have hw:IntKind.i64.wrap ((i:Int)+1)=((i+1:Nat):Int):=by rw [wrap64 _ (by omega) (by omega)]; omega
  have s1:sub s 0 (i:Int)=some p:=by
   have:=j4 s 0 i (Nat.zero_le _) (by omega);rw [List.drop_zero,Nat.sub_zero,Tb] at this;rw [Tb];refine (this:sub s 0 (p.length:Int) = _).trans ?_;rw [hs,List.take_left]
  have s2:sub s ((i+1:Nat):Int) (s.length:Int)=some q:=by
   have:=eV s (i+1) (by omega);rw [this,Tb,hs];congr 1;rw [show p ++ 32 :: q=(p ++ [32]) ++ q by simp,List.drop_left' (by simp)]
  refine af.fin (.of fun F => ?_);unfold bI;rw [if_pos (by rw [abn]; simp only; omega)];simp only [hx,abo];rw [if_pos (by rfl)];simp only [s1,hw,s2,abo]
 | n+1,i,h=>by
  have QE:s.length=p.length+1+q.length:=by rw [hs,abr,abp]; omega
  have hi:i<p.length:=by omega
  have hx:idx s (i:Int)=some p[i]:=bc _ _ _ (by rw [hs,List.getElem?_append_left hi,List.getElem?_eq_getElem hi]);have hc:=hp p[i] (List.getElem_mem hi);have hw:IntKind.i64.wrap ((i:Int)+1)=((i+1:Nat):Int):=by rw [wrap64 _ (by omega) (by omega)]; omega
  have n32:((p[i].toNat:Int)=32)=(p[i]=32):=nvB p[i] 32;refine af.step (.of fun F => ?_) (C0 s p q hs hp hl n (i+1) (by omega));unfold bI;rw [if_pos (by rw [abn]; simp only; omega)];simp only [hx,abo,n32,abu hc,abq,if_false,hw]
theorem AR (s:By) (hp : ∀ b∈s,b≠32) (hl:s.length≤1000000) : ∀ (n i:Nat),i+n=s.length→af bI (s,(i:Int),()) (.inl (s,()))
 | 0,i,h=>by
  refine af.fin (.of fun F => ?_);unfold bI;rw [if_neg (by rw [abn]; simp only; omega)]
 | n+1,i,h=>by
  have hi:i<s.length:=by omega
  have hx:idx s (i:Int)=some s[i]:=bc _ _ _ (List.getElem?_eq_getElem hi);have hc:=hp s[i] (List.getElem_mem hi);have hw:IntKind.i64.wrap ((i:Int)+1)=((i+1:Nat):Int):=by rw [wrap64 _ (by omega) (by omega)]; omega
  have n32:((s[i].toNat:Int)=32)=(s[i]=32):=nvB s[i] 32;refine af.step (.of fun F => ?_) (AR s hp hl n (i+1) (by omega));unfold bI;rw [if_pos (by rw [abn]; simp only; omega)];simp only [hx,abo,n32,abu hc,abq,if_false,hw]
theorem Kr (s:By) (hl:s.length≤1000000):ae (fun F=>eT F s) (cF s):=by
 unfold eT cF;rcases CN 32 s with ⟨p,q,hs,hp,hc⟩ | ⟨hp,hc⟩
 ·rw [hc]
  have h:=C0 s p q hs hp hl p.length 0 (by omega);exact ae.bind h.run (.ret _)
 ·rw [hc]
  have h:=AR s hp hl s.length 0 (by omega);exact ae.bind h.run (.ret _)
def CD (acc:Nat):By→Int×Unit ⊕ Int×Unit
 | [] => .inl ((acc:Int),())
 | c :: r=>if ba c=true∧acc≤1073741824 then CD (acc * 10+(c.toNat - 48)) r else .inr (0,())
theorem Da : ∀ (l:By) (acc:Nat),cg (CD acc l) (fun v=>v.1) (fun v=>v.1)=(uP acc l:Int)
 | [],acc=>rfl
 | c :: r,acc=>by
  unfold CD uP;by_cases h:ba c=true∧acc≤1073741824
  ·rw [if_pos h,if_pos h]; exact Da r _
  ·rw [if_neg h,if_neg h]; rfl
theorem w6 (s:By) (hl:s.length≤1000000) : ∀ (n i acc:Nat),i+n=s.length→acc≤11000000000→af cN (s,(acc:Int),(i:Int),()) (CD acc (s.drop i))
 | 0,i,acc,h,ha=>by
  refine af.fin (.of fun F => ?_);unfold cN;rw [if_neg (by rw [abn]; simp only; omega),List.drop_eq_nil_of_le (by omega)];rfl
 | n+1,i,acc,h,ha=>by
  have hi:i<s.length:=by omega
  have hx:idx s (i:Int)=some s[i]:=bc _ _ _ (List.getElem?_eq_getElem hi);have hw:IntKind.i64.wrap ((i:Int)+1)=((i+1:Nat):Int):=by rw [wrap64 _ (by omega) (by omega)]; omega
  have ih:=fun acc=>w6 s hl n (i+1) acc (by omega)
  rw [List.drop_eq_getElem_cons hi];generalize s[i]=c at *
  have aM:=c.toNat_lt;have e3:ba c=(decide (48≤c.toNat) && decide (c.toNat≤57)):=rfl;unfold CD;have a7 : ∀ F,cN F (s,(acc:Int),(i:Int),())=if ba c=true∧acc≤1073741824 then some (.inl (s,((acc * 10+(c.toNat - 48):Nat):Int),((i+1:Nat):Int),())) else some (.inr (.inr (0,()))):=by
   intro F;unfold cN;rw [if_pos (by rw [abn]; simp only; omega)];by_cases c1:48≤c.toNat
   ·have c1' : ¬ (c.toNat:Int)<48:=by omega
    by_cases c2:c.toNat≤57
    ·have c2' : ¬ (57:Int)<(c.toNat:Int):=by omega
     by_cases c3:acc≤1073741824
     ·have c3' : ¬ (1073741824:Int)<(acc:Int):=by omega
      have w1:IntKind.i64.wrap ((acc:Int) * 10)=(acc:Int) * 10:=wrap64 _ (by omega) (by omega);have w2:IntKind.i64.wrap (c.toNat:Int)=(c.toNat:Int):=wrap64 _ (by omega) (by omega);have w3:IntKind.i64.wrap ((acc:Int) * 10+(c.toNat:Int))=(acc:Int) * 10+(c.toNat:Int):=wrap64 _ (by omega) (by omega);have w4:IntKind.i64.wrap ((acc:Int) * 10+(c.toNat:Int) - 48)=((acc * 10+(c.toNat - 48):Nat):Int):=by rw [wrap64 _ (by omega) (by omega)]; omega
      rw [if_pos ⟨by rw [e3,abt c1,abt c2]; rfl,c3⟩];simp only [hx,abo,abu c1',abu c2',abu c3',if_true,abq,if_false,w1,w2,w3,w4,hw]
     ·have c3':(1073741824:Int)<(acc:Int):=by omega
      rw [if_neg (fun hh=>c3 hh.2)];simp only [hx,abo,abu c1',abu c2',abt c3',if_true,abq,if_false]
    ·have c2':(57:Int)<(c.toNat:Int):=by omega
     rw [if_neg (fun hh=>by have:=hh.1; rw [e3,abu c2,Bool.and_false] at this; cases this)];simp only [hx,abo,abu c1',abt c2',if_true,Bool.true_eq_false,if_false]
   ·have c1':(c.toNat:Int)<48:=by omega
    rw [if_neg (fun hh=>by have:=hh.1; rw [e3,abu c1,Bool.false_and] at this; cases this)];simp only [hx,abo,abt c1',if_true,Bool.true_eq_false,if_false]
  by_cases hc:ba c=true∧acc≤1073741824
  ·rw [if_pos hc]
   refine af.step (.of fun F=>(a7 F).trans (if_pos hc)) (ih _ (by omega))
  ·rw [if_neg hc]
   exact af.fin (.of fun F=>(a7 F).trans (if_neg hc))
theorem xD (s:By) (hl:s.length≤1000000):ae (fun F=>cI F s) ((uP 0 s:Nat):Int):=by
 unfold cI;have h:=w6 s hl s.length 0 0 (by omega) (by omega);rw [List.drop_zero] at h;refine ae.bind h.run ?_;rw [← Da];refine .of fun F => ?_
 cases CD 0 s <;> rfl
theorem RZ (s:By) (hl:s.length≤100000):ae (fun F=>gu F s) (jE s):=by
 unfold gu jE;have h1:=(lM s [32]).2;refine ae.bind (Kr s (by omega)) ?_;have e1:(cF s).2.length≤s.length:=h1;generalize cF s=w at *
 obtain ⟨kind,rest⟩:=w;simp only at e1 ⊢
 by_cases k1:kind=uN
 ·rw [if_pos k1]
  exact ae.pos (abt k1) (ae.bind (xD rest (by omega)) (.ret _))
 rw [if_neg k1];refine ae.neg (by rw [abn]; exact k1) ?_;refine ae.bind (Kr rest (by omega)) ?_;have e2:(cF rest).1.length≤rest.length∧(cF rest).2.length≤rest.length:=lM rest [32];generalize cF rest=w at *
 obtain ⟨one,behind⟩:=w;simp only at e2 ⊢
 by_cases k2:kind=sd
 ·rw [if_pos k2]
  exact ae.pos (abt k2) (ae.bind (xD behind (by omega)) (.ret _))
 rw [if_neg k2];refine ae.neg (by rw [abn]; exact k2) ?_;by_cases k3:kind=uH
 ·rw [if_pos k3]
  exact ae.pos (abt k3) (.ret _)
 rw [if_neg k3];refine ae.neg (by rw [abn]; exact k3) ?_;by_cases k4:kind=xS
 ·rw [if_pos k4]
  exact ae.pos (abt k4) (ae.bind (xD one (by omega)) (.ret _))
 ·rw [if_neg k4]
  exact ae.neg (by rw [abn]; exact k4) (.ret _)
theorem MN (x:By) (h:x.length≤1000):Cr (jE x):=by
 have h1:(cF x).1.length≤x.length∧(cF x).2.length≤x.length:=lM x [32];have h2:(cF (cF x).2).1.length≤(cF x).2.length∧(cF (cF x).2).2.length≤(cF x).2.length:=lM _ [32];unfold jE;split
 ·exact ⟨Nat.zero_le _,Nat.zero_le _⟩
 split
 ·exact ⟨by simp only; omega,Nat.zero_le _⟩
 split
 ·exact ⟨by simp only; omega,by simp only; omega⟩
 split
 ·exact ⟨Nat.zero_le _,by simp only; omega⟩
 ·exact ⟨Nat.zero_le _,Nat.zero_le _⟩
abbrev RpR:=By×Unit×List PhT×Unit ⊕ Unit×Bool×List PhT×Unit
def rpF (s:By):Option (List PhT)→RpR
 | some l => .inl (s,(),l,())
 | none => .inr ((),false,[],())
theorem tc (s:By) (hs:s.length≤1000) : ∀ (n i a:Nat) (out:List PhT),i+n=s.length+1→a≤s.length→out.length≤6→af bm (s,(),(a:Int),(i:Int),out,()) (rpF s (mH s n i a out))
 | 0,i,a,out,h,ha,ho=>by
  refine af.fin (.of fun F => ?_);unfold bm;rw [if_neg (by rw [abn]; simp only; omega)];rfl
 | n+1,i,a,out,h,ha,ho=>by
  have hw:IntKind.i64.wrap ((i:Int)+1)=((i+1:Nat):Int):=by rw [wrap64 _ (by omega) (by omega)]; omega
  have hw2:IntKind.i64.wrap ((i:Int)+2)=((i+2:Nat):Int):=by rw [wrap64 _ (by omega) (by omega)]; omega
  have h1 : ∀ F:Nat,(if decide ((i:Int)≤(s.length:Int))=true then some (s,(),(a:Int),(i:Int),decide ((out.length:Int)<6),out,()) else some (s,(),(a:Int),(i:Int),false,out,()):Option (By×Unit×Int×Int×Bool×List PhT×Unit))=some (s,(),(a:Int),(i:Int),decide ((out.length:Int)<6),out,()):=fun _=>if_pos (by rw [abn]; omega)
  unfold mH;by_cases h6:6≤out.length
  ·rw [if_pos h6]
   refine af.fin (.of fun F => ?_);unfold bm;simp only [h1 F,abo];rw [if_neg (by rw [abn]; omega)];rfl
  rw [if_neg h6];have Zb:decide ((out.length:Int)<6)=true:=abt (by omega);have h2 : ∀ F:Nat,(if decide ((i:Int)=(s.length:Int))=false then (idx s (i:Int)).bind fun v2=>some (s,(),(a:Int),(i:Int),decide ((v2.toNat:Int)=59),out,()) else some (s,(),(a:Int),(i:Int),true,out,()):Option (By×Unit×Int×Int×Bool×List PhT×Unit))=some (s,(),(a:Int),(i:Int),decide (i=s.length∨s[i]? = some 59),out,()):=by
   intro F;by_cases hl:i=s.length
   ·rw [if_neg (by rw [abt (by omega)]; decide),abt (.inl hl)]
   ·have hi:i<s.length:=by omega
    have hx:idx s (i:Int)=some s[i]:=bc _ _ _ (List.getElem?_eq_getElem hi);rw [if_pos (abu (by omega)),hx,abo,List.getElem?_eq_getElem hi];have n59:((s[i].toNat:Int)=59)=(s[i]=59):=nvB s[i] 59;simp only [n59];by_cases hc:s[i]=59
    ·rw [abt hc,abt (.inr (by rw [hc]))]
    ·rw [abu hc,abu (by rintro (h | h); exact hl h; injection h with h; exact hc h)]
  by_cases hc:i=s.length∨s[i]? = some 59
  ·rw [if_pos hc]
   by_cases ZO:i<a
   ·rw [if_pos ZO]
    refine af.fin ?_;unfold bm;refine ae.bind (.of h1) (ae.pos Zb (ae.bind (.of h2) ?_));refine ae.bind (r:=(.inr ((),false,[],()):(By×Unit×Int×Int×List PhT×Unit) ⊕ (Unit×Bool×List PhT×Unit))) ?_ (.ret _);exact ae.pos (abt hc) (ae.pos (by rw [abn]; simp only; omega) (.ret _))
   rw [if_neg ZO];have HK:sub s (a:Int) (i:Int)=some ((s.drop a).take (i - a)):=j4 s a i (by omega) (by omega);have ux:((s.drop a).take (i - a)).length≤1000:=by simp only [List.length_take,List.length_drop]; omega
   have QM:=RZ ((s.drop a).take (i - a)) (by omega);generalize (s.drop a).take (i - a)=x at *
   have a7 : ∀ z,ae (fun F=>(if decide ((s.length:Int)<((i+2:Nat):Int))=true then some (Sum.inr (Sum.inl (s,(),out ++ [jE x],()))) else some (Sum.inl (s,(),((i+2:Nat):Int),((i+1:Nat):Int),out ++ [jE x],())):Option ((By×Unit×Int×Int×List PhT×Unit) ⊕ RpR))) z→ae (fun F=>bm F (s,(),(a:Int),(i:Int),out,())) z:=by
    intro z hz;unfold bm;refine ae.bind (.of h1) ?_;refine ae.pos Zb ?_;refine ae.bind (.of h2) ?_;refine ae.bind (r:=(.inl (s,(),((i+2:Nat):Int),(i:Int),out ++ [jE x],()):(By×Unit×Int×Int×List PhT×Unit) ⊕ (Unit×Bool×List PhT×Unit))) ?_ ?_
    ·refine ae.pos (abt hc) (ae.neg (by rw [abn]; simp only; omega) ?_)
     refine ae.bind (.of fun F=>HK) (ae.bind QM ?_);refine ae.pos (by rw [abn]; simp only [List.length_singleton]; omega) (.of fun F => ?_);simp only [hw2]
    ·refine hz.congr fun F => ?_
     simp only [aA,hw]
   by_cases ZP:s.length<i+2
   ·rw [if_pos ZP]
    refine af.fin (a7 _ (ae.pos (by rw [abn]; omega) (.ret _)))
   ·rw [if_neg ZP]
    refine af.step (a7 _ (ae.neg (by rw [abn]; omega) (.ret _))) ?_;exact tc s hs n (i+1) (i+2) (out ++ [jE x]) (by omega) (by omega) (by rw [abr,List.length_singleton]; omega)
  ·rw [if_neg hc]
   refine af.step ?_ (tc s hs n (i+1) a out (by omega) ha ho);unfold bm;refine ae.bind (.of h1) (ae.pos Zb (ae.bind (.of h2) ?_));refine ae.bind (r:=(.inl (s,(),(a:Int),(i:Int),out,()):(By×Unit×Int×Int×List PhT×Unit) ⊕ (Unit×Bool×List PhT×Unit))) (ae.neg (by rw [abn]; exact hc) (.ret _)) ?_;exact ae.neg (by rw [abn]; simp only; omega) (.of fun F=>by simp only [hw])
theorem xT (s:By) (hs:s.length≤1000) : ∀ (n i a:Nat) (out l:List PhT),(∀ p∈out,Cr p)→out.length≤6→mH s n i a out=some l→(∀ p∈l,Cr p)∧l.length≤7
 | 0,i,a,out,l,hb,ho,h=>by
  cases h;exact ⟨hb,by omega⟩
 | n+1,i,a,out,l,hb,ho,h=>by
  unfold mH at h;have pL : ∀ p∈out ++ [jE ((s.drop a).take (i - a))],Cr p:=by
   intro p hp;rcases List.mem_append.1 hp with hp | hp
   ·exact hb p hp
   ·rw [List.mem_singleton] at hp
    subst hp;exact MN _ (by simp only [List.length_take,List.length_drop]; omega)
  split at h
  ·cases h; exact ⟨hb,by omega⟩
  split at h
  ·split at h
   ·cases h
   split at h
   ·cases h
    exact ⟨pL,by rw [abr,List.length_singleton]; omega⟩
   ·exact xT s hs n _ _ _ l pL (by rw [abr,List.length_singleton]; omega) h
  ·exact xT s hs n _ _ _ l hb ho h
def ow (s:By):List PhT×Bool:=match Jr s with
 | none=>([],false)
 | some l=>if nR l=true∧eE l=s then (l,true) else ([],false)
theorem P3 (s:By) (hs:s.length≤1000):ae (fun F=>eD F s) (ow s):=by
 unfold eD ow;have h:=tc s hs (s.length+1) 0 0 [] (by omega) (by omega) (Nat.zero_le _);refine ae.bind h.run ?_;have Zi:=xT s hs (s.length+1) 0 0 [];show ae _ (match mH s (s.length+1) 0 0 [] with
  | none=>([],false)
  | some l=>if nR l=true∧eE l=s then (l,true) else ([],false))
 cases hr:mH s (s.length+1) 0 0 [] with
 | none=>exact .ret _
 | some l =>
  obtain ⟨b1,b2⟩:=Zi l (fun p hp=>by cases hp) (Nat.zero_le _) hr;have hm:=OQ l (by omega) b1;show ae _ (if nR l=true∧eE l=s then (l,true) else ([],false));by_cases QN:nR l=true
  ·have hp:=GC l (by omega) (ly QN).1
   rw [QN] at hm;by_cases he:eE l=s
   ·rw [if_pos ⟨QN,he⟩]
    refine ae.bind (r:=(((),false,l,()):Unit×Bool×List PhT×Unit)) (ae.bind hm (ae.pos rfl (ae.bind hp (.of fun F => ?_)))) (ae.neg abw (.ret _));show some ((), !decide (eE l=s),l,()) = _;rw [abt he];rfl
   ·rw [if_neg (fun hh=>he hh.2)]
    refine ae.bind (r:=(((),true,l,()):Unit×Bool×List PhT×Unit)) (ae.bind hm (ae.pos rfl (ae.bind hp (.of fun F => ?_)))) (ae.pos rfl (.ret _));show some ((), !decide (eE l=s),l,()) = _;rw [abu he];rfl
  ·have CA:nR l=false:=by simpa using QN
   rw [CA] at hm;rw [if_neg (fun hh=>QN hh.1)];exact ae.bind (r:=(((),true,l,()):Unit×Bool×List PhT×Unit)) (ae.bind hm (ae.neg (by decide) (.ret _))) (ae.pos rfl (.ret _))
theorem Cu (l:List PhT) (h:nR l=true):ow (eE l)=(l,true):=by
 unfold ow;rw [Hh l h];exact if_pos ⟨h,rfl⟩
end Go.Vm
