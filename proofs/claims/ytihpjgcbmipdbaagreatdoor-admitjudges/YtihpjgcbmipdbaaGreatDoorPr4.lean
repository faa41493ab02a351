import Derived.Test.YtihpjgcbmipdbaaGreatDoorPg7
set_option linter.unusedVariables false
set_option linter.unusedSimpArgs false
namespace Go.Vm
open Go.Proofs
def LF (c:By):List By→List By
 | [] => []
 | p :: ps=>(c ++ p) :: ps
theorem G6 (l:List By):LF [] l=l:=by cases l <;> rfl
theorem yH (s:By) (hs:s.length≤1000) : ∀ (n i a:Nat) (out:List By),i+n=s.length+1→1≤n→a≤i→out.length≤i→af b8 (s,(),(a:Int),(i:Int),out,()) ((),out ++ LF ((s.drop a).take (i - a)) (iV 47 (s.drop i)),())
 | 0,i,a,out,h,h1,ha,ho=>by omega
 | n+1,i,a,out,h,h1,ha,ho=>by
  have hw:IntKind.i64.wrap ((i:Int)+1)=((i+1:Nat):Int):=by rw [wrap64 _ (by omega) (by omega)]; omega
  have HK:sub s (a:Int) (i:Int)=some ((s.drop a).take (i - a)):=j4 s a i (by omega) (by omega);by_cases hl:i=s.length
  ·have hd:s.drop i = []:=List.drop_eq_nil_of_le (by omega)
   rw [hd,Hl];have e:LF ((s.drop a).take (i - a)) [[]] = [(s.drop a).take (i - a)]:=by show [(s.drop a).take (i - a) ++ []] = _; rw [List.append_nil]
   rw [e];refine af.step (x':=(s,(),((i+1:Nat):Int),((i+1:Nat):Int),out ++ [(s.drop a).take (i - a)],())) (.of fun F => ?_) (af.fin (.of fun F => ?_))
   ·unfold b8
    rw [if_pos (by rw [abn]; simp only; omega),if_neg (by rw [abt (by simp only; omega)]; exact Bool.noConfusion),abo];simp only [if_true,HK,abo];rw [if_pos (by rw [abn]; simp only [List.length_singleton]; omega)];simp only [abo,hw]
   ·unfold b8
    rw [if_neg (by rw [abn]; simp only; omega)]
  have hi:i<s.length:=by omega
  have hx:idx s (i:Int)=some s[i]:=bc _ _ _ (List.getElem?_eq_getElem hi);have n47:((s[i].toNat:Int)=47)=(s[i]=47):=nvB s[i] 47;have Cz:(s.drop a).take (i+1 - a)=(s.drop a).take (i - a) ++ [s[i]]:=by
   rw [show i+1 - a=(i - a)+1 by omega,List.take_add_one];congr 1;rw [List.getElem?_drop,show a+(i - a)=i by omega,List.getElem?_eq_getElem hi];rfl
  rw [List.drop_eq_getElem_cons hi];have ih:=fun a out=>yH s hs n (i+1) a out (by omega) (by omega)
  by_cases hc:s[i]=47
  ·have e:LF ((s.drop a).take (i - a)) (iV 47 (s[i] :: s.drop (i+1)))=(s.drop a).take (i - a) :: iV 47 (s.drop (i+1)):=by
    rw [hc,Ac];show ((s.drop a).take (i - a) ++ []) :: _ = _;rw [List.append_nil]
   rw [e];have ih2:=ih (i+1) (out ++ [(s.drop a).take (i - a)]) (Nat.le_refl _) (by rw [abr,List.length_singleton]; omega);rw [Nat.sub_self,List.take_zero,G6,List.append_assoc] at ih2;refine af.step (.of fun F => ?_) ih2;unfold b8;rw [if_pos (by rw [abn]; simp only; omega),if_pos (abu (by simp only; omega))];simp only [hx,abo,n47,abt hc,if_true,HK];rw [if_pos (by rw [abn]; simp only [List.length_singleton]; omega)];simp only [abo,hw]
  ·have e:LF ((s.drop a).take (i - a)) (iV 47 (s[i] :: s.drop (i+1)))=LF ((s.drop a).take (i+1 - a)) (iV 47 (s.drop (i+1))):=by
    cases FQ:iV 47 (s.drop (i+1)) with
    | nil=>exact absurd FQ (zU 47 _)
    | cons p ps =>
     rw [ve hc FQ,Cz];show ((s.drop a).take (i - a) ++ s[i] :: p) :: ps=((s.drop a).take (i - a) ++ [s[i]] ++ p) :: ps;rw [List.append_assoc];rfl
   rw [e];refine af.step (.of fun F => ?_) (ih a out (by omega) (by omega));unfold b8;rw [if_pos (by rw [abn]; simp only; omega),if_pos (abu (by simp only; omega))];simp only [hx,abo,n47,abu hc,abq,if_false,hw]
theorem AW (t:By) (h:t.length≤900):ae (fun F=>cW F (47 :: t)) (bG (47 :: t)):=by
 have e:bG (47 :: t)=if t = [] then [] else iV 47 t:=by unfold bG; simp
 unfold cW;rw [e];by_cases ht:t = []
 ·rw [if_pos ht]
  exact ae.pos (by rw [abn,ht]) (.ret _)
 ·rw [if_neg ht]
  refine ae.neg (by rw [abn]; intro hh; injection hh with _ hh; exact ht hh) ?_;have yo:=List.length_pos_iff.2 ht;have hl:=yH (47 :: t) (by rw [abp]; omega) (t.length+1) 1 1 [] (by rw [abp]; omega) (by omega) (Nat.le_refl _) (Nat.zero_le _);rw [Nat.sub_self,List.take_zero,G6,List.nil_append] at hl;exact ae.bind hl.run (.ret _)
theorem KE (x:By):ae (fun F=>eQ F x) (iT x):=by
 unfold eQ iT;refine ae.bind (wC x) (.of fun F => ?_);cases (gD x).2 <;> simp
theorem Df (l:List By) (hl:l.length≤1000000) (hx : ∀ x∈l,x.length≤1000000) : ∀ (n i:Nat),i+n=l.length→af cD (l,(i:Int),()) (if uq (l.drop i)=true then .inl () else .inr (false,()))
 | 0,i,h=>by
  refine af.fin (.of fun F => ?_);unfold cD;rw [if_neg (by rw [abn]; simp only; omega),List.drop_eq_nil_of_le (by omega)];rfl
 | n+1,i,h=>by
  have hi:i<l.length:=by omega
  have o6:idx l (i:Int)=some l[i]:=bc _ _ _ (List.getElem?_eq_getElem hi);have hw:IntKind.i64.wrap ((i:Int)+1)=((i+1:Nat):Int):=by rw [wrap64 _ (by omega) (by omega)]; omega
  have Ta:IntKind.i64.wrap ((l.length:Int) - 1)=((l.length - 1:Nat):Int):=by rw [wrap64 _ (by omega) (by omega)]; omega
  have ih:=Df l hl hx n (i+1) (by omega);have Qq:=hx l[i] (List.getElem_mem hi);have hd:(l.drop (i+1) = []) ↔ i=l.length - 1:=by rw [List.drop_eq_nil_iff]; omega
  rw [List.drop_eq_getElem_cons hi];generalize l[i]=x at *
  have hk:decide ((i:Int)=((l.length - 1:Nat):Int))=decide (l.drop (i+1) = []):=by
   rw [Bool.eq_iff_iff,abn,abn,hd]; omega
  have e:uq (x :: l.drop (i+1))=((decide (x = [42]) || (decide (x = [42,42]) && decide (l.drop (i+1) = [])) || (decide (x ≠ []) && iT (47 :: x))) && uq (l.drop (i+1))):=rfl;rw [e];generalize hB:(decide (x = [42]) || (decide (x = [42,42]) && decide (l.drop (i+1) = [])) || (decide (x ≠ []) && iT (47 :: x)))=B;have a7:ae (fun F=>cD F (l,(i:Int),())) (if B=true then .inl (l,((i+1:Nat):Int),()) else .inr (.inr (false,()))):=by
   unfold cD;refine ae.pos (by rw [abn]; simp only; omega) ?_;refine ae.bind (r:=(if B=true then .inl (l,(i:Int),()) else .inr (false,()):(List By×Int×Unit) ⊕ (Bool×Unit))) ?_ ?_
   ·refine ae.bind (r:=((l,(i:Int),decide (x = [42]) || (decide (x = [42,42]) && decide (l.drop (i+1) = [])),()):List By×Int×Bool×Unit)) (ae.bind (.of fun F=>o6) (.of fun F => ?_)) ?_
    ·by_cases c1:x = [42]
     ·rw [if_neg (by rw [abt c1]; exact Bool.noConfusion),abt c1]
      rfl
     ·rw [if_pos (abu c1),abu c1,Bool.false_or]
      simp only [o6,abo];by_cases c2:x = [42,42]
      ·rw [if_pos (abt c2),Ta,hk,abt c2,Bool.true_and]
      ·rw [if_neg (by rw [abn]; exact c2),abu c2,Bool.false_and]
    cases ym:(decide (x = [42]) || (decide (x = [42,42]) && decide (l.drop (i+1) = []))) with
    | true =>
     have:B=true:=by rw [← hB,ym]; rfl
     rw [if_pos this];exact ae.pos rfl (.ret _)
    | false =>
     rw [ym,Bool.false_or] at hB;refine ae.neg abw ?_;refine ae.bind (r:=((l,(i:Int), !B,()):List By×Int×Bool×Unit)) (ae.bind (.of fun F=>o6) ?_) ?_
     ·by_cases c3:x = []
      ·have:B=false:=by rw [← hB,abu (fun hh=>hh c3)]; rfl
       rw [this];exact ae.neg (by rw [abt c3]; exact Bool.noConfusion) (.ret _)
      ·have Y9:B=iT (47 :: x):=by rw [← hB,abt c3,Bool.true_and]
       rw [Y9];refine ae.pos (abu c3) (ae.bind (.of fun F=>o6) (ae.pos (by rw [abn]; simp only [List.length_singleton]; omega) ?_));exact ae.bind (KE (47 :: x)) (.ret _)
     ·cases B with
      | true=>exact ae.neg abw (.ret _)
      | false=>exact ae.pos rfl (.ret _)
   ·cases B with
    | true=>exact .of fun F=>by simp only [if_true,aA,hw]
    | false=>exact .of fun F=>rfl
  cases B with
  | true =>
   rw [if_pos rfl] at a7;rw [Bool.true_and];exact af.step a7 ih
  | false =>
   rw [if_neg abw] at a7;rw [Bool.false_and,if_neg abw];exact af.fin a7
theorem Bv (x:By) (h:x.length≤900):ae (fun F=>dM F x) (lb x):=by
 unfold dM lb;cases x with
 | nil =>
  exact ae.bind (r:=(([],true,()):By×Bool×Unit)) (.of fun F=>rfl) (ae.bind (r:=(([],true,()):By×Bool×Unit)) (.of fun F=>rfl) (ae.pos rfl (.ret _)))
 | cons c t =>
  have ib:decide ((c :: t:By) ≠ [])=true:=abt (by simp);rw [ib,Bool.true_and];refine ae.bind (r:=((c :: t, !decide ((c :: t).length≤60),()):By×Bool×Unit)) (.of fun F => ?_) ?_
  ·rw [if_pos (abu (by simp only [abp]; omega))]
   by_cases h6:(c :: t).length≤60
   ·rw [abt h6,abu (by omega)]; rfl
   ·rw [abu h6,abt (by omega)]; rfl
  have hi:idx (c :: t:By) 0=some c:=bc _ 0 _ rfl;have n47:((c.toNat:Int)=47)=(c=47):=nvB c 47;have hh:decide ((c :: t:By).head? = some 47)=decide (c=47):=by rw [Bool.eq_iff_iff]; simp
  rw [hh];refine ae.bind (r:=((c :: t, !(decide ((c :: t).length≤60) && decide (c=47)),()):By×Bool×Unit)) (.of fun F => ?_) ?_
  ·cases h6:decide ((c :: t).length≤60) with
   | true =>
    rw [if_pos (show (!true)=false from rfl)];simp only [hi,abo,n47,Bool.true_and]
   | false=>rfl
  cases h7:(decide ((c :: t).length≤60) && decide (c=47)) with
  | false =>
   rw [Bool.false_and];exact ae.pos rfl (.ret _)
  | true =>
   rw [Bool.true_and];rw [abv,abn,abn] at h7;obtain ⟨_,rfl⟩:=h7;refine ae.neg abw ?_;rw [abp] at h;refine ae.bind (AW t (by omega)) ?_;obtain ⟨h1,h2⟩:=nq (47 :: t) (by rw [abp]; omega);have hl:=Df (bG (47 :: t)) (by omega) (fun p hp=>by have:=h2 p hp; omega) (bG (47 :: t)).length 0 (by omega);rw [List.drop_zero] at hl;refine ae.bind hl.run ?_;cases uq (bG (47 :: t)) <;> exact .ret _
def CI (a0 b0:List By):List By→List By→List By×List By×Unit ⊕ Bool×Unit
 | [],b => .inl (a0,b0,())
 | _ :: _,[] => .inr (false,())
 | x :: l,y :: b=>if x = [42,42] then .inr (true,()) else if x = [42]∨x=y then CI a0 b0 l b else .inr (false,())
theorem Dr (a0 b0:List By) : ∀ (l b:List By),(a0.length:Int) - l.length=(b0.length:Int) - b.length→cg (CI a0 b0 l b) (fun v=>decide ((v.1.length:Int)=(v.2.1.length:Int))) (fun v=>v.1)=BE l b
 | [],b,h=>by
  show decide ((a0.length:Int)=(b0.length:Int))=decide (b = []);rw [Bool.eq_iff_iff,abn,abn];simp only [List.length_nil] at h;constructor
  ·intro hh
   exact List.length_eq_zero_iff.1 (by omega)
  ·rintro rfl
   simp only [List.length_nil] at h;omega
 | _ :: _,[],h=>rfl
 | x :: l,y :: b,h=>by
  unfold CI BE;by_cases c1:x = [42,42]
  ·rw [if_pos c1,if_pos c1]; rfl
  rw [if_neg c1,if_neg c1];by_cases c2:x = [42]∨x=y
  ·rw [if_pos c2,if_pos c2]
   simp only [abp] at h;exact Dr a0 b0 l b (by omega)
  ·rw [if_neg c2,if_neg c2]; rfl
theorem Aj (a b:List By) (ha:a.length≤1000000) (hb:b.length≤1000000) : ∀ (n i:Nat),i+n=a.length→i≤b.length→af bH (a,b,(i:Int),()) (CI a b (a.drop i) (b.drop i))
 | 0,i,h,X2=>by
  refine af.fin (.of fun F => ?_);unfold bH;rw [if_neg (by rw [abn]; simp only; omega),List.drop_eq_nil_of_le (by omega:a.length≤i)];rfl
 | n+1,i,h,X2=>by
  have hi:i<a.length:=by omega
  have o6:idx a (i:Int)=some a[i]:=bc _ _ _ (List.getElem?_eq_getElem hi);have hw:IntKind.i64.wrap ((i:Int)+1)=((i+1:Nat):Int):=by rw [wrap64 _ (by omega) (by omega)]; omega
  rw [List.drop_eq_getElem_cons hi];have ih:=Aj a b ha hb n (i+1) (by omega);generalize a[i]=x at *
  by_cases aM:i<b.length
  ·have hy0:idx b (i:Int)=some b[i]:=bc _ _ _ (List.getElem?_eq_getElem aM)
   rw [List.drop_eq_getElem_cons aM];generalize b[i]=y at *
   unfold CI;by_cases c1:x = [42,42]
   ·rw [if_pos c1]
    refine af.fin (.of fun F => ?_);unfold bH;rw [if_pos (by rw [abn]; simp only; omega)];simp only [o6,abo];rw [if_pos (abt c1),abt (by omega)]
   rw [if_neg c1];have hc : ∀ F:Nat,(if decide ((b.length:Int)≤(i:Int))=false then (idx a (i:Int)).bind fun v7=>if (!decide (v7 = [42]))=true then (idx a (i:Int)).bind fun v8=>(idx b (i:Int)).bind fun v9=>some (a,b,(i:Int), !decide (v8=v9),()) else some (a,b,(i:Int),false,()) else some (a,b,(i:Int),true,()):Option (List By×List By×Int×Bool×Unit))=some (a,b,(i:Int), !decide (x = [42]∨x=y),()):=by
    intro F;rw [if_pos (abu (by omega)),o6,abo];by_cases c2:x = [42]
    ·rw [if_neg (by rw [abt c2]; decide),abt (.inl c2)]; rfl
    ·rw [if_pos (by rw [abu c2]; rfl),abo,hy0,abo]
     by_cases c3:x=y
     ·rw [abt c3,abt (.inr c3)]
     ·rw [abu c3,abu (by rintro (hh | hh); exact c2 hh; exact c3 hh)]
   by_cases c2:x = [42]∨x=y
   ·rw [if_pos c2]
    refine af.step ?_ (ih (by omega));unfold bH;refine ae.pos (by rw [abn]; simp only; omega) (ae.bind (.of fun F=>o6) (ae.neg (by rw [abn]; exact c1) (ae.bind (.of hc) (ae.neg (by rw [abt c2]; exact abw) (.of fun F => ?_)))));simp only [hw]
   ·rw [if_neg c2]
    refine af.fin ?_;unfold bH;exact ae.pos (by rw [abn]; simp only; omega) (ae.bind (.of fun F=>o6) (ae.neg (by rw [abn]; exact c1) (ae.bind (.of hc) (ae.pos (by rw [abu c2]; rfl) (.ret _)))))
  ·rw [List.drop_eq_nil_of_le (by omega:b.length≤i)]
   show af _ _ (Sum.inr (false,()));refine af.fin (.of fun F => ?_);unfold bH;rw [if_pos (by rw [abn]; simp only; omega)];simp only [o6,abo];by_cases c1:x = [42,42]
   ·rw [if_pos (abt c1),abu (by omega)]
   ·rw [if_neg (by rw [abn]; exact c1),if_neg (by rw [abt (by omega)]; exact Bool.noConfusion)]
    rfl
theorem MY {s:By} (h:iT s=true) : ∃ t,s=47 :: t:=by
 unfold iT at h;rw [abv] at h;cases s with
 | nil=>exact absurd h.1 abw
 | cons c t =>
  by_cases hc:c=47
  ·exact ⟨t,by rw [hc]⟩
  ·rw [ki (.inr hc)] at h
   exact absurd h.1 abw
theorem NW {s:By} (h:lb s=true) : ∃ t,s=47 :: t:=by
 unfold lb at h;simp only [abv,abn] at h;cases s with
 | nil=>exact absurd rfl h.1.1.1
 | cons c t =>
  have:c=47:=by simpa using h.1.2
  exact ⟨t,by rw [this]⟩
theorem Rm (p s:By) (hp:p.length≤900) (hs:s.length≤900):ae (fun F=>gq F (p,s)) (rj p s):=by
 unfold gq rj;refine ae.bind (r:=((p,s, !(lb p && iT s),()):By×By×Bool×Unit)) (ae.bind (Bv p hp) ?_) ?_
 ·cases lb p with
  | true=>exact ae.pos rfl (ae.bind (KE s) (.ret _))
  | false=>exact ae.neg (by decide) (.ret _)
 cases hb:(lb p && iT s) with
 | false =>
  rw [Bool.false_and];exact ae.pos rfl (.ret _)
 | true =>
  rw [Bool.true_and];rw [abv] at hb;obtain ⟨t,rfl⟩:=NW hb.1;obtain ⟨t',rfl⟩:=MY hb.2;rw [abp] at hp hs;refine ae.neg abw ?_;refine ae.bind (AW t (by omega)) (ae.bind (AW t' (by omega)) ?_);obtain ⟨h1,_⟩:=nq (47 :: t) (by rw [abp]; omega);obtain ⟨h2,_⟩:=nq (47 :: t') (by rw [abp]; omega);have hl:=Aj (bG (47 :: t)) (bG (47 :: t')) (by omega) (by omega) (bG (47 :: t)).length 0 (by omega) (Nat.zero_le _);rw [List.drop_zero,List.drop_zero] at hl;refine ae.bind hl.run ?_;rw [← Dr (bG (47 :: t)) (bG (47 :: t')) (bG (47 :: t)) (bG (47 :: t')) (by omega)];refine .of fun F => ?_
  cases CI (bG (47 :: t)) (bG (47 :: t')) (bG (47 :: t)) (bG (47 :: t')) <;> rfl
theorem LX (s:By):ae (fun F=>fv F s) (oG s):=by
 unfold fv oG;refine ae.bind (yZ s) (.of fun F => ?_);by_cases c1:s = [42]
 ·rw [if_neg (by rw [abt c1]; exact Bool.noConfusion),abt c1]
  rfl
 ·rw [if_pos (abu c1),abu c1,Bool.false_or]
  cases (gQ s).2 <;> simp
end Go.Vm
