/- Tables: the document's functions are the plain ones. No condition but on lengths. -/
import Derived.Test.YtihpjgcbmipdbaaGreatDoorFref24
import Derived.Test.YtihpjgcbmipdbaaGreatDoorPr3
import Derived.Test.YtihpjgcbmipdbaaGreatDoorPg7
namespace Go.Vm
open Go.Proofs
set_option linter.unusedVariables false
set_option linter.unusedSimpArgs false
/-! ### parts -/
def G4 (c:By):List By→List By
 | [] => []
 | p :: ps=>(c ++ p) :: ps
theorem CR (l:List By):G4 [] l=l:=by cases l <;> rfl
theorem vm (s:By) (hs:s.length≤1000) : ∀ (n i a:Nat) (out:List By),i+n=s.length+1→1≤n→a≤i→out.length≤i→af bp (s,(),(a:Int),(i:Int),out,()) ((),out ++ G4 ((s.drop a).take (i - a)) (gw 47 (s.drop i)),())
 | 0,i,a,out,h,h1,ha,ho=>by omega
 | n+1,i,a,out,h,h1,ha,ho=>by
  have hw:IntKind.i64.wrap ((i:Int)+1)=((i+1:Nat):Int):=by rw [wrap64 _ (by omega) (by omega)]; omega
  have hsb:sub s (a:Int) (i:Int)=some ((s.drop a).take (i - a)):=jT s a i (by omega) (by omega)
  by_cases hl:i=s.length
  ·have hd:s.drop i = []:=List.drop_eq_nil_of_le (by omega)
   rw [hd,CM]
   have e:G4 ((s.drop a).take (i - a)) [[]] = [(s.drop a).take (i - a)]:=by show [(s.drop a).take (i - a) ++ []] = _; rw [List.append_nil]
   rw [e]
   refine af.step (x':=(s,(),((i+1:Nat):Int),((i+1:Nat):Int),out ++ [(s.drop a).take (i - a)],())) (.of fun F => ?_) (af.fin (.of fun F => ?_))
   ·unfold bp
    rw [if_pos (by rw [decide_eq_true_eq]; simp only; omega),if_neg (by rw [decide_eq_true (by simp only; omega)]; exact Bool.noConfusion),Option.bind_some]
    simp only [if_true,hsb,Option.bind_some]
    rw [if_pos (by rw [decide_eq_true_eq]; simp only [List.length_singleton]; omega)]
    simp only [Option.bind_some,hw]
   ·unfold bp
    rw [if_neg (by rw [decide_eq_true_eq]; simp only; omega)]
  have hi:i<s.length:=by omega
  have hx:idx s (i:Int)=some s[i]:=aV _ _ _ (List.getElem?_eq_getElem hi)
  have n47:((s[i].toNat:Int)=47)=(s[i]=47):=nvB s[i] 47
  have htk:(s.drop a).take (i+1 - a)=(s.drop a).take (i - a) ++ [s[i]]:=by
   rw [show i+1 - a=(i - a)+1 by omega,List.take_add_one]
   congr 1
   rw [List.getElem?_drop,show a+(i - a)=i by omega,List.getElem?_eq_getElem hi]
   rfl
  rw [List.drop_eq_getElem_cons hi]
  have ih:=fun a out=>vm s hs n (i+1) a out (by omega) (by omega)
  by_cases hc:s[i]=47
  ·have e:G4 ((s.drop a).take (i - a)) (gw 47 (s[i] :: s.drop (i+1)))=(s.drop a).take (i - a) :: gw 47 (s.drop (i+1)):=by
    rw [hc,wW]
    show ((s.drop a).take (i - a) ++ []) :: _ = _
    rw [List.append_nil]
   rw [e]
   have ih2:=ih (i+1) (out ++ [(s.drop a).take (i - a)]) (Nat.le_refl _) (by rw [List.length_append,List.length_singleton]; omega)
   rw [Nat.sub_self,List.take_zero,CR,List.append_assoc] at ih2
   refine af.step (.of fun F => ?_) ih2
   unfold bp
   rw [if_pos (by rw [decide_eq_true_eq]; simp only; omega),if_pos (decide_eq_false (by simp only; omega))]
   simp only [hx,Option.bind_some,n47,decide_eq_true hc,if_true,hsb]
   rw [if_pos (by rw [decide_eq_true_eq]; simp only [List.length_singleton]; omega)]
   simp only [Option.bind_some,hw]
  ·have e:G4 ((s.drop a).take (i - a)) (gw 47 (s[i] :: s.drop (i+1)))=G4 ((s.drop a).take (i+1 - a)) (gw 47 (s.drop (i+1))):=by
    cases hx2:gw 47 (s.drop (i+1)) with
    | nil=>exact absurd hx2 (sk 47 _)
    | cons p ps =>
     rw [r6 hc hx2,htk]
     show ((s.drop a).take (i - a) ++ s[i] :: p) :: ps=((s.drop a).take (i - a) ++ [s[i]] ++ p) :: ps
     rw [List.append_assoc]
     rfl
   rw [e]
   refine af.step (.of fun F => ?_) (ih a out (by omega) (by omega))
   unfold bp
   rw [if_pos (by rw [decide_eq_true_eq]; simp only; omega),if_pos (decide_eq_false (by simp only; omega))]
   simp only [hx,Option.bind_some,n47,decide_eq_false hc,Bool.false_eq_true,if_false,hw]
theorem xb (t:By) (h:t.length≤900):ae (fun F=>bZ F (47 :: t)) (aX (47 :: t)):=by
 have e:aX (47 :: t)=if t = [] then [] else gw 47 t:=by unfold aX; simp
 unfold bZ
 rw [e]
 by_cases ht:t = []
 ·rw [if_pos ht]
  exact ae.pos (by rw [decide_eq_true_eq,ht]) (.ret _)
 ·rw [if_neg ht]
  refine ae.neg (by rw [decide_eq_true_eq]; intro hh; injection hh with _ hh; exact ht hh) ?_
  have hpos:=List.length_pos_iff.2 ht
  have hl:=vm (47 :: t) (by rw [List.length_cons]; omega) (t.length+1) 1 1 [] (by rw [List.length_cons]; omega) (by omega) (Nat.le_refl _) (Nat.zero_le _)
  rw [Nat.sub_self,List.take_zero,CR,List.nil_append] at hl
  exact ae.bind hl.run (.ret _)
theorem Fv (x:By):ae (fun F=>dD F x) (gp x):=by
 unfold dD gp
 refine ae.bind (so x) (.of fun F => ?_)
 cases (dz x).2 <;> simp
theorem zf (l:List By) (hl:l.length≤1000000) (hx : ∀ x∈l,x.length≤1000000) : ∀ (n i:Nat),i+n=l.length→af bJ (l,(i:Int),()) (if qM (l.drop i)=true then .inl () else .inr (false,()))
 | 0,i,h=>by
  refine af.fin (.of fun F => ?_)
  unfold bJ
  rw [if_neg (by rw [decide_eq_true_eq]; simp only; omega),List.drop_eq_nil_of_le (by omega)]
  rfl
 | n+1,i,h=>by
  have hi:i<l.length:=by omega
  have hx0:idx l (i:Int)=some l[i]:=aV _ _ _ (List.getElem?_eq_getElem hi)
  have hw:IntKind.i64.wrap ((i:Int)+1)=((i+1:Nat):Int):=by rw [wrap64 _ (by omega) (by omega)]; omega
  have hw1:IntKind.i64.wrap ((l.length:Int) - 1)=((l.length - 1:Nat):Int):=by rw [wrap64 _ (by omega) (by omega)]; omega
  have ih:=zf l hl hx n (i+1) (by omega)
  have hxl:=hx l[i] (List.getElem_mem hi)
  have hd:(l.drop (i+1) = []) ↔ i=l.length - 1:=by rw [List.drop_eq_nil_iff]; omega
  rw [List.drop_eq_getElem_cons hi]
  generalize l[i]=x at *
  have hk:decide ((i:Int)=((l.length - 1:Nat):Int))=decide (l.drop (i+1) = []):=by
   rw [Bool.eq_iff_iff,decide_eq_true_eq,decide_eq_true_eq,hd]; omega
  have e:qM (x :: l.drop (i+1))=((decide (x = [42]) || (decide (x = [42,42]) && decide (l.drop (i+1) = [])) || (decide (x ≠ []) && gp (47 :: x))) && qM (l.drop (i+1))):=rfl
  rw [e]
  generalize hB:(decide (x = [42]) || (decide (x = [42,42]) && decide (l.drop (i+1) = [])) || (decide (x ≠ []) && gp (47 :: x)))=B
  have hbody:ae (fun F=>bJ F (l,(i:Int),())) (if B=true then .inl (l,((i+1:Nat):Int),()) else .inr (.inr (false,()))):=by
   unfold bJ
   refine ae.pos (by rw [decide_eq_true_eq]; simp only; omega) ?_
   refine ae.bind (r:=(if B=true then .inl (l,(i:Int),()) else .inr (false,()):(List By×Int×Unit) ⊕ (Bool×Unit))) ?_ ?_
   ·refine ae.bind (r:=((l,(i:Int),decide (x = [42]) || (decide (x = [42,42]) && decide (l.drop (i+1) = [])),()):List By×Int×Bool×Unit)) (ae.bind (.of fun F=>hx0) (.of fun F => ?_)) ?_
    ·by_cases c1:x = [42]
     ·rw [if_neg (by rw [decide_eq_true c1]; exact Bool.noConfusion),decide_eq_true c1]
      rfl
     ·rw [if_pos (decide_eq_false c1),decide_eq_false c1,Bool.false_or]
      simp only [hx0,Option.bind_some]
      by_cases c2:x = [42,42]
      ·rw [if_pos (decide_eq_true c2),hw1,hk,decide_eq_true c2,Bool.true_and]
      ·rw [if_neg (by rw [decide_eq_true_eq]; exact c2),decide_eq_false c2,Bool.false_and]
    cases hc2:(decide (x = [42]) || (decide (x = [42,42]) && decide (l.drop (i+1) = []))) with
    | true =>
     have:B=true:=by rw [← hB,hc2]; rfl
     rw [if_pos this]
     exact ae.pos rfl (.ret _)
    | false =>
     rw [hc2,Bool.false_or] at hB
     refine ae.neg Bool.false_ne_true ?_
     refine ae.bind (r:=((l,(i:Int), !B,()):List By×Int×Bool×Unit)) (ae.bind (.of fun F=>hx0) ?_) ?_
     ·by_cases c3:x = []
      ·have:B=false:=by rw [← hB,decide_eq_false (fun hh=>hh c3)]; rfl
       rw [this]
       exact ae.neg (by rw [decide_eq_true c3]; exact Bool.noConfusion) (.ret _)
      ·have hBf:B=gp (47 :: x):=by rw [← hB,decide_eq_true c3,Bool.true_and]
       rw [hBf]
       refine ae.pos (decide_eq_false c3) (ae.bind (.of fun F=>hx0) (ae.pos (by rw [decide_eq_true_eq]; simp only [List.length_singleton]; omega) ?_))
       exact ae.bind (Fv (47 :: x)) (.ret _)
     ·cases B with
      | true=>exact ae.neg Bool.false_ne_true (.ret _)
      | false=>exact ae.pos rfl (.ret _)
   ·cases B with
    | true=>exact .of fun F=>by simp only [if_true,aB,hw]
    | false=>exact .of fun F=>rfl
  cases B with
  | true =>
   rw [if_pos rfl] at hbody
   rw [Bool.true_and]
   exact af.step hbody ih
  | false =>
   rw [if_neg Bool.false_ne_true] at hbody
   rw [Bool.false_and,if_neg Bool.false_ne_true]
   exact af.fin hbody
theorem wi (x:By) (h:x.length≤900):ae (fun F=>cC F x) (jw x):=by
 unfold cC jw
 cases x with
 | nil =>
  exact ae.bind (r:=(([],true,()):By×Bool×Unit)) (.of fun F=>rfl) (ae.bind (r:=(([],true,()):By×Bool×Unit)) (.of fun F=>rfl) (ae.pos rfl (.ret _)))
 | cons c t =>
  have hne:decide ((c :: t:By) ≠ [])=true:=decide_eq_true (by simp)
  rw [hne,Bool.true_and]
  refine ae.bind (r:=((c :: t, !decide ((c :: t).length≤60),()):By×Bool×Unit)) (.of fun F => ?_) ?_
  ·rw [if_pos (decide_eq_false (by simp only [List.length_cons]; omega))]
   by_cases h6:(c :: t).length≤60
   ·rw [decide_eq_true h6,decide_eq_false (by omega)]; rfl
   ·rw [decide_eq_false h6,decide_eq_true (by omega)]; rfl
  have hi:idx (c :: t:By) 0=some c:=aV _ 0 _ rfl
  have n47:((c.toNat:Int)=47)=(c=47):=nvB c 47
  have hh:decide ((c :: t:By).head? = some 47)=decide (c=47):=by rw [Bool.eq_iff_iff]; simp
  rw [hh]
  refine ae.bind (r:=((c :: t, !(decide ((c :: t).length≤60) && decide (c=47)),()):By×Bool×Unit)) (.of fun F => ?_) ?_
  ·cases h6:decide ((c :: t).length≤60) with
   | true =>
    rw [if_pos (show (!true)=false from rfl)]
    simp only [hi,Option.bind_some,n47,Bool.true_and]
   | false=>rfl
  cases h7:(decide ((c :: t).length≤60) && decide (c=47)) with
  | false =>
   rw [Bool.false_and]
   exact ae.pos rfl (.ret _)
  | true =>
   rw [Bool.true_and]
   rw [Bool.and_eq_true,decide_eq_true_eq,decide_eq_true_eq] at h7
   obtain ⟨_,rfl⟩:=h7
   refine ae.neg Bool.false_ne_true ?_
   rw [List.length_cons] at h
   refine ae.bind (xb t (by omega)) ?_
   obtain ⟨h1,h2⟩:=kT (47 :: t) (by rw [List.length_cons]; omega)
   have hl:=zf (aX (47 :: t)) (by omega) (fun p hp=>by have:=h2 p hp; omega) (aX (47 :: t)).length 0 (by omega)
   rw [List.drop_zero] at hl
   refine ae.bind hl.run ?_
   cases qM (aX (47 :: t)) <;> exact .ret _
/-! ### what fits -/
def yL (a0 b0:List By):List By→List By→List By×List By×Unit ⊕ Bool×Unit
 | [],b => .inl (a0,b0,())
 | _ :: _,[] => .inr (false,())
 | x :: l,y :: b=>if x = [42,42] then .inr (true,()) else if x = [42]∨x=y then yL a0 b0 l b else .inr (false,())
theorem yR (a0 b0:List By) : ∀ (l b:List By),(a0.length:Int) - l.length=(b0.length:Int) - b.length→cm (yL a0 b0 l b) (fun v=>decide ((v.1.length:Int)=(v.2.1.length:Int))) (fun v=>v.1)=wL l b
 | [],b,h=>by
  show decide ((a0.length:Int)=(b0.length:Int))=decide (b = [])
  rw [Bool.eq_iff_iff,decide_eq_true_eq,decide_eq_true_eq]
  simp only [List.length_nil] at h
  constructor
  ·intro hh
   exact List.length_eq_zero_iff.1 (by omega)
  ·rintro rfl
   simp only [List.length_nil] at h
   omega
 | _ :: _,[],h=>rfl
 | x :: l,y :: b,h=>by
  unfold yL wL
  by_cases c1:x = [42,42]
  ·rw [if_pos c1,if_pos c1]; rfl
  rw [if_neg c1,if_neg c1]
  by_cases c2:x = [42]∨x=y
  ·rw [if_pos c2,if_pos c2]
   simp only [List.length_cons] at h
   exact yR a0 b0 l b (by omega)
  ·rw [if_neg c2,if_neg c2]; rfl
theorem xS (a b:List By) (ha:a.length≤1000000) (hb:b.length≤1000000) : ∀ (n i:Nat),i+n=a.length→i≤b.length→af aY (a,b,(i:Int),()) (yL a b (a.drop i) (b.drop i))
 | 0,i,h,hib=>by
  refine af.fin (.of fun F => ?_)
  unfold aY
  rw [if_neg (by rw [decide_eq_true_eq]; simp only; omega),List.drop_eq_nil_of_le (by omega:a.length≤i)]
  rfl
 | n+1,i,h,hib=>by
  have hi:i<a.length:=by omega
  have hx0:idx a (i:Int)=some a[i]:=aV _ _ _ (List.getElem?_eq_getElem hi)
  have hw:IntKind.i64.wrap ((i:Int)+1)=((i+1:Nat):Int):=by rw [wrap64 _ (by omega) (by omega)]; omega
  rw [List.drop_eq_getElem_cons hi]
  have ih:=xS a b ha hb n (i+1) (by omega)
  generalize a[i]=x at *
  by_cases hlt:i<b.length
  ·have hy0:idx b (i:Int)=some b[i]:=aV _ _ _ (List.getElem?_eq_getElem hlt)
   rw [List.drop_eq_getElem_cons hlt]
   generalize b[i]=y at *
   unfold yL
   by_cases c1:x = [42,42]
   ·rw [if_pos c1]
    refine af.fin (.of fun F => ?_)
    unfold aY
    rw [if_pos (by rw [decide_eq_true_eq]; simp only; omega)]
    simp only [hx0,Option.bind_some]
    rw [if_pos (decide_eq_true c1),decide_eq_true (by omega)]
   rw [if_neg c1]
   have hc : ∀ F:Nat,(if decide ((b.length:Int)≤(i:Int))=false then (idx a (i:Int)).bind fun v7=>if (!decide (v7 = [42]))=true then (idx a (i:Int)).bind fun v8=>(idx b (i:Int)).bind fun v9=>some (a,b,(i:Int), !decide (v8=v9),()) else some (a,b,(i:Int),false,()) else some (a,b,(i:Int),true,()):Option (List By×List By×Int×Bool×Unit))=some (a,b,(i:Int), !decide (x = [42]∨x=y),()):=by
    intro F
    rw [if_pos (decide_eq_false (by omega)),hx0,Option.bind_some]
    by_cases c2:x = [42]
    ·rw [if_neg (by rw [decide_eq_true c2]; decide),decide_eq_true (.inl c2)]; rfl
    ·rw [if_pos (by rw [decide_eq_false c2]; rfl),Option.bind_some,hy0,Option.bind_some]
     by_cases c3:x=y
     ·rw [decide_eq_true c3,decide_eq_true (.inr c3)]
     ·rw [decide_eq_false c3,decide_eq_false (by rintro (hh | hh); exact c2 hh; exact c3 hh)]
   by_cases c2:x = [42]∨x=y
   ·rw [if_pos c2]
    refine af.step ?_ (ih (by omega))
    unfold aY
    refine ae.pos (by rw [decide_eq_true_eq]; simp only; omega) (ae.bind (.of fun F=>hx0) (ae.neg (by rw [decide_eq_true_eq]; exact c1) (ae.bind (.of hc) (ae.neg (by rw [decide_eq_true c2]; exact Bool.false_ne_true) (.of fun F => ?_)))))
    simp only [hw]
   ·rw [if_neg c2]
    refine af.fin ?_
    unfold aY
    exact ae.pos (by rw [decide_eq_true_eq]; simp only; omega) (ae.bind (.of fun F=>hx0) (ae.neg (by rw [decide_eq_true_eq]; exact c1) (ae.bind (.of hc) (ae.pos (by rw [decide_eq_false c2]; rfl) (.ret _)))))
  ·rw [List.drop_eq_nil_of_le (by omega:b.length≤i)]
   show af _ _ (Sum.inr (false,()))
   refine af.fin (.of fun F => ?_)
   unfold aY
   rw [if_pos (by rw [decide_eq_true_eq]; simp only; omega)]
   simp only [hx0,Option.bind_some]
   by_cases c1:x = [42,42]
   ·rw [if_pos (decide_eq_true c1),decide_eq_false (by omega)]
   ·rw [if_neg (by rw [decide_eq_true_eq]; exact c1),if_neg (by rw [decide_eq_true (by omega)]; exact Bool.noConfusion)]
    rfl
theorem GI {s:By} (h:gp s=true) : ∃ t,s=47 :: t:=by
 unfold gp at h
 rw [Bool.and_eq_true] at h
 cases s with
 | nil=>exact absurd h.1 Bool.false_ne_true
 | cons c t =>
  by_cases hc:c=47
  ·exact ⟨t,by rw [hc]⟩
  ·rw [iK (.inr hc)] at h
   exact absurd h.1 Bool.false_ne_true
theorem Ke {s:By} (h:jw s=true) : ∃ t,s=47 :: t:=by
 unfold jw at h
 simp only [Bool.and_eq_true,decide_eq_true_eq] at h
 cases s with
 | nil=>exact absurd rfl h.1.1.1
 | cons c t =>
  have:c=47:=by simpa using h.1.2
  exact ⟨t,by rw [this]⟩
theorem Lx (p s:By) (hp:p.length≤900) (hs:s.length≤900):ae (fun F=>eW F (p,s)) (oy p s):=by
 unfold eW oy
 refine ae.bind (r:=((p,s, !(jw p && gp s),()):By×By×Bool×Unit)) (ae.bind (wi p hp) ?_) ?_
 ·cases jw p with
  | true=>exact ae.pos rfl (ae.bind (Fv s) (.ret _))
  | false=>exact ae.neg (by decide) (.ret _)
 cases hb:(jw p && gp s) with
 | false =>
  rw [Bool.false_and]
  exact ae.pos rfl (.ret _)
 | true =>
  rw [Bool.true_and]
  rw [Bool.and_eq_true] at hb
  obtain ⟨t,rfl⟩:=Ke hb.1
  obtain ⟨t',rfl⟩:=GI hb.2
  rw [List.length_cons] at hp hs
  refine ae.neg Bool.false_ne_true ?_
  refine ae.bind (xb t (by omega)) (ae.bind (xb t' (by omega)) ?_)
  obtain ⟨h1,_⟩:=kT (47 :: t) (by rw [List.length_cons]; omega)
  obtain ⟨h2,_⟩:=kT (47 :: t') (by rw [List.length_cons]; omega)
  have hl:=xS (aX (47 :: t)) (aX (47 :: t')) (by omega) (by omega) (aX (47 :: t)).length 0 (by omega) (Nat.zero_le _)
  rw [List.drop_zero,List.drop_zero] at hl
  refine ae.bind hl.run ?_
  rw [← yR (aX (47 :: t)) (aX (47 :: t')) (aX (47 :: t)) (aX (47 :: t')) (by omega)]
  refine .of fun F => ?_
  cases yL (aX (47 :: t)) (aX (47 :: t')) (aX (47 :: t)) (aX (47 :: t')) <;> rfl
theorem GR (s:By):ae (fun F=>ea F s) (lM s):=by
 unfold ea lM
 refine ae.bind (vd s) (.of fun F => ?_)
 by_cases c1:s = [42]
 ·rw [if_neg (by rw [decide_eq_true c1]; exact Bool.noConfusion),decide_eq_true c1]
  rfl
 ·rw [if_pos (decide_eq_false c1),decide_eq_false c1,Bool.false_or]
  cases (cL s).2 <;> simp
end Go.Vm
