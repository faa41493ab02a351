/- Phrases: the document's names, gaps and checks are the plain ones; the wake; the law of checks. No condition but on lengths. -/
import Derived.Test.YtihpjgcbmipdbaaGreatDoorFlaw23
import Derived.Test.YtihpjgcbmipdbaaGreatDoorPu3
namespace Go.Vm
open Go.Proofs
open Go.Lib (decodeL decodeN decodeL_N decode_N decodeN_shape decodeL_le)
set_option linter.unusedVariables false
set_option linter.unusedSimpArgs false
/-! ### names and gaps -/
theorem tU (x:By) (hx:x.length≤1000000) : ∀ (n i:Nat),i+n=x.length→af cR (x,(i:Int),()) (if (x.drop i).all uo=true then .inl (x,()) else .inr (false,()))
 | 0,i,h=>by
  refine af.fin (.of fun F => ?_)
  unfold cR
  rw [if_neg (by rw [decide_eq_true_eq]; simp only; omega),List.drop_eq_nil_of_le (by omega)]
  rfl
 | n+1,i,h=>by
  have hi:i<x.length:=by omega
  have hx0:idx x (i:Int)=some x[i]:=bn _ _ _ (List.getElem?_eq_getElem hi)
  have hw:IntKind.i64.wrap ((i:Int)+1)=((i+1:Nat):Int):=by rw [wrap64 _ (by omega) (by omega)]; omega
  rw [List.drop_eq_getElem_cons hi,List.all_cons]
  have ih:=tU x hx n (i+1) (by omega)
  generalize x[i]=c at *
  have body : ∀ F,cR F (x,(i:Int),())=some (if uo c=true then .inl (x,((i+1:Nat):Int),()) else .inr (.inr (false,()))):=by
   intro F
   unfold cR
   rw [if_pos (by rw [decide_eq_true_eq]; simp only; omega)]
   simp only [hx0,Option.bind_some]
   unfold uo
   by_cases a1:97≤c.toNat
   ·have a1':(97:Int)≤(c.toNat:Int):=by omega
    by_cases a2:c.toNat≤122
    ·have a2':(c.toNat:Int)≤122:=by omega
     simp only [a1',a2',a1,a2,decide_true,if_true,Option.bind_some,Bool.true_eq_false,if_false,Bool.and_self,Bool.true_or,Bool.not_true,Bool.false_eq_true,hw]
    ·have a2' : ¬ (c.toNat:Int)≤122:=by omega
     have a3:(48:Int)≤(c.toNat:Int):=by omega
     have a4 : ¬ (c.toNat:Int)≤57:=by omega
     have a5 : ¬ c.toNat≤57:=by omega
     simp only [a1',a2',a1,a2,a3,a4,a5,hx0,decide_true,decide_false,if_true,Option.bind_some,Bool.and_false,Bool.or_false,Bool.not_false,Bool.false_eq_true,if_false]
   ·have a1' : ¬ (97:Int)≤(c.toNat:Int):=by omega
    by_cases a3:48≤c.toNat
    ·have a3':(48:Int)≤(c.toNat:Int):=by omega
     by_cases a4:c.toNat≤57
     ·have a4':(c.toNat:Int)≤57:=by omega
      simp only [a1',a1,a3',a3,a4',a4,hx0,decide_true,decide_false,if_true,Option.bind_some,Bool.false_and,Bool.and_self,Bool.or_true,Bool.not_true,Bool.false_eq_true,if_false,hw]
     ·have a4' : ¬ (c.toNat:Int)≤57:=by omega
      simp only [a1',a1,a3',a3,a4',a4,hx0,decide_true,decide_false,if_true,Option.bind_some,Bool.false_and,Bool.and_false,Bool.or_false,Bool.not_false,Bool.false_eq_true,if_false]
    ·have a3' : ¬ (48:Int)≤(c.toNat:Int):=by omega
     simp only [a1',a1,a3',a3,hx0,decide_true,decide_false,if_true,Option.bind_some,Bool.false_and,Bool.or_false,Bool.not_false,Bool.false_eq_true,if_false]
  by_cases hc:uo c=true
  ·rw [hc,Bool.true_and]
   exact af.step (.of fun F=>(body F).trans (by rw [if_pos hc])) ih
  ·have hc':uo c=false:=by simpa using hc
   rw [hc',Bool.false_and]
   exact af.fin (.of fun F=>(body F).trans (by rw [if_neg hc]; rfl))
theorem vL (x:By) (hx:x.length≤1000000):ae (fun F=>cQ F x) (nmP x):=by
 unfold cQ nmP
 have h:=tU x hx x.length 0 (by omega)
 rw [List.drop_zero] at h
 refine ae.bind h.run ?_
 by_cases ha:x.all uo=true
 ·rw [if_pos ha,ha,Bool.true_and]
  simp only [ax]
  by_cases h1:1≤x.length
  ·have h1':(1:Int)≤(x.length:Int):=by omega
   refine .of fun F => ?_
   rw [if_pos (decide_eq_true h1'),decide_eq_true h1,Bool.true_and]
   simp only [Option.bind_some]
   congr 1
   rw [Bool.eq_iff_iff,decide_eq_true_eq,decide_eq_true_eq]
   omega
  ·have h1' : ¬ (1:Int)≤(x.length:Int):=by omega
   refine .of fun F => ?_
   rw [if_neg (by rw [decide_eq_true_eq]; exact h1'),decide_eq_false h1]
   rfl
 ·have ha':x.all uo=false:=by simpa using ha
  rw [if_neg ha,ha']
  exact .of fun F=>rfl
theorem u9 (x:By) (hx:x.length≤1000000) : ∀ (n i:Nat),i+n=x.length→af dr (x,(i:Int),()) (x,((i+((x.drop i).takeWhile (fun c=>c != 125)).length:Nat):Int),())
 | 0,i,h=>by
  refine af.fin (.of fun F => ?_)
  unfold dr
  rw [if_neg (by rw [decide_eq_true_eq]; simp only; omega),List.drop_eq_nil_of_le (by omega)]
  rfl
 | n+1,i,h=>by
  have hi:i<x.length:=by omega
  have hx0:idx x (i:Int)=some x[i]:=bn _ _ _ (List.getElem?_eq_getElem hi)
  have hw:IntKind.i64.wrap ((i:Int)+1)=((i+1:Nat):Int):=by rw [wrap64 _ (by omega) (by omega)]; omega
  have ih:=u9 x hx n (i+1) (by omega)
  rw [List.drop_eq_getElem_cons hi]
  generalize x[i]=c at *
  have n125:((c.toNat:Int)=125)=(c=125):=nvB c 125
  by_cases hc:c=125
  ·rw [List.takeWhile_cons_of_neg (by simpa using hc)]
   refine af.fin (.of fun F => ?_)
   unfold dr
   rw [if_pos (by rw [decide_eq_true_eq]; simp only; omega)]
   simp only [hx0,Option.bind_some,n125,decide_eq_true hc]
   rfl
  ·rw [List.takeWhile_cons_of_pos (by simpa using hc),List.length_cons,show i+(((x.drop (i+1)).takeWhile (fun c=>c != 125)).length+1)=i+1+((x.drop (i+1)).takeWhile (fun c=>c != 125)).length by omega]
   refine af.step (.of fun F => ?_) ih
   unfold dr
   rw [if_pos (by rw [decide_eq_true_eq]; simp only; omega)]
   simp only [hx0,Option.bind_some,n125,decide_eq_false hc,Bool.not_false,if_true,hw]
theorem DY (a:UInt8) (r:By) (hr:r.length≤1000):ae (fun F=>dZ F (a :: r)) (bM (a :: r):Int):=by
 unfold dZ
 cases r with
 | nil=>exact ae.pos rfl (.ret _)
 | cons b q =>
  have h2 : ¬ (((a :: b :: q:By).length:Nat):Int)<2:=by simp; omega
  have hi:idx (a :: b :: q:By) 1=some b:=bn _ 1 _ rfl
  have n37:((b.toNat:Int)=37)=(b=37):=nvB b 37
  have n98:((b.toNat:Int)=98)=(b=98):=nvB b 98
  have n107:((b.toNat:Int)=107)=(b=107):=nvB b 107
  have n109:((b.toNat:Int)=109)=(b=109):=nvB b 109
  have n112:((b.toNat:Int)=112)=(b=112):=nvB b 112
  have n123:((b.toNat:Int)=123)=(b=123):=nvB b 123
  refine ae.neg (by rw [decide_eq_true_eq]; exact h2) ?_
  simp only [hi,Option.bind_some,n37,n98,n107,n109,n112,n123]
  unfold bM
  simp only
  have step : ∀ (p q':Prop) [Decidable p] [Decidable q'],(if decide p=false then some ((a :: b :: q:By),decide q',()) else some ((a :: b :: q:By),true,()):Option (By×Bool×Unit))=some ((a :: b :: q:By),decide (p∨q'),()):=by
   intro p q' _ _
   by_cases hp:p
   ·rw [decide_eq_true hp,if_neg (by decide),decide_eq_true (.inl hp)]
   ·rw [decide_eq_false hp,if_pos rfl]
    by_cases hq:q'
    ·rw [decide_eq_true hq,decide_eq_true (.inr hq)]
    ·rw [decide_eq_false hq,decide_eq_false (fun hh=>hh.elim hp hq)]
  simp only [step,Option.bind_some,hi,n107,n109,n112]
  by_cases hc:b=37∨b=98∨b=107∨b=109∨b=112
  ·have hc':(((b=37∨b=98)∨b=107)∨b=109)∨b=112:=by
    rcases hc with h | h | h | h | h <;> simp [h]
   rw [if_pos hc]
   exact ae.pos (decide_eq_true hc') (.ret _)
  ·have hc' : ¬ ((((b=37∨b=98)∨b=107)∨b=109)∨b=112):=by
    rintro ((((h | h) | h) | h) | h) <;> exact hc (by simp [h])
   rw [if_neg hc]
   refine ae.neg (by rw [decide_eq_true_eq]; exact hc') ?_
   by_cases hb:b=123
   ·rw [if_pos hb]
    refine ae.neg (by simp only [n123,decide_eq_true hb]; decide) ?_
    simp only [List.length_cons] at hr
    have hl:=u9 (a :: b :: q) (by simp; omega) (q.length) 2 (by simp; omega)
    rw [show (a :: b :: q:By).drop 2=q from rfl] at hl
    have h2':(((2:Nat):Nat):Int)=2:=rfl
    refine ae.bind hl.run ?_
    have htl:(q.takeWhile (fun c=>c != 125)).length≤q.length:=(List.takeWhile_prefix _).length_le
    by_cases hk:(q.takeWhile (fun c=>c != 125)).length<q.length
    ·have hne : ¬ (((2+(q.takeWhile (fun c=>c != 125)).length:Nat):Int)=((a :: b :: q:By).length:Int)):=by simp only [List.length_cons]; omega
     have hs:sub (a :: b :: q:By) 2 ((2+(q.takeWhile (fun c=>c != 125)).length:Nat):Int)=some (q.takeWhile (fun c=>c != 125)):=by
      have:=fE (a :: b :: q:By) 2 (2+(q.takeWhile (fun c=>c != 125)).length) (by omega) (by simp only [List.length_cons]; omega)
      refine (this : _ = _).trans ?_
      rw [show (a :: b :: q:By).drop 2=q from rfl,Nat.add_sub_cancel_left]
      congr 1
      conv=>rhs; rw [← List.take_length (l:=q.takeWhile (fun c=>c != 125))]
      exact (congrArg (List.take _) (List.takeWhile_append_dropWhile (p:=fun c=>c != 125) (l:=q)).symm).trans (List.take_append_of_le_length (Nat.le_refl _))
     have hn:=vL (q.takeWhile (fun c=>c != 125)) (by omega)
     refine ae.bind (r:=((((2+(q.takeWhile (fun c=>c != 125)).length:Nat):Int), !(nmP (q.takeWhile (fun c=>c != 125))),()):Int×Bool×Unit)) (ae.pos (decide_eq_false hne) (ae.bind (.of fun F=>hs) (ae.bind hn (.ret _)))) ?_
     by_cases hnm:nmP (q.takeWhile (fun c=>c != 125))=true
     ·have hg:(if (q.takeWhile (fun c=>c != 125)).length<q.length∧nmP (q.takeWhile (fun c=>c != 125))=true then (q.takeWhile (fun c=>c != 125)).length+3 else 0)=(q.takeWhile (fun c=>c != 125)).length+3:=if_pos ⟨hk,hnm⟩
      rw [hg,hnm]
      refine ae.neg (by show ¬ (!true)=true; decide) (.of fun F => ?_)
      simp only
      rw [wrap64 _ (by omega) (by omega)]
      congr 1
      omega
     ·have hnm':nmP (q.takeWhile (fun c=>c != 125))=false:=by simpa using hnm
      have hg:(if (q.takeWhile (fun c=>c != 125)).length<q.length∧nmP (q.takeWhile (fun c=>c != 125))=true then (q.takeWhile (fun c=>c != 125)).length+3 else 0)=0:=if_neg (fun hh=>hnm hh.2)
      rw [hg,hnm']
      exact ae.pos rfl (.ret _)
    ·have he:(((2+(q.takeWhile (fun c=>c != 125)).length:Nat):Int)=((a :: b :: q:By).length:Int)):=by simp only [List.length_cons]; omega
     have hg:(if (q.takeWhile (fun c=>c != 125)).length<q.length∧nmP (q.takeWhile (fun c=>c != 125))=true then (q.takeWhile (fun c=>c != 125)).length+3 else 0)=0:=if_neg (fun hh=>hk hh.1)
     rw [hg]
     refine ae.bind (r:=((((2+(q.takeWhile (fun c=>c != 125)).length:Nat):Int),true,()):Int×Bool×Unit)) (ae.neg (by rw [decide_eq_true he]; decide) (.ret _)) ?_
     exact ae.pos rfl (.ret _)
   ·rw [if_neg hb]
    exact ae.pos (by simp only [n123,decide_eq_false hb]; rfl) (.ret _)
/-! ### checks -/
theorem si (s:By) (l:List Int) (hl:l.length≤1000000) : ∀ (n i:Nat),i+n=l.length→af cE (s,l,(i:Int),()) (if (l.drop i).all (fun x=>decide (bA x≠0))=true then .inl (s,()) else .inr (false,()))
 | 0,i,h=>by
  refine af.fin (.of fun F => ?_)
  unfold cE
  rw [if_neg (by rw [decide_eq_true_eq]; simp only; omega),List.drop_eq_nil_of_le (by omega)]
  rfl
 | n+1,i,h=>by
  have hi:i<l.length:=by omega
  have hx0:idx l (i:Int)=some l[i]:=bn _ _ _ (List.getElem?_eq_getElem hi)
  have hw:IntKind.i64.wrap ((i:Int)+1)=((i+1:Nat):Int):=by rw [wrap64 _ (by omega) (by omega)]; omega
  have ih:=si s l hl n (i+1) (by omega)
  rw [List.drop_eq_getElem_cons hi,List.all_cons]
  generalize l[i]=c at *
  by_cases h0:bA c=0
  ·rw [decide_eq_false (fun hh=>hh h0),Bool.false_and]
   refine af.fin (.of fun F => ?_)
   unfold cE
   rw [if_pos (by rw [decide_eq_true_eq]; simp only; omega)]
   simp only [hx0,Option.bind_some,nI,decide_eq_true h0]
   rfl
  ·rw [decide_eq_true h0,Bool.true_and]
   refine af.step (.of fun F => ?_) ih
   unfold cE
   rw [if_pos (by rw [decide_eq_true_eq]; simp only; omega)]
   simp only [hx0,Option.bind_some,nI,decide_eq_false h0,Bool.false_eq_true,if_false,hw]
theorem BP (s:By) (hs:s.length≤1000) : ∀ (n p:Nat),s.length - p≤n→p≤s.length→af bm (s,(p:Int),()) (match oG (s.drop p) with
  | some _ => .inl (s,())
  | none => .inr (false,())):=by
 intro n
 induction n with
 | zero =>
  intro p hn hp
  refine af.fin (.of fun F => ?_)
  unfold bm
  rw [if_neg (by rw [decide_eq_true_eq]; simp only; omega),List.drop_eq_nil_of_le (by omega),r9]
 | succ n ih =>
  intro p hn hp
  by_cases hlt:p<s.length
  case neg =>
   refine af.fin (.of fun F => ?_)
   unfold bm
   rw [if_neg (by rw [decide_eq_true_eq]; simp only; omega),List.drop_eq_nil_of_le (by omega),r9]
  have hd:s.drop p=s[p] :: s.drop (p+1):=List.drop_eq_getElem_cons hlt
  have hx0:idx s (p:Int)=some s[p]:=bn _ _ _ (List.getElem?_eq_getElem hlt)
  have hse:=ek s p (by omega)
  have hlen:(s.drop p).length=s.length - p:=List.length_drop
  have hw1:IntKind.i64.wrap ((p:Int)+1)=((p+1:Nat):Int):=by rw [wrap64 _ (by omega) (by omega)]; omega
  have ih1:=ih (p+1) (by omega) (by omega)
  have hdd : ∀ m,(s.drop p).drop m=s.drop (p+m):=fun m=>List.drop_drop
  rw [hd] at hse hlen hdd ⊢
  rw [pH]
  generalize hr:s.drop (p+1)=r at *
  generalize s[p]=c at *
  have n37:((c.toNat:Int)=37)=(c=37):=nvB c 37
  by_cases h37:c=37
  ·rw [if_pos h37]
   have hgle:=uO (c :: r)
   have h1:=lJ (c :: r)
   have hgt:=DY c r (by simp only [List.length_cons] at hlen; omega)
   have hbody : ∀ z,ae (fun F=>(if decide ((bM (c :: r):Int)=0)=true then some (Sum.inr (Sum.inr (false,()))) else some (Sum.inl (s,IntKind.i64.wrap ((p:Int)+(bM (c :: r):Int)),())):Option ((By×Int×Unit) ⊕ (By×Unit ⊕ Bool×Unit)))) z→ae (fun F=>bm F (s,(p:Int),())) z:=by
    intro z hz
    unfold bm
    refine ae.pos (by rw [decide_eq_true_eq]; simp only; omega) ?_
    refine ae.bind (.of fun F=>hx0) ?_
    refine ae.neg (by simp only [n37,decide_eq_true h37]; decide) ?_
    refine ae.bind (.of fun F=>hse) ?_
    exact ae.bind hgt hz
   by_cases hg:bM (c :: r)=0
   ·rw [if_pos hg]
    exact af.fin (hbody _ (ae.pos (by rw [decide_eq_true_eq]; omega) (.ret _)))
   ·rw [if_neg hg]
    have hw:IntKind.i64.wrap ((p:Int)+(bM (c :: r):Int))=((p+bM (c :: r):Nat):Int):=by rw [wrap64 _ (by omega) (by omega)]; omega
    have ihg:=ih (p+bM (c :: r)) (by omega) (by omega)
    rw [← hdd] at ihg
    refine af.step (hbody (.inl (s,((p+bM (c :: r):Nat):Int),())) (ae.neg (by rw [decide_eq_true_eq]; omega) (.of fun F=>by rw [hw]))) ?_
    cases hx:oG ((c :: r).drop (bM (c :: r))) with
    | none=>rw [hx] at ihg; exact ihg
    | some l=>rw [hx] at ihg; exact ihg
  ·rw [if_neg h37]
   refine af.step (x':=(s,((p+1:Nat):Int),())) (.of fun F => ?_) ?_
   ·unfold bm
    rw [if_pos (by rw [decide_eq_true_eq]; simp only; omega)]
    simp only [hx0,Option.bind_some,n37,decide_eq_false h37,Bool.not_false,if_true,hw1]
   ·cases hx:oG r with
    | none=>rw [hx] at ih1; exact ih1
    | some l=>rw [hx] at ih1; exact ih1
theorem Hw (s:By):rM s=((bX s).map (·.1)).all (fun x=>decide (bA x≠0)):=by unfold rM; rw [List.all_map]; rfl
def pq (s:By):Bool:=decide (s.length≤60) && (lG s).isSome
theorem FR (s:By):(rM s && (oG s).isSome)=(lG s).isSome:=by
 have h:=uD s.length s (Nat.le_refl _)
 cases hc:lG s with
 | none =>
  rw [hc] at h
  rcases h with h | h
  ·rw [h]; rfl
  ·rw [h]; simp
 | some l =>
  rw [hc] at h
  obtain ⟨h1,m,h2,_⟩:=h
  rw [h1,h2]
  rfl
theorem yz (s:By) (hs:s.length≤1000):ae (fun F=>dD F s) (pq s):=by
 unfold dD
 have hsl:=s8 s
 refine ae.bind (oX s (by omega)) ?_
 have h0:=si s ((bX s).map (·.1)) (by rw [List.length_map]; omega) ((bX s).map (·.1)).length 0 (by omega)
 rw [List.drop_zero, ← Hw] at h0
 refine ae.bind h0.run ?_
 have hct:=FR s
 unfold pq
 rw [← hct]
 by_cases ha:rM s=true
 ·rw [if_pos ha,ha,Bool.true_and]
  simp only [ax]
  have h1:=BP s hs s.length 0 (by omega) (by omega)
  rw [List.drop_zero] at h1
  refine ae.bind h1.run ?_
  cases oG s with
  | none=>exact .of fun F=>by simp [aT]
  | some m =>
   refine .of fun F => ?_
   simp only [ax,Option.isSome_some,Bool.and_true]
   congr 1
   rw [Bool.eq_iff_iff,decide_eq_true_eq,decide_eq_true_eq]
   omega
 ·have ha':rM s=false:=by simpa using ha
  rw [if_neg ha,ha',Bool.false_and,Bool.and_false]
  exact .of fun F=>rfl
theorem Km (s:By) (hs:s.length≤1000):ae (fun F=>jn F s) (pq s):=by
 unfold jn
 refine ae.bind (KH s hs) (.of fun F => ?_)
 unfold Jm pq
 by_cases h6:60<s.length
 ·rw [if_pos h6,decide_eq_false (by omega)]; rfl
 ·rw [if_neg h6,decide_eq_true (by omega)]
  cases lG s <;> rfl
end Go.Vm
