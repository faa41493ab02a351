import Derived.Test.YtihpjgcbmipdbaaGreatDoorFref22
import Derived.Test.YtihpjgcbmipdbaaGreatDoorPu5
import Derived.Test.YtihpjgcbmipdbaaGreatDoorPj11
import Derived.Test.YtihpjgcbmipdbaaGreatDoorFlaw23
/- JSON: the document's reader at its leaves is the plain one. No condition but on lengths. -/
namespace Go.Vm
open Go.Lib (decodeL decodeN decodeL_N decode_N decodeN_shape decodeL_le decDigits itoa)
set_option linter.unusedVariables false
set_option linter.unusedSimpArgs false
theorem nvB (c k:UInt8):((c.toNat:Int)=(k.toNat:Int))=(c=k):=by
 apply propext
 constructor
 ·intro hh; exact UInt8.toNat_inj.1 (by omega)
 ·intro hh; rw [hh]
end Go.Vm
/- JSON: the document's strings, numbers, quotes, places are the plain ones. No condition but on lengths. -/
namespace Go.Vm
open Go.Lib (decodeL decodeN decodeL_N decode_N decodeN_shape decodeL_le decDigits itoa)
set_option linter.unusedVariables false
set_option linter.unusedSimpArgs false
/-! ### escapes -/
end Go.Vm
/- JSON: the document's numbers, quotes, places, ends are the plain ones. No condition but on lengths. -/
namespace Go.Vm
open Go.Lib (decodeL decodeN decodeL_N decode_N decodeN_shape decodeL_le decDigits itoa)
set_option linter.unusedVariables false
set_option linter.unusedSimpArgs false
/-! ### decimals -/
theorem BV (F:Nat) (x:Nat) (hx:x<10):bY F (x:Int)=some [UInt8.ofNat (48+x)]:=by
 unfold bY
 rw [wrap64 _ (by omega) (by omega),wrapB8 _ (by omega) (by omega)]
 congr 3
where
 wrapB8 (n:Int) (h:0≤n) (h':n≤255):IntKind.u8.wrap n=n:=by
  simp only [IntKind.wrap,IntKind.bits,IntKind.signed]
  simp
  omega
theorem Mu (u k:Nat):(u:Int).tmod (k:Int)=((u % k:Nat):Int):=by rw [Int.ofNat_tmod]
theorem Mn (u k:Nat):(u:Int).tdiv (k:Int)=((u / k:Nat):Int):=by rw [Int.ofNat_tdiv]
def Eu (u:Nat):By:=if u=0 then [] else decDigits u
theorem yQ {u:Nat} (h:u≠0):Eu u=Eu (u / 10) ++ [UInt8.ofNat (48+u % 10)]:=by
 unfold Eu
 rw [if_neg h,decDigits]
 split
 ·rename_i h10
  rw [if_pos (by omega),Nat.mod_eq_of_lt h10]; rfl
 ·rename_i h10
  rw [if_neg (by omega)]
theorem NT (u:Nat):decDigits u=Eu (u / 10) ++ [UInt8.ofNat (48+u % 10)]:=by
 by_cases h:u=0
 ·subst h; rw [Go.Lib.decDigits_one (by decide)]; rfl
 ·rw [← yQ h]; unfold Eu; rw [if_neg h]
theorem Ji (R:Nat→Int→Option By) : ∀ (n u:Nat) (out:By),u≤n→u<1000000000000000000→u+out.length≤1000000000000000100→af (fun F=>ee F (R F)) ((u:Int),out,()) (Eu u ++ out,()):=by
 intro n
 induction n with
 | zero =>
  intro u out hu h1 h2
  have:u=0:=by omega
  subst this
  exact af.fin (.of fun F=>rfl)
 | succ n ih =>
  intro u out hu h1 h2
  by_cases h0:u=0
  ·subst h0
   exact af.fin (.of fun F=>rfl)
  ·have hp:(0:Int)<(u:Int):=by omega
   refine af.step (.of fun F => ?_) (y:=(Eu u ++ out,())) ?_ (x':=(((u / 10:Nat):Int),UInt8.ofNat (48+u % 10) :: out,()))
   ·unfold ee
    have e1:(u:Int).tmod 10=((u % 10:Nat):Int):=Mu u 10
    have e2:(u:Int).tdiv 10=((u / 10:Nat):Int):=Mn u 10
    simp only [hp,decide_true,if_true,e1,e2,BV F (u % 10) (by omega),Option.bind_some]
    rw [if_pos (by rw [decide_eq_true_eq]; simp; omega),wrap64 _ (by omega) (by omega)]
    rfl
   ·have:=ih (u / 10) (UInt8.ofNat (48+u % 10) :: out) (by omega) (by omega) (by simp; omega)
    rw [yQ h0,List.append_assoc]
    exact this
theorem F7 (R:Nat→Int→Option By) (u:Nat) (h1:u<1000000000000000000):ae (fun F=>bm F (R F) (u:Int)) (decDigits u):=by
 unfold bm
 refine ae.neg (by simp) ?_
 have e1:(u:Int).tmod 10=((u % 10:Nat):Int):=Mu u 10
 have e2:(u:Int).tdiv 10=((u / 10:Nat):Int):=Mn u 10
 rw [e1,e2,wrap64 _ (by omega) (by omega)]
 refine ae.bind (.of fun F=>BV F (u % 10) (by omega)) ?_
 refine ae.bind (Ji R (u / 10) (u / 10) [UInt8.ofNat (48+u % 10)] (Nat.le_refl _) (by omega) (by simp; omega)).run ?_
 rw [NT]
 exact .ret _
theorem uu (n:Int) (hn:okN n):ae (fun F=>a7 F n) (itoa n):=by
 obtain ⟨h1,h2⟩:=hn
 unfold itoa
 by_cases hneg:n<0
 ·rw [if_pos hneg]
  have hp:=F7 (fun F=>av F (F - 2)) n.natAbs (by omega)
  have hb:ae (fun F=>bm F (av F (F - 1)) n) (45 :: decDigits n.natAbs):=by
   unfold bm
   refine ae.pos (by simpa using hneg) ?_
   rw [wrap64 _ (by omega) (by omega)]
   have e:0 - n=(n.natAbs:Int):=by omega
   rw [e]
   refine ae.bind (r:=decDigits n.natAbs) (hp.evt 2 fun F hF => ?_) ?_
   ·rw [show F - 1=(F - 2)+1 by omega]; rfl
   ·refine ae.pos ?_ (.ret _)
    rw [decide_eq_true_eq]
    have:=(itoa_lenA n.natAbs (by omega))
    simp only [List.length_cons,List.length_nil]
    omega
  exact hb.evt 1 fun F hF=>by
   unfold a7
   rw [show av F F n=av F ((F - 1)+1) n by rw [show F - 1+1=F by omega]]
   rfl
 ·rw [if_neg hneg]
  have hp:=F7 (fun F=>av F (F - 1)) n.toNat (by omega)
  rw [show ((n.toNat:Nat):Int)=n by omega] at hp
  exact hp.evt 1 fun F hF=>by
   unfold a7
   rw [show av F F n=av F ((F - 1)+1) n by rw [show F - 1+1=F by omega]]
   rfl
where
 itoa_lenA (u:Nat) (h:u<1000000000000000):(decDigits u).length≤15:=by
  rw [Go.Lib.decDigits_length]; exact rT 15 u (by decide) (by rw [p15]; exact h)
/-! ### numbers -/
abbrev V9:=Int×By×By×Int×List By×List By×Unit
def z9:V9:=(0,[],[],0,[],[],())
end Go.Vm
/- JSON: the document's quotes, places, ends are the plain ones. No condition but on lengths. -/
namespace Go.Vm
open Go.Lib (decodeL decodeN decodeL_N decode_N decodeN_shape decodeL_le decDigits itoa)
set_option linter.unusedVariables false
set_option linter.unusedSimpArgs false
/-! ### quotes -/
end Go.Vm
/- JSON: the document's lists and objects are the plain ones. No condition but on lengths. -/
namespace Go.Vm
open Go.Lib (decodeL decDigits itoa)
set_option linter.unusedVariables false
set_option linter.unusedSimpArgs false
/-! ### what is told -/
end Go.Vm
/- JSON: the document's objects are the plain ones. No condition but on lengths. -/
namespace Go.Vm
open Go.Lib (decodeL decDigits itoa)
set_option linter.unusedVariables false
set_option linter.unusedSimpArgs false
end Go.Vm
/- JSON: the document's objects and values are the plain ones. No condition but on lengths. -/
namespace Go.Vm
open Go.Lib (decodeL decDigits itoa)
set_option linter.unusedVariables false
set_option linter.unusedSimpArgs false
end Go.Vm
/- JSON: the document's values are the plain ones. No condition but on lengths. -/
namespace Go.Vm
open Go.Lib (decodeL decDigits itoa)
set_option linter.unusedVariables false
set_option linter.unusedSimpArgs false
end Go.Vm
/- JSON: what the program tells of a text's parts, for those that ask it. No condition but on lengths. -/
namespace Go.Vm
open Go.Proofs
open Go.Lib (decodeL decDigits itoa)
set_option linter.unusedVariables false
set_option linter.unusedSimpArgs false
end Go.Vm
/- Phrases: what the program fills is the plain text. No condition but on lengths. -/
namespace Go.Vm
open Go.Lib (decodeL decodeN decodeL_N decode_N decodeN_shape decodeL_le)
set_option linter.unusedVariables false
set_option linter.unusedSimpArgs false
/-! ### values -/
abbrev EnT:=Int×By×Int×Int×Int×Int×By×Int×Int×Int×By×By×By×By×Unit
abbrev EnT.key (e:EnT):By:=e.2.1
abbrev EnT.method (e:EnT):By:=e.2.2.2.2.2.2.2.2.2.2.2.1
abbrev EnT.path (e:EnT):By:=e.2.2.2.2.2.2.2.2.2.2.2.2.1
abbrev EnT.body (e:EnT):By:=e.2.2.2.2.2.2.2.2.2.2.2.2.2.1
end Go.Vm
/- The document's signs of a text, plainly. No condition but on lengths. -/
namespace Go.Vm
open Go.Lib (decodeL decodeN decodeL_N decode_N decodeN_shape decodeL_le)
set_option linter.unusedVariables false
set_option linter.unusedSimpArgs false
theorem He (s:B8) (hs:s.length≤1000000000000) (p:Nat) (hp:p≤s.length) (out at':List Int) (ho:out.length+(s.length - p)≤1000000000000) (ha:at'.length+(s.length - p)≤1000000000000) :
  af bn (s,(),(),(p:Int),out,at',()) ((),(),out ++ (de (s.drop p)).map (·.1),at' ++ ats p (de (s.drop p)),()):=by
 have main : ∀ n p out at',s.length - p≤n→p≤s.length→out.length+(s.length - p)≤1000000000000→at'.length+(s.length - p)≤1000000000000 →
   af bn (s,(),(),(p:Int),out,at',()) ((),(),out ++ (de (s.drop p)).map (·.1),at' ++ ats p (de (s.drop p)),()):=by
  intro n
  induction n with
  | zero =>
   intro p out at' hn hp ho ha
   have:p=s.length:=by omega
   subst this
   refine af.fin (ae.of fun F => ?_)
   unfold bn
   have h : ¬ ((s.length:Nat):Int)<(s.length:Int):=by omega
   simp [h,gO,ats]
  | succ n ih =>
   intro p out at' hn hp ho ha
   by_cases hlt:p<s.length
   ·have hpos:=bQ (s.drop p)
    have hnx:=zX hlt
    have h:(p:Int)<(s.length:Int):=by omega
    have e1:((out.length:Int)+1) * 8≤140737488355328:=by omega
    have e2:((at'.length:Int)+1) * 8≤140737488355328:=by omega
    rw [jG (qz hlt),tU]
    refine af.step (x':=(s,(),(),((p+(decodeL (s.drop p)).2:Nat):Int),out ++ [((decodeL (s.drop p)).1:Int)],at' ++ [(p:Int)],())) (ae.of fun F => ?_) ?_
    ·unfold bn
     have e1':(out.length+1) * 8≤140737488355328:=by omega
     have e2':(at'.length+1) * 8≤140737488355328:=by omega
     simp only [h,decide_true,if_true,ec s p hp,Option.bind_some,JF F _ (qz hlt),List.length_cons,List.length_nil,Nat.zero_add,e1',e2']
     rw [wrap64 _ (by omega) (by omega)]
     rfl
    ·have:=ih (p+(decodeL (s.drop p)).2) (out ++ [((decodeL (s.drop p)).1:Int)]) (at' ++ [(p:Int)]) (by omega) hnx (by simp; omega) (by simp; omega)
     simpa [ats,Jn hlt] using this
   ·have:p=s.length:=by omega
    subst this
    refine af.fin (ae.of fun F => ?_)
    unfold bn
    have h : ¬ ((s.length:Nat):Int)<(s.length:Int):=by omega
    simp [h,gO,ats]
 exact main _ p out at' (Nat.le_refl _) hp ho ha
theorem uL (s:B8) (hs:s.length≤1000000000000):ae (fun F=>dp F s) ((de s).map (·.1),ats 0 (de s)):=by
 unfold dp
 have:=He s hs 0 (by omega) [] [] (by simp; omega) (by simp; omega)
 refine this.run.bind ?_
 exact ae.of fun F=>by simp
end Go.Vm
/- Phrases: the document's names, gaps and checks are the plain ones; the wake; the law of checks. No condition but on lengths. -/
namespace Go.Vm
open Go.Proofs
open Go.Lib (decodeL decodeN decodeL_N decode_N decodeN_shape decodeL_le)
set_option linter.unusedVariables false
set_option linter.unusedSimpArgs false
/-! ### names and gaps -/
theorem uI (x:By) (hx:x.length≤1000000) : ∀ (n i:Nat),i+n=x.length→af cz (x,(i:Int),()) (if (x.drop i).all Br=true then .inl (x,()) else .inr (false,()))
 | 0,i,h=>by
  refine af.fin (.of fun F => ?_)
  unfold cz
  rw [if_neg (by rw [decide_eq_true_eq]; simp only; omega),List.drop_eq_nil_of_le (by omega)]
  rfl
 | n+1,i,h=>by
  have hi:i<x.length:=by omega
  have hx0:idx x (i:Int)=some x[i]:=aV _ _ _ (List.getElem?_eq_getElem hi)
  have hw:IntKind.i64.wrap ((i:Int)+1)=((i+1:Nat):Int):=by rw [wrap64 _ (by omega) (by omega)]; omega
  rw [List.drop_eq_getElem_cons hi,List.all_cons]
  have ih:=uI x hx n (i+1) (by omega)
  generalize x[i]=c at *
  have body : ∀ F,cz F (x,(i:Int),())=some (if Br c=true then .inl (x,((i+1:Nat):Int),()) else .inr (.inr (false,()))):=by
   intro F
   unfold cz
   rw [if_pos (by rw [decide_eq_true_eq]; simp only; omega)]
   simp only [hx0,Option.bind_some]
   unfold Br
   by_cases a1:97≤c.toNat
   ·have a1':(97:Int)≤(c.toNat:Int):=by omega
    by_cases a2:c.toNat≤122
    ·have a2':(c.toNat:Int)≤122:=by omega
     simp only [a1',a2',a1,a2,decide_true,if_true,Option.bind_some,Bool.true_eq_false,if_false,Bool.and_self,Bool.true_or,Bool.not_true,Bool.false_eq_true,hw]
    ·have a2' : ¬ (c.toNat:Int)≤122:=by omega
     have a3:(48:Int)≤(c.toNat:Int):=by omega
     have a4 : ¬ (c.toNat:Int)≤57:=by omega
     have a5 : ¬ c.toNat≤57:=by omega
     simp only [a1',a2',a1,a2,a3,a4,a5,hx0,decide_true,decide_false,if_true,Option.bind_some,Bool.and_false,Bool.or_false,Bool.not_false,Bool.false_eq_true,if_false]
   ·have a1' : ¬ (97:Int)≤(c.toNat:Int):=by omega
    by_cases a3:48≤c.toNat
    ·have a3':(48:Int)≤(c.toNat:Int):=by omega
     by_cases a4:c.toNat≤57
     ·have a4':(c.toNat:Int)≤57:=by omega
      simp only [a1',a1,a3',a3,a4',a4,hx0,decide_true,decide_false,if_true,Option.bind_some,Bool.false_and,Bool.and_self,Bool.or_true,Bool.not_true,Bool.false_eq_true,if_false,hw]
     ·have a4' : ¬ (c.toNat:Int)≤57:=by omega
      simp only [a1',a1,a3',a3,a4',a4,hx0,decide_true,decide_false,if_true,Option.bind_some,Bool.false_and,Bool.and_false,Bool.or_false,Bool.not_false,Bool.false_eq_true,if_false]
    ·have a3' : ¬ (48:Int)≤(c.toNat:Int):=by omega
     simp only [a1',a1,a3',a3,hx0,decide_true,decide_false,if_true,Option.bind_some,Bool.false_and,Bool.or_false,Bool.not_false,Bool.false_eq_true,if_false]
  by_cases hc:Br c=true
  ·rw [hc,Bool.true_and]
   exact af.step (.of fun F=>(body F).trans (by rw [if_pos hc])) ih
  ·have hc':Br c=false:=by simpa using hc
   rw [hc',Bool.false_and]
   exact af.fin (.of fun F=>(body F).trans (by rw [if_neg hc]; rfl))
theorem wX (x:By) (hx:x.length≤1000000):ae (fun F=>cu F x) (nmP x):=by
 unfold cu nmP
 have h:=uI x hx x.length 0 (by omega)
 rw [List.drop_zero] at h
 refine ae.bind h.run ?_
 by_cases ha:x.all Br=true
 ·rw [if_pos ha,ha,Bool.true_and]
  simp only [aB]
  by_cases h1:1≤x.length
  ·have h1':(1:Int)≤(x.length:Int):=by omega
   refine .of fun F => ?_
   rw [if_pos (decide_eq_true h1'),decide_eq_true h1,Bool.true_and]
   simp only [Option.bind_some]
   congr 1
   rw [Bool.eq_iff_iff,decide_eq_true_eq,decide_eq_true_eq]
   omega
  ·have h1' : ¬ (1:Int)≤(x.length:Int):=by omega
   refine .of fun F => ?_
   rw [if_neg (by rw [decide_eq_true_eq]; exact h1'),decide_eq_false h1]
   rfl
 ·have ha':x.all Br=false:=by simpa using ha
  rw [if_neg ha,ha']
  exact .of fun F=>rfl
theorem xz (x:By) (hx:x.length≤1000000) : ∀ (n i:Nat),i+n=x.length→af cM (x,(i:Int),()) (x,((i+((x.drop i).takeWhile (fun c=>c != 125)).length:Nat):Int),())
 | 0,i,h=>by
  refine af.fin (.of fun F => ?_)
  unfold cM
  rw [if_neg (by rw [decide_eq_true_eq]; simp only; omega),List.drop_eq_nil_of_le (by omega)]
  rfl
 | n+1,i,h=>by
  have hi:i<x.length:=by omega
  have hx0:idx x (i:Int)=some x[i]:=aV _ _ _ (List.getElem?_eq_getElem hi)
  have hw:IntKind.i64.wrap ((i:Int)+1)=((i+1:Nat):Int):=by rw [wrap64 _ (by omega) (by omega)]; omega
  have ih:=xz x hx n (i+1) (by omega)
  rw [List.drop_eq_getElem_cons hi]
  generalize x[i]=c at *
  have n125:((c.toNat:Int)=125)=(c=125):=nvB c 125
  by_cases hc:c=125
  ·rw [List.takeWhile_cons_of_neg (by simpa using hc)]
   refine af.fin (.of fun F => ?_)
   unfold cM
   rw [if_pos (by rw [decide_eq_true_eq]; simp only; omega)]
   simp only [hx0,Option.bind_some,n125,decide_eq_true hc]
   rfl
  ·rw [List.takeWhile_cons_of_pos (by simpa using hc),List.length_cons,show i+(((x.drop (i+1)).takeWhile (fun c=>c != 125)).length+1)=i+1+((x.drop (i+1)).takeWhile (fun c=>c != 125)).length by omega]
   refine af.step (.of fun F => ?_) ih
   unfold cM
   rw [if_pos (by rw [decide_eq_true_eq]; simp only; omega)]
   simp only [hx0,Option.bind_some,n125,decide_eq_false hc,Bool.not_false,if_true,hw]
theorem LV (a:UInt8) (r:By) (hr:r.length≤1000):ae (fun F=>fy F (a :: r)) (gC (a :: r):Int):=by
 unfold fy
 cases r with
 | nil=>exact ae.pos rfl (.ret _)
 | cons b q =>
  have h2 : ¬ (((a :: b :: q:By).length:Nat):Int)<2:=by simp; omega
  have hi:idx (a :: b :: q:By) 1=some b:=aV _ 1 _ rfl
  have n37:((b.toNat:Int)=37)=(b=37):=nvB b 37
  have n98:((b.toNat:Int)=98)=(b=98):=nvB b 98
  have n107:((b.toNat:Int)=107)=(b=107):=nvB b 107
  have n109:((b.toNat:Int)=109)=(b=109):=nvB b 109
  have n112:((b.toNat:Int)=112)=(b=112):=nvB b 112
  have n123:((b.toNat:Int)=123)=(b=123):=nvB b 123
  refine ae.neg (by rw [decide_eq_true_eq]; exact h2) ?_
  simp only [hi,Option.bind_some,n37,n98,n107,n109,n112,n123]
  unfold gC
  simp only
  have step : ∀ (p q':Prop) [Decidable p] [Decidable q'],(if decide p=false then some ((a :: b :: q:By),decide q',()) else some ((a :: b :: q:By),true,()):Option (By×Bool×Unit))=some ((a :: b :: q:By),decide (p∨q'),()):=by
   intro p q' _ _
   by_cases hp:p
   ·rw [decide_eq_true hp,if_neg (by decide),decide_eq_true (.inl hp)]
   ·rw [decide_eq_false hp,if_pos rfl]
    by_cases hq:q'
    ·rw [decide_eq_true hq,decide_eq_true (.inr hq)]
    ·rw [decide_eq_false hq,decide_eq_false (fun hh=>hh.elim hp hq)]
  simp only [step,Option.bind_some,hi,n107,n109,n112]
  by_cases hc:b=37∨b=98∨b=107∨b=109∨b=112
  ·have hc':(((b=37∨b=98)∨b=107)∨b=109)∨b=112:=by
    rcases hc with h | h | h | h | h <;> simp [h]
   rw [if_pos hc]
   exact ae.pos (decide_eq_true hc') (.ret _)
  ·have hc' : ¬ ((((b=37∨b=98)∨b=107)∨b=109)∨b=112):=by
    rintro ((((h | h) | h) | h) | h) <;> exact hc (by simp [h])
   rw [if_neg hc]
   refine ae.neg (by rw [decide_eq_true_eq]; exact hc') ?_
   by_cases hb:b=123
   ·rw [if_pos hb]
    refine ae.neg (by simp only [n123,decide_eq_true hb]; decide) ?_
    simp only [List.length_cons] at hr
    have hl:=xz (a :: b :: q) (by simp; omega) (q.length) 2 (by simp; omega)
    rw [show (a :: b :: q:By).drop 2=q from rfl] at hl
    have h2':(((2:Nat):Nat):Int)=2:=rfl
    refine ae.bind hl.run ?_
    have htl:(q.takeWhile (fun c=>c != 125)).length≤q.length:=(List.takeWhile_prefix _).length_le
    by_cases hk:(q.takeWhile (fun c=>c != 125)).length<q.length
    ·have hne : ¬ (((2+(q.takeWhile (fun c=>c != 125)).length:Nat):Int)=((a :: b :: q:By).length:Int)):=by simp only [List.length_cons]; omega
     have hs:sub (a :: b :: q:By) 2 ((2+(q.takeWhile (fun c=>c != 125)).length:Nat):Int)=some (q.takeWhile (fun c=>c != 125)):=by
      have:=jT (a :: b :: q:By) 2 (2+(q.takeWhile (fun c=>c != 125)).length) (by omega) (by simp only [List.length_cons]; omega)
      refine (this : _ = _).trans ?_
      rw [show (a :: b :: q:By).drop 2=q from rfl,Nat.add_sub_cancel_left]
      congr 1
      conv=>rhs; rw [← List.take_length (l:=q.takeWhile (fun c=>c != 125))]
      exact (congrArg (List.take _) (List.takeWhile_append_dropWhile (p:=fun c=>c != 125) (l:=q)).symm).trans (List.take_append_of_le_length (Nat.le_refl _))
     have hn:=wX (q.takeWhile (fun c=>c != 125)) (by omega)
     refine ae.bind (r:=((((2+(q.takeWhile (fun c=>c != 125)).length:Nat):Int), !(nmP (q.takeWhile (fun c=>c != 125))),()):Int×Bool×Unit)) (ae.pos (decide_eq_false hne) (ae.bind (.of fun F=>hs) (ae.bind hn (.ret _)))) ?_
     by_cases hnm:nmP (q.takeWhile (fun c=>c != 125))=true
     ·have hg:(if (q.takeWhile (fun c=>c != 125)).length<q.length∧nmP (q.takeWhile (fun c=>c != 125))=true then (q.takeWhile (fun c=>c != 125)).length+3 else 0)=(q.takeWhile (fun c=>c != 125)).length+3:=if_pos ⟨hk,hnm⟩
      rw [hg,hnm]
      refine ae.neg (by show ¬ (!true)=true; decide) (.of fun F => ?_)
      simp only
      rw [wrap64 _ (by omega) (by omega)]
      congr 1
      omega
     ·have hnm':nmP (q.takeWhile (fun c=>c != 125))=false:=by simpa using hnm
      have hg:(if (q.takeWhile (fun c=>c != 125)).length<q.length∧nmP (q.takeWhile (fun c=>c != 125))=true then (q.takeWhile (fun c=>c != 125)).length+3 else 0)=0:=if_neg (fun hh=>hnm hh.2)
      rw [hg,hnm']
      exact ae.pos rfl (.ret _)
    ·have he:(((2+(q.takeWhile (fun c=>c != 125)).length:Nat):Int)=((a :: b :: q:By).length:Int)):=by simp only [List.length_cons]; omega
     have hg:(if (q.takeWhile (fun c=>c != 125)).length<q.length∧nmP (q.takeWhile (fun c=>c != 125))=true then (q.takeWhile (fun c=>c != 125)).length+3 else 0)=0:=if_neg (fun hh=>hk hh.1)
     rw [hg]
     refine ae.bind (r:=((((2+(q.takeWhile (fun c=>c != 125)).length:Nat):Int),true,()):Int×Bool×Unit)) (ae.neg (by rw [decide_eq_true he]; decide) (.ret _)) ?_
     exact ae.pos rfl (.ret _)
   ·rw [if_neg hb]
    exact ae.pos (by simp only [n123,decide_eq_false hb]; rfl) (.ret _)
/-! ### checks -/
theorem tg (s:By) (l:List Int) (hl:l.length≤1000000) : ∀ (n i:Nat),i+n=l.length→af b9 (s,l,(i:Int),()) (if (l.drop i).all (fun x=>decide (gq x≠0))=true then .inl (s,()) else .inr (false,()))
 | 0,i,h=>by
  refine af.fin (.of fun F => ?_)
  unfold b9
  rw [if_neg (by rw [decide_eq_true_eq]; simp only; omega),List.drop_eq_nil_of_le (by omega)]
  rfl
 | n+1,i,h=>by
  have hi:i<l.length:=by omega
  have hx0:idx l (i:Int)=some l[i]:=aV _ _ _ (List.getElem?_eq_getElem hi)
  have hw:IntKind.i64.wrap ((i:Int)+1)=((i+1:Nat):Int):=by rw [wrap64 _ (by omega) (by omega)]; omega
  have ih:=tg s l hl n (i+1) (by omega)
  rw [List.drop_eq_getElem_cons hi,List.all_cons]
  generalize l[i]=c at *
  by_cases h0:gq c=0
  ·rw [decide_eq_false (fun hh=>hh h0),Bool.false_and]
   refine af.fin (.of fun F => ?_)
   unfold b9
   rw [if_pos (by rw [decide_eq_true_eq]; simp only; omega)]
   simp only [hx0,Option.bind_some,np,decide_eq_true h0]
   rfl
  ·rw [decide_eq_true h0,Bool.true_and]
   refine af.step (.of fun F => ?_) ih
   unfold b9
   rw [if_pos (by rw [decide_eq_true_eq]; simp only; omega)]
   simp only [hx0,Option.bind_some,np,decide_eq_false h0,Bool.false_eq_true,if_false,hw]
theorem Dp (s:By) (hs:s.length≤1000) : ∀ (n p:Nat),s.length - p≤n→p≤s.length→af aW (s,(p:Int),()) (match qQ (s.drop p) with
  | some _ => .inl (s,())
  | none => .inr (false,())):=by
 intro n
 induction n with
 | zero =>
  intro p hn hp
  refine af.fin (.of fun F => ?_)
  unfold aW
  rw [if_neg (by rw [decide_eq_true_eq]; simp only; omega),List.drop_eq_nil_of_le (by omega),Ck]
 | succ n ih =>
  intro p hn hp
  by_cases hlt:p<s.length
  case neg =>
   refine af.fin (.of fun F => ?_)
   unfold aW
   rw [if_neg (by rw [decide_eq_true_eq]; simp only; omega),List.drop_eq_nil_of_le (by omega),Ck]
  have hd:s.drop p=s[p] :: s.drop (p+1):=List.drop_eq_getElem_cons hlt
  have hx0:idx s (p:Int)=some s[p]:=aV _ _ _ (List.getElem?_eq_getElem hlt)
  have hse:=ec s p (by omega)
  have hlen:(s.drop p).length=s.length - p:=List.length_drop
  have hw1:IntKind.i64.wrap ((p:Int)+1)=((p+1:Nat):Int):=by rw [wrap64 _ (by omega) (by omega)]; omega
  have ih1:=ih (p+1) (by omega) (by omega)
  have hdd : ∀ m,(s.drop p).drop m=s.drop (p+m):=fun m=>List.drop_drop
  rw [hd] at hse hlen hdd ⊢
  rw [um]
  generalize hr:s.drop (p+1)=r at *
  generalize s[p]=c at *
  have n37:((c.toNat:Int)=37)=(c=37):=nvB c 37
  by_cases h37:c=37
  ·rw [if_pos h37]
   have hgle:=Ll (c :: r)
   have h1:=pG (c :: r)
   have hgt:=LV c r (by simp only [List.length_cons] at hlen; omega)
   have hbody : ∀ z,ae (fun F=>(if decide ((gC (c :: r):Int)=0)=true then some (Sum.inr (Sum.inr (false,()))) else some (Sum.inl (s,IntKind.i64.wrap ((p:Int)+(gC (c :: r):Int)),())):Option ((By×Int×Unit) ⊕ (By×Unit ⊕ Bool×Unit)))) z→ae (fun F=>aW F (s,(p:Int),())) z:=by
    intro z hz
    unfold aW
    refine ae.pos (by rw [decide_eq_true_eq]; simp only; omega) ?_
    refine ae.bind (.of fun F=>hx0) ?_
    refine ae.neg (by simp only [n37,decide_eq_true h37]; decide) ?_
    refine ae.bind (.of fun F=>hse) ?_
    exact ae.bind hgt hz
   by_cases hg:gC (c :: r)=0
   ·rw [if_pos hg]
    exact af.fin (hbody _ (ae.pos (by rw [decide_eq_true_eq]; omega) (.ret _)))
   ·rw [if_neg hg]
    have hw:IntKind.i64.wrap ((p:Int)+(gC (c :: r):Int))=((p+gC (c :: r):Nat):Int):=by rw [wrap64 _ (by omega) (by omega)]; omega
    have ihg:=ih (p+gC (c :: r)) (by omega) (by omega)
    rw [← hdd] at ihg
    refine af.step (hbody (.inl (s,((p+gC (c :: r):Nat):Int),())) (ae.neg (by rw [decide_eq_true_eq]; omega) (.of fun F=>by rw [hw]))) ?_
    cases hx:qQ ((c :: r).drop (gC (c :: r))) with
    | none=>rw [hx] at ihg; exact ihg
    | some l=>rw [hx] at ihg; exact ihg
  ·rw [if_neg h37]
   refine af.step (x':=(s,((p+1:Nat):Int),())) (.of fun F => ?_) ?_
   ·unfold aW
    rw [if_pos (by rw [decide_eq_true_eq]; simp only; omega)]
    simp only [hx0,Option.bind_some,n37,decide_eq_false h37,Bool.not_false,if_true,hw1]
   ·cases hx:qQ r with
    | none=>rw [hx] at ih1; exact ih1
    | some l=>rw [hx] at ih1; exact ih1
theorem CG (s:By):oF s=((de s).map (·.1)).all (fun x=>decide (gq x≠0)):=by unfold oF; rw [List.all_map]; rfl
def tY (s:By):Bool:=decide (s.length≤60) && (yz s).isSome
theorem zN (s:By):(oF s && (qQ s).isSome)=(yz s).isSome:=by
 have h:=AO s.length s (Nat.le_refl _)
 cases hc:yz s with
 | none =>
  rw [hc] at h
  rcases h with h | h
  ·rw [h]; rfl
  ·rw [h]; simp
 | some l =>
  rw [hc] at h
  obtain ⟨h1,m,h2,_⟩:=h
  rw [h1,h2]
  rfl
theorem G6 (s:By) (hs:s.length≤1000):ae (fun F=>eA F s) (tY s):=by
 unfold eA
 have hsl:=yM s
 refine ae.bind (uL s (by omega)) ?_
 have h0:=tg s ((de s).map (·.1)) (by rw [List.length_map]; omega) ((de s).map (·.1)).length 0 (by omega)
 rw [List.drop_zero, ← CG] at h0
 refine ae.bind h0.run ?_
 have hct:=zN s
 unfold tY
 rw [← hct]
 by_cases ha:oF s=true
 ·rw [if_pos ha,ha,Bool.true_and]
  simp only [aB]
  have h1:=Dp s hs s.length 0 (by omega) (by omega)
  rw [List.drop_zero] at h1
  refine ae.bind h1.run ?_
  cases qQ s with
  | none=>exact .of fun F=>by simp [aN]
  | some m =>
   refine .of fun F => ?_
   simp only [aB,Option.isSome_some,Bool.and_true]
   congr 1
   rw [Bool.eq_iff_iff,decide_eq_true_eq,decide_eq_true_eq]
   omega
 ·have ha':oF s=false:=by simpa using ha
  rw [if_neg ha,ha',Bool.false_and,Bool.and_false]
  exact .of fun F=>rfl
end Go.Vm
