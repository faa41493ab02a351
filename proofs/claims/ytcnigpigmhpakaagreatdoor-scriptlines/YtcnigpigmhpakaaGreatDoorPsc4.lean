/- Acts as lines: the program's and the document's small functions. No condition but on lengths. -/
import Derived.Test.YtcnigpigmhpakaaGreatDoorPu2
import Derived.Test.YtcnigpigmhpakaaGreatDoorPj7
import Derived.Test.YtcnigpigmhpakaaGreatDoorPu3
import Derived.Test.YtcnigpigmhpakaaGreatDoorFscr
import Derived.Test.YtcnigpigmhpakaaGreatDoorFref34
import Derived.Lib.ValidLaws
import Derived.Lib.SplitLaws
namespace Go.Vm
open Go.Proofs
open Go.Lib (decodeL decodeN decodeL_N decode_N decodeN_shape decodeL_le decDigits itoa validD)
set_option linter.unusedVariables false
set_option linter.unusedSimpArgs false
theorem ae.orB {α:Type} {c d:Bool} {f:Bool→α} {m:Nat→Option α} (h:ae m (f d)):ae (fun F=>if c=false then m F else some (f true)) (f (c || d)):=by
 cases c with
 | false=>exact ae.pos rfl h
 | true=>exact ae.neg (by simp) (.ret _)
theorem ae.wE {α:Type} {c d:Bool} {f:Bool→α} {m:Nat→Option α} (h:c=true→ae m (f d)):ae (fun F=>if c=true then m F else some (f false)) (f (c && d)):=by
 cases c with
 | true=>exact ae.pos rfl (h rfl)
 | false=>exact ae.neg (by simp) (.ret _)
theorem nvC (c k:UInt8):((c.toNat:Int)=(k.toNat:Int))=(c=k):=by
 apply propext
 constructor
 ·intro hh; exact UInt8.toNat_inj.1 (by omega)
 ·intro hh; rw [hh]
abbrev AcT:=Int×Int×Int×Int×Int×Int×Int×By×By×By×By×Unit
def ofA (x:di):AcT:=(x.kind,x.a,x.b,x.c,x.client,x.serial,x.tenant,x.key,x.method,x.path,x.body,())
def toA (y:AcT):di:=⟨y.1,y.2.1,y.2.2.1,y.2.2.2.1,y.2.2.2.2.1,y.2.2.2.2.2.1,y.2.2.2.2.2.2.1,y.2.2.2.2.2.2.2.1,y.2.2.2.2.2.2.2.2.1,y.2.2.2.2.2.2.2.2.2.1,y.2.2.2.2.2.2.2.2.2.2.1⟩
theorem FA (y:AcT):ofA (toA y)=y:=rfl
abbrev zAc:AcT:=(0,0,0,0,0,0,0,[],[],[],[],())
def I64 (n:Int):Prop := -9223372036854775808≤n∧n≤9223372036854775807
/-! ### numbers, uses, words -/
def ir (k:Int):Int:=if k=9 then 3 else if k=13 then 2 else if k=7∨k=11∨k=12 then 0 else 1
theorem tM (F:Nat) (k:Int):b8 F k=some (ir k):=by
 unfold b8 ir
 by_cases h9:k=9
 ·simp [h9]
 by_cases h13:k=13
 ·simp [h9,h13]
 by_cases h7:k=7
 ·simp [h9,h13,h7]
 by_cases h11:k=11
 ·simp [h9,h13,h7,h11]
 by_cases h12:k=12
 ·simp [h9,h13,h7,h11,h12]
 ·simp [h9,h13,h7,h11,h12]
theorem rH (F:Nat) (k:Int):cN F k=some (ir k):=by
 unfold cN ir
 by_cases h9:k=9
 ·simp [h9]
 by_cases h13:k=13
 ·simp [h9,h13]
 by_cases h7:k=7
 ·simp [h9,h13,h7]
 by_cases h11:k=11
 ·simp [h9,h13,h7,h11]
 by_cases h12:k=12
 ·simp [h9,h13,h7,h11,h12]
 ·simp [h9,h13,h7,h11,h12]
theorem kW (n:Nat):ir (n:Int)=(bn n:Int):=by
 unfold ir bn
 by_cases h9:n=9
 ·rw [if_pos h9,if_pos (by omega)]; rfl
 rw [if_neg h9,if_neg (by omega)]
 by_cases h13:n=13
 ·rw [if_pos h13,if_pos (by omega)]; rfl
 rw [if_neg h13,if_neg (by omega)]
 by_cases h7:n=7∨n=11∨n=12
 ·rw [if_pos h7,if_pos (by omega)]; rfl
 ·rw [if_neg h7,if_neg (by omega)]; rfl
theorem xF (F:Nat) (n:Int) (h:I64 n):fY F n=some (itoa n,okI n):=by
 unfold fY lJ zE okI
 rw [if_pos (decide_eq_true h.1),if_pos (decide_eq_true h.2)]
 by_cases h1 : -1000000000000000<n
 ·simp [h1]
 ·simp [h1]
theorem nG (F:Nat) (n:Int):bH F n=some (okI n):=by
 unfold bH okI
 by_cases h1 : -1000000000000000<n
 ·simp [h1]
 ·simp [h1]
theorem Ay (F:Nat):jc F ()=some aH:=rfl
theorem mJ:aH.length=14:=rfl
theorem r6 (F:Nat) (k:Int):cO F k=some (if k<0∨14≤k then [] else aH.getD k.toNat []):=by
 unfold cO
 by_cases hk:k<0
 ·simp [hk]
 by_cases h14:14≤k
 ·simp [hk,h14]
 obtain ⟨n,rfl⟩:=Int.eq_ofNat_of_zero_le (show 0≤k by omega)
 have hn:n<aH.length:=by rw [mJ]; omega
 have:=uU aH n (n:Int) rfl hn
 have hg:aH.getD n []=aH[n]:=by rw [List.getD_eq_getElem?_getD,List.getElem?_eq_getElem hn]; rfl
 rw [if_neg (show ¬((n:Int)<0∨14≤(n:Int)) by omega),Int.toNat_natCast,hg,decide_eq_false hk,decide_eq_false h14,if_pos rfl]
 show (idx aH (n:Int)).bind _ = _
 rw [this]
 rfl
/-! ### right texts -/
theorem sj (s:By):validD s=true→OkT s:=by
 induction s using pC with
 | h0=>exact fun _ => .nil
 | h1 l hne ih =>
  intro h
  rw [Go.Lib.validD_step l hne] at h
  by_cases hb:(decodeL l).1=65533∧(decodeL l).2=1
  ·rw [if_pos hb] at h; cases h
  ·rw [if_neg hb] at h
   have ht:=iO l hne hb
   rw [← List.take_append_drop (decodeL l).2 l,ht]
   exact .cons _ _ (rU l) (ih h)
def vq (l:List (Int×B8)):Bool:=l.all fun x => !(decide (x.1=65533)) || decide (x.2.length=3)
theorem A9 (s:By):validD s=vq (fT s):=by
 induction s using pC with
 | h0=>rw [mL]; rfl
 | h1 l hne ih =>
  rw [Go.Lib.validD_step l hne,mQ hne]
  have hle:=decodeL_le l hne
  have htl:(l.take (decodeL l).2).length=(decodeL l).2:=by rw [List.length_take]; omega
  show _=((!(decide (((decodeL l).1:Int)=65533)) || decide ((l.take (decodeL l).2).length=3)) && vq (fT (l.drop (decodeL l).2)))
  rw [← ih,htl]
  by_cases hb:(decodeL l).1=65533∧(decodeL l).2=1
  ·rw [if_pos hb,hb.2]
   have:(((decodeL l).1:Nat):Int)=65533:=by rw [hb.1]; rfl
   rw [decide_eq_true this]
   rfl
  ·rw [if_neg hb]
   by_cases h1:(decodeL l).1=65533
   ·have ht:=iO l hne hb
    have h3:(cj (decodeL l).1).length=3:=by rw [h1]; rfl
    rw [← ht,htl] at h3
    rw [h3]
    simp
   ·have : ¬ (((decodeL l).1:Nat):Int)=65533:=by omega
    rw [decide_eq_false this]
    simp
theorem Hg (s:By) (hs:s.length≤1000):ae (fun F=>kJ F s) (if s.length≤400∧validD s=true then (quo s,true) else ([],false)):=by
 unfold kJ
 have hv : ∀ F,dA F s=some (validD s):=by
  intro F
  unfold dA zd
  rw [if_pos (by rw [decide_eq_true_eq]; omega)]
 by_cases h4:s.length≤400
 ·have h4' : ¬ (400:Int)<(s.length:Int):=by omega
  refine ae.bind (r:=((s, !(validD s),()):By×Bool×Unit)) (ae.pos (decide_eq_false h4') (ae.bind (.of hv) (.ret _))) ?_
  cases hb:validD s with
  | true =>
   rw [if_pos ⟨h4,rfl⟩]
   refine ae.neg Bool.false_ne_true ?_
   have hq:=Dc s
   refine ae.bind (Ii [] s (sj s hb) (by unfold quo; simp; omega)) ?_
   exact .ret _
  | false =>
   rw [if_neg (fun hh=>Bool.false_ne_true hh.2)]
   exact ae.pos rfl (.ret _)
 ·have h4':(400:Int)<(s.length:Int):=by omega
  rw [if_neg (fun hh=>h4 hh.1)]
  refine ae.bind (r:=((s,true,()):By×Bool×Unit)) (ae.neg (by rw [decide_eq_true h4']; decide) (.ret _)) ?_
  exact ae.pos rfl (.ret _)
def mM (t:By):By:=if t.length≤400∧validD t=true then quo t else []
theorem tV {t:By} (h:dB validD t=true):mM t=quo t:=by
 unfold dB at h
 rw [Bool.and_eq_true,Bool.and_eq_true,decide_eq_true_eq,decide_eq_true_eq] at h
 exact if_pos ⟨h.1.2,h.1.1⟩
theorem zf (l:By):decide ((l.length:Int)≤400)=decide (l.length≤400):=by
 by_cases h:l.length≤400
 ·rw [decide_eq_true h,decide_eq_true (by omega)]
 ·rw [decide_eq_false h,decide_eq_false (by omega)]
theorem Ia (t:By) (ht:t.length≤1000):ae (fun F=>jH F t) (mM t,dB validD t):=by
 unfold jH
 refine ae.bind (Hg t ht) ?_
 unfold mM dB
 by_cases h:t.length≤400∧validD t=true
 ·rw [if_pos h,if_pos h,h.2,decide_eq_true h.1]
  exact ae.bind (r:=(quo t,decide ((quo t).length≤400),())) (ae.pos rfl (.of fun F=>by simp only [zf])) (.of fun F=>rfl)
 ·rw [if_neg h,if_neg h]
  have e:(validD t && decide (t.length≤400))=false:=by
   rw [Bool.eq_false_iff]
   intro hh
   rw [Bool.and_eq_true,decide_eq_true_eq] at hh
   exact h ⟨hh.2,hh.1⟩
  rw [e]
  exact ae.bind (ae.neg (by simp) (.ret _)) (.of fun F=>rfl)
abbrev Sg:=Int×B8
def oR (l:List Sg) (i:Nat):Nat:=((l.take i).flatMap (·.2)).length
theorem Es (l:List Sg) (i:Nat) (h:i<l.length):oR l (i+1)=oR l i+l[i].2.length:=by
 unfold oR
 rw [List.take_succ_eq_append_getElem h,List.flatMap_append,List.length_append]
 simp
theorem yr : ∀ (l:List Sg) (p:Nat),(ats p l).length=l.length
 | [],p=>rfl
 | x :: l,p=>by
  show (ats (p+x.2.length) l).length+1=l.length+1
  rw [yr l]
theorem yJ : ∀ (l:List Sg) (p i:Nat),i<l.length→(ats p l)[i]? = some ((p+oR l i:Nat):Int)
 | [],p,i,h=>absurd h (Nat.not_lt_zero _)
 | x :: l,p,0,h=>by
  show some (p:Int) = _
  rfl
 | x :: l,p,i+1,h=>by
  show (ats (p+x.2.length) l)[i]? = _
  rw [yJ l (p+x.2.length) i (by simpa using h)]
  have:oR (x :: l) (i+1)=x.2.length+oR l i:=by unfold oR; simp
  rw [this,Nat.add_assoc]
theorem ta (s:By) (l:List Sg) (hl:l.length≤1000) (hsl:s.length≤1000) (hpos:oR l l.length=s.length) : ∀ (n i:Nat),i+n=l.length →
  af cF (s,l.map (·.1),ats 0 l,(i:Int),()) (if vq (l.drop i)=true then .inl (s,()) else .inr (false,()))
 | 0,i,h=>by
  refine af.fin (.of fun F => ?_)
  unfold cF
  rw [if_neg (by rw [decide_eq_true_eq,List.length_map]; simp only; omega),List.drop_eq_nil_of_le (by omega)]
  rfl
 | n+1,i,h=>by
  have hi:i<l.length:=by omega
  have hr:idx (l.map (·.1)) (i:Int)=some l[i].1:=eQ _ _ _ (by simp [hi])
  have ha:idx (ats 0 l) (i:Int)=some ((oR l i:Nat):Int):=by
   have:=eQ (ats 0 l) i _ (yJ l 0 i hi)
   rw [Nat.zero_add] at this
   exact this
  have hnext:=Es l i hi
  have hmono:oR l (i+1)≤s.length:=by
   rw [← hpos]
   unfold oR
   rw [List.take_length]
   have:l.flatMap (·.2)=(l.take (i+1)).flatMap (·.2) ++ (l.drop (i+1)).flatMap (·.2):=by rw [← List.flatMap_append,List.take_append_drop]
   rw [this,List.length_append]
   omega
  have hw:IntKind.i64.wrap ((i:Int)+1)=((i+1:Nat):Int):=by rw [wrap64 _ (by omega) (by omega)]; omega
  have hd:IntKind.i64.wrap (((oR l (i+1):Nat):Int) - ((oR l i:Nat):Int))=(l[i].2.length:Int):=by rw [wrap64 _ (by omega) (by omega)]; omega
  rw [List.drop_eq_getElem_cons hi]
  have hR:vq (l[i] :: l.drop (i+1))=((!(decide (l[i].1=65533)) || decide (l[i].2.length=3)) && vq (l.drop (i+1))):=rfl
  rw [hR]
  have hst:ae (fun F=>cF F (s,l.map (·.1),ats 0 l,(i:Int),())) (if (!(decide (l[i].1=65533)) || decide (l[i].2.length=3))=true then .inl (s,l.map (·.1),ats 0 l,((i+1:Nat):Int),()) else .inr (.inr (false,()))):=by
   unfold cF
   refine ae.pos (by rw [decide_eq_true_eq,List.length_map]; simp only; omega) ?_
   refine ae.bind (r:=((s,l.map (·.1),ats 0 l,(i:Int),((oR l (i+1):Nat):Int),()):By×List Int×List Int×Int×Int×Unit)) ?_ ?_
   ·by_cases hlast:i+1<l.length
    ·have ha1:idx (ats 0 l) ((i+1:Nat):Int)=some ((oR l (i+1):Nat):Int):=by
      have:=eQ (ats 0 l) (i+1) _ (yJ l 0 (i+1) hlast)
      rw [Nat.zero_add] at this
      exact this
     refine ae.pos (by rw [decide_eq_true_eq]; simp only [hw,yr]; omega) ?_
     refine ae.bind (.of fun F => ?_) (.ret _)
     simp only [hw]
     exact ha1
    ·refine ae.neg (by rw [decide_eq_true_eq]; simp only [hw,yr]; omega) (.of fun F => ?_)
     have:i+1=l.length:=by omega
     rw [this,hpos]
   ·refine ae.bind (r:=((s,l.map (·.1),ats 0 l,(i:Int), !(!(decide (l[i].1=65533)) || decide (l[i].2.length=3)),()):By×List Int×List Int×Int×Bool×Unit)) ?_ ?_
    ·refine ae.bind (.of fun F=>hr) ?_
     by_cases h6:l[i].1=65533
     ·refine ae.pos (decide_eq_true h6) ?_
      refine ae.bind (.of fun F=>ha) (.of fun F => ?_)
      have e:decide ((l[i].2.length:Int)=3)=decide (l[i].2.length=3):=by
       by_cases h3:l[i].2.length=3
       ·rw [decide_eq_true h3,decide_eq_true (by omega)]
       ·rw [decide_eq_false h3,decide_eq_false (by omega)]
      simp only [hd,e,decide_eq_true h6,Bool.not_true,Bool.false_or]
     ·refine ae.neg (by rw [decide_eq_false h6]; decide) (.of fun F => ?_)
      simp only [decide_eq_false h6,Bool.not_false,Bool.true_or,Bool.not_true]
    ·cases hb:(!(decide (l[i].1=65533)) || decide (l[i].2.length=3)) with
     | true=>exact ae.neg (by simp) (.of fun F=>by simp only [hw]; rfl)
     | false=>exact ae.pos rfl (.of fun F=>rfl)
  cases hb:(!(decide (l[i].1=65533)) || decide (l[i].2.length=3)) with
  | true =>
   rw [hb,if_pos rfl] at hst
   rw [Bool.true_and]
   exact af.step hst (ta s l hl hsl hpos n (i+1) (by omega))
  | false =>
   rw [hb,if_neg (by simp)] at hst
   rw [Bool.false_and,if_neg (by simp)]
   exact af.fin hst
theorem Fz (s:By) (hs:s.length≤1000):ae (fun F=>eC F s) (validD s && decide (s.length≤400)):=by
 have hl:=EB s
 have hpos:oR (fT s) (fT s).length=s.length:=by
  unfold oR
  rw [List.take_length,zV]
 have hloop:=ta s (fT s) (by omega) (by omega) hpos (fT s).length 0 (by omega)
 rw [List.drop_zero, ← A9] at hloop
 unfold eC
 refine ae.bind (AU s (by omega)) (ae.bind hloop.run (.of fun F => ?_))
 cases validD s with
 | true =>
  simp only [if_true,eW,zf,Bool.true_and]
 | false=>rfl
theorem tK (s:By) (hs:s.length≤1000):ae (fun F=>cc F s) (dB validD s):=by
 unfold cc
 refine ae.bind (r:=(dB validD s,())) (ae.bind (Fz s hs) ?_) (.ret _)
 refine ae.wE (c:=validD s && decide (s.length≤400)) (d:=decide ((quo s).length≤400)) (f:=fun b=>(b,())) fun _ => ?_
 exact ae.bind (j1 s (by omega)) (.of fun F=>by simp only [zf])
end Go.Vm
