/- JSON: the document's quotes, places, ends are the plain ones. No condition but on lengths. -/
import Derived.Test.YtcnigpigmhpakaaGreatDoorPj14
namespace Go.Vm
open Go.Lib (decodeL decodeN decodeL_N decode_N decodeN_shape decodeL_le decDigits itoa)
set_option linter.unusedVariables false
set_option linter.unusedSimpArgs false
/-! ### quotes -/
abbrev wA:By := [48,49,50,51,52,53,54,55,56,57,97,98,99,100,101,102]
theorem HV : ∀ c:Fin 32,sub wA (IntKind.u8.wrap (((c.val:Nat):Int).tdiv 16)) (IntKind.u8.wrap (IntKind.u8.wrap (((c.val:Nat):Int).tdiv 16)+1))=some [oF (c.val / 16)]∧sub wA (((c.val:Nat):Int).tmod 16) (IntKind.u8.wrap (((c.val:Nat):Int).tmod 16+1))=some [oF (c.val % 16)]:=by decide +kernel
theorem zR (F:Nat) (t out:By) (i:Nat) (c:UInt8) (hc:t[i]? = some c) (ht:t.length≤1000000) (ho:out.length≤10000000) :
  cE F (t,wA,out,(i:Int),())=some (.inl (t,wA,out ++ kT c,((i+1:Nat):Int),())):=by
 have hi:i<t.length:=by
  rcases Nat.lt_or_ge i t.length with h | h
  ·exact h
  ·rw [List.getElem?_eq_none h] at hc; cases hc
 have h0:(i:Int)<(t.length:Int):=by omega
 have hx:=eQ t i c hc
 have hw:IntKind.i64.wrap ((i:Int)+1)=((i+1:Nat):Int):=by rw [wrap64 _ (by omega) (by omega)]; omega
 have hs:sub t (i:Int) ((i+1:Nat):Int)=some [c]:=by
  rw [rY t _ _ (by omega) (by omega)]
  have:t.drop i=c :: t.drop (i+1):=by
   rw [List.drop_eq_getElem_cons hi]
   congr 1
   rw [List.getElem?_eq_getElem hi] at hc
   exact Option.some.inj hc
  rw [this,show i+1 - i=1 by omega]
  rfl
 have n34:=nvB c 34; have n92:=nvB c 92; have n8:=nvB c 8; have n9:=nvB c 9; have n10:=nvB c 10; have n12:=nvB c 12; have n13:=nvB c 13
 rw [show ((34:UInt8).toNat:Int)=34 from rfl] at n34
 rw [show ((92:UInt8).toNat:Int)=92 from rfl] at n92
 rw [show ((8:UInt8).toNat:Int)=8 from rfl] at n8
 rw [show ((9:UInt8).toNat:Int)=9 from rfl] at n9
 rw [show ((10:UInt8).toNat:Int)=10 from rfl] at n10
 rw [show ((12:UInt8).toNat:Int)=12 from rfl] at n12
 rw [show ((13:UInt8).toNat:Int)=13 from rfl] at n13
 have big : ∀ m:Nat,m≤100→decide (out.length+m≤9223372036854775807)=true:=fun m hm=>by rw [decide_eq_true_eq]; omega
 unfold cE
 rw [if_pos (by simpa using h0)]
 simp only [hx,Option.bind_some,n34,n92]
 by_cases c1:c=34∨c=92
 ·have e1:(if decide (c=34)=false then some (t,wA,out,(i:Int),(c.toNat:Int),decide (c=92),()) else some (t,wA,out,(i:Int),(c.toNat:Int),true,()):Option (By×By×By×Int×Int×Bool×Unit))=some (t,wA,out,(i:Int),(c.toNat:Int),true,()):=by
   by_cases h:c=34
   ·rw [decide_eq_true h]; rfl
   ·rw [decide_eq_false h,decide_eq_true (c1.resolve_left h)]; rfl
  rw [e1,Option.bind_some]
  simp only [hw,hs,Option.bind_some,if_true]
  rw [if_pos (by rw [decide_eq_true_eq]; simp only [List.length_append,List.length_cons,List.length_nil]; omega),if_pos (by rw [decide_eq_true_eq]; simp only [List.length_append,List.length_cons,List.length_nil]; omega),Option.bind_some]
  simp only [hw]
  unfold kT
  rw [if_pos c1,List.append_assoc]
  rfl
 have c34 : ¬ c=34:=fun h=>c1 (.inl h)
 have c92 : ¬ c=92:=fun h=>c1 (.inr h)
 rw [decide_eq_false c34,decide_eq_false c92,if_pos rfl,Option.bind_some]
 simp only [Bool.false_eq_true,if_false,n8,n9,n10,n12,n13,hw]
 unfold kT
 rw [if_neg c1]
 have fin : ∀ (w z:By),w.length≤10→z=w→(if decide (out.length+w.length≤9223372036854775807)=true then some (t,wA,out ++ w,(i:Int),()) else none:Option (By×By×By×Int×Unit)).bind (fun v7=>some (Sum.inl (v7.1,v7.2.1,v7.2.2.1,IntKind.i64.wrap (v7.2.2.2.1+1),())))=some (Sum.inl (t,wA,out ++ z,((i+1:Nat):Int),()):(By×By×By×Int×Unit) ⊕ (By×Unit)):=by
  intro w z hwl hz
  rw [if_pos (big _ (by omega)),Option.bind_some,hz]
  simp only [hw]
 by_cases c8:c=8
 ·rw [if_pos (decide_eq_true c8),if_pos c8]; exact fin [92,98] _ (by decide) rfl
 rw [if_neg (by simpa using c8),if_neg c8]
 by_cases c9:c=9
 ·rw [if_pos (decide_eq_true c9),if_pos c9]; exact fin [92,116] _ (by decide) rfl
 rw [if_neg (by simpa using c9),if_neg c9]
 by_cases c10:c=10
 ·rw [if_pos (decide_eq_true c10),if_pos c10]; exact fin [92,110] _ (by decide) rfl
 rw [if_neg (by simpa using c10),if_neg c10]
 by_cases c12:c=12
 ·rw [if_pos (decide_eq_true c12),if_pos c12]; exact fin [92,102] _ (by decide) rfl
 rw [if_neg (by simpa using c12),if_neg c12]
 by_cases c13:c=13
 ·rw [if_pos (decide_eq_true c13),if_pos c13]; exact fin [92,114] _ (by decide) rfl
 rw [if_neg (by simpa using c13),if_neg c13]
 by_cases c32:c.toNat<32
 ·have c32':(c.toNat:Int)<32:=by omega
  rw [if_pos (decide_eq_true c32'),if_pos c32]
  obtain ⟨x1,x2⟩:=HV ⟨c.toNat,c32⟩
  simp only at x1 x2
  rw [if_pos (by rw [decide_eq_true_eq]; simp only [List.length_append,List.length_cons,List.length_nil]; omega),x1,Option.bind_some,if_pos (by rw [decide_eq_true_eq]; simp only [List.length_append,List.length_cons,List.length_nil]; omega),x2,Option.bind_some,if_pos (by rw [decide_eq_true_eq]; simp only [List.length_append,List.length_cons,List.length_nil]; omega),Option.bind_some]
  simp only [hw,List.append_assoc]
  rfl
 ·have c32' : ¬ (c.toNat:Int)<32:=by omega
  rw [if_neg (by simpa using c32'),if_neg c32,hs,Option.bind_some]
  exact fin [c] _ (by simp) rfl
theorem tu (t:By) (ht:t.length≤1000000) : ∀ (n i:Nat) (out:By),i+n=t.length→out.length+6 * n≤10000000→af cE (t,wA,out,(i:Int),()) (out ++ fS (t.drop i),())
 | 0,i,out,h,ho=>by
  refine af.fin (.of fun F => ?_)
  unfold cE
  rw [if_neg (by simp; omega),List.drop_eq_nil_of_le (by omega)]
  show _=some (Sum.inr (out ++ [],()))
  rw [List.append_nil]
 | n+1,i,out,h,ho=>by
  have hi:i<t.length:=by omega
  have hd:=List.drop_eq_getElem_cons hi
  have hl:=u9 t[i]
  refine af.step (.of fun F=>zR F t out i t[i] (List.getElem?_eq_getElem hi) ht (by omega)) ?_
  have:=tu t ht n (i+1) (out ++ kT t[i]) (by omega) (by rw [List.length_append]; omega)
  rw [hd]
  rw [List.append_assoc] at this
  exact this
theorem Dc (t:By):(fS t).length≤6 * t.length:=by
 induction t with
 | nil=>exact Nat.le_refl _
 | cons c t ih =>
  have:=u9 c
  show (kT c ++ fS t).length ≤ _
  rw [List.length_append,List.length_cons]
  omega
theorem j1 (t:By) (ht:t.length≤1000000):ae (fun F=>aC F t) (quo t):=by
 unfold aC
 have h:=tu t ht t.length 0 [34] (by omega) (by simp; omega)
 refine ae.bind h.run ?_
 have:=Dc t
 refine ae.pos (by rw [decide_eq_true_eq]; simp; omega) (.of fun F => ?_)
 rfl
/-! ### opening, more -/
theorem De (s q:By) (c:UInt8) (h:c :: q <:+ s) (hs:s.length≤1000) (k:Int) (hk:0≤k∧k≤100):ae (fun F=>aQ F (st s (c :: q) k 0)) ((),st s (skp q) (k+1) (if 8<k+1 then 10 else 0)):=by
 have hw:IntKind.i64.wrap (k+1)=k+1:=wrap64 _ (by omega) (by omega)
 unfold aQ
 refine ae.bind (r:=(((),st s (c :: q) (k+1) (if 8<k+1 then 10 else 0),()):Unit×RS×Unit)) ?_ ?_
 ·refine .of fun F => ?_
  unfold st
  simp only [hw]
  by_cases h8:8<k+1
  ·rw [if_pos (decide_eq_true h8),if_pos h8,bad_eq,if_pos rfl]; rfl
  ·rw [if_neg (by simpa using h8),if_neg h8]
 ·have hb:=il s q (cr h) hs (k+1) (if 8<k+1 then 10 else 0)
  have hn:=dk h hs
  refine ae.bind (r:=((),st s (skp q) (k+1) (if 8<k+1 then 10 else 0))) ?_ (.ret _)
  unfold st at hb ⊢
  simp only [hn]
  exact hb
theorem jh (s r:By) (h:r <:+ s) (F:Nat) (k e:Int) (z:UInt8):ai F (st s (skp r) k e,(z.toNat:Int))=some (isH (skp r) e z,st s (skp r) k e):=IV F s (skp r) ((av r).trans h) k e z
theorem An (s r q:By) (h:r <:+ s) (hs:s.length≤1000) (k:Int) (z:UInt8) (hr:skp r=44 :: q):ae (fun F=>ax F (st s r k 0,(z.toNat:Int))) (true,st s q k 0):=by
 have h1:=fun F=>jh s r h F k 0 44
 have hq:44 :: q <:+ s:=hr ▸ (av r).trans h
 have hb:=il s r h hs k 0
 rw [hr] at hb
 simp only [hr,iB,decide_true] at h1
 unfold ax
 refine ae.bind hb ?_
 refine ae.bind (.of h1) ?_
 refine ae.pos rfl (.of fun F => ?_)
 unfold st
 simp only [dk hq hs]
theorem Db (s r q:By) (h:r <:+ s) (hs:s.length≤1000) (k:Int) (hk:0≤k∧k≤100) (z:UInt8) (hz:z≠44) (hr:skp r=z :: q):ae (fun F=>ax F (st s r k 0,(z.toNat:Int))) (false,st s q (k - 1) 0):=by
 have h1:=fun F=>jh s r h F k 0 44
 have h2:=fun F=>jh s r h F k 0 z
 have hq:z :: q <:+ s:=hr ▸ (av r).trans h
 have hb:=il s r h hs k 0
 rw [hr] at hb
 simp only [hr,iB,decide_eq_false hz] at h1
 simp only [hr,iB,decide_true] at h2
 have hw:IntKind.i64.wrap (k - 1)=k - 1:=wrap64 _ (by omega) (by omega)
 unfold ax
 refine ae.bind hb ?_
 refine ae.bind (.of h1) ?_
 refine ae.neg Bool.false_ne_true ?_
 refine ae.bind (.of h2) ?_
 refine ae.pos rfl (.of fun F => ?_)
 unfold st
 simp only [dk hq hs,hw]
theorem vz (s r:By) (h:r <:+ s) (hs:s.length≤1000) (k e:Int) (z:UInt8) (h1:isH (skp r) e 44=false) (h2:isH (skp r) e z=false):ae (fun F=>ax F (st s r k e,(z.toNat:Int))) (false,st s (skp r) k (if e=0 then 3 else e)):=by
 have i1:=fun F=>jh s r h F k e 44
 have i2:=fun F=>jh s r h F k e z
 have hb:=il s r h hs k e
 simp only [h1] at i1
 simp only [h2] at i2
 unfold ax
 refine ae.bind hb ?_
 refine ae.bind (.of i1) ?_
 refine ae.neg Bool.false_ne_true ?_
 refine ae.bind (.of i2) ?_
 refine ae.neg Bool.false_ne_true (.of fun F => ?_)
 unfold st
 simp only [bad_eq,Option.bind_some]
theorem ot {r:By} {z:UInt8} (h : ∀ q,r=z :: q→False) (e:Int):isH r e z=false:=by
 unfold isH
 cases r with
 | nil=>cases decide (e=0) <;> rfl
 | cons c q =>
  have : ¬ c=z:=by rintro rfl; exact h q rfl
  have h2:((c :: q).head? == some z)=false:=by simpa using this
  rw [h2,Bool.and_false]
theorem xL (s:By) (e:Nat) (x:RS) (hx:Bad s e x) (hs:s.length≤1000) (z:UInt8) : ∃ x',ae (fun F=>ax F (x,(z.toNat:Int))) (false,x')∧Bad s e x':=by
 obtain ⟨he,r,k,rfl,hr,hk⟩:=hx
 have he' : ¬ (e:Int)=0:=by omega
 have h:=vz s r hr hs k e z (px _ _ he' _) (px _ _ he' _)
 rw [if_neg he'] at h
 exact ⟨_,h,he,skp r,k,rfl,(av r).trans hr,hk⟩
/-! ### places -/
def ju:List By→By→Nat
 | [],_=>0
 | y :: l,x=>if ltB y x=true then ju l x+1 else 0
theorem CD : ∀ (l:List By) (x:By),ju l x≤l.length
 | [],_=>Nat.le_refl _
 | y :: l,x=>by
  unfold ju
  split
  ·have:=CD l x; rw [List.length_cons]; omega
  ·omega
theorem uS (l:List By) (x:By) (hl:l.length≤1000000) : ∀ (n i:Nat),i+n=l.length→af cG (l,x,(i:Int),()) (if ju (l.drop i) x=(l.drop i).length then .inl (l,()) else .inr (((i+ju (l.drop i) x:Nat):Int),decide ((l.drop i)[ju (l.drop i) x]? = some x),()))
 | 0,i,h=>by
  refine af.fin (.of fun F => ?_)
  unfold cG
  rw [if_neg (by simp; omega),List.drop_eq_nil_of_le (by omega)]
  rfl
 | n+1,i,h=>by
  have hi:i<l.length:=by omega
  have h0:(i:Int)<(l.length:Int):=by omega
  have hx:idx l (i:Int)=some l[i]:=eQ _ _ _ (List.getElem?_eq_getElem hi)
  rw [List.drop_eq_getElem_cons hi]
  by_cases hc:ltB l[i] x=true
  ·have hp:ju (l[i] :: l.drop (i+1)) x=ju (l.drop (i+1)) x+1:=by
    show (if ltB l[i] x=true then _ else _) = _
    rw [if_pos hc]
   rw [hp]
   refine af.step (x':=(l,x,((i+1:Nat):Int),())) (.of fun F => ?_) ?_
   ·unfold cG
    rw [if_pos (by simpa using h0)]
    simp only [hx,Option.bind_some]
    have hc':Op.bytesLess l[i] x=true:=hc
    rw [hc',if_neg (by decide),wrap64 _ (by omega) (by omega)]
    rfl
   ·have:=uS l x hl n (i+1) (by omega)
    simp only [List.length_cons,List.getElem?_cons_succ]
    rw [show i+(ju (l.drop (i+1)) x+1)=i+1+ju (l.drop (i+1)) x by omega]
    by_cases he:ju (l.drop (i+1)) x=(l.drop (i+1)).length
    ·rw [if_pos he] at this
     rw [if_pos (by omega)]
     exact this
    ·rw [if_neg he] at this
     rw [if_neg (by omega)]
     exact this
  ·have hp:ju (l[i] :: l.drop (i+1)) x=0:=by
    show (if ltB l[i] x=true then _ else _) = _
    rw [if_neg hc]
   rw [hp,if_neg (by rw [List.length_cons]; omega)]
   refine af.fin (.of fun F => ?_)
   unfold cG
   rw [if_pos (by simpa using h0)]
   simp only [hx,Option.bind_some]
   have hc':Op.bytesLess l[i] x=false:=by simpa using hc
   rw [hc',if_pos (by decide),List.getElem?_cons_zero,Nat.add_zero]
   simp
theorem HU (l:List By) (x:By) (hl:l.length≤1000000):ae (fun F=>cA F (l,x)) ((ju l x:Int),decide (l[ju l x]? = some x)):=by
 have h:=uS l x hl l.length 0 (by omega)
 rw [List.drop_zero] at h
 unfold cA
 refine ae.bind h.run ?_
 by_cases he:ju l x=l.length
 ·rw [if_pos he]
  refine .of fun F => ?_
  rw [aE,he,List.getElem?_eq_none (Nat.le_refl _)]
  rfl
 ·rw [if_neg he]
  refine .of fun F => ?_
  rw [aZ,Nat.zero_add]
def yk {α:Type} (l:List α) (p:Nat) (x:α):List α:=l.take p ++ [x] ++ l.drop p
theorem I8 (F:Nat) (l:List By) (p:Nat) (x:By) (hl:l.length≤1000000) (hp:p≤l.length):bJ F (l,(p:Int),x)=some (yk l p x):=by
 unfold bJ
 have h1:sub l 0 (p:Int)=some (l.take p):=by
  have:=rY l 0 p (by omega) hp
  rw [List.drop_zero,Nat.sub_zero] at this
  exact this
 have h2:sub l (p:Int) (l.length:Int)=some (l.drop p):=iH l p hp
 simp only [h1,h2,Option.bind_some]
 have hlt:(l.take p).length≤1000000:=by rw [List.length_take]; omega
 have hld:(l.drop p).length≤1000000:=by rw [List.length_drop]; omega
 rw [if_pos (by rw [decide_eq_true_eq]; omega),if_pos (by rw [decide_eq_true_eq]; simp only [List.length_singleton]; omega),if_pos (by rw [decide_eq_true_eq,List.length_append]; simp only [List.length_singleton]; omega)]
 rfl
theorem uN {α β:Type} (f:α→β) (l:List α) (p:Nat) (x:α):(yk l p x).map f=yk (l.map f) p (f x):=by unfold yk; simp
theorem vh (m:Me) : ∀ l:List Me,(∀ x∈l,x.1≠m.1)→yE m l=yk l (ju (l.map (·.1)) m.1) m
 | [],_=>rfl
 | x :: l,h=>by
  have hx:x.1≠m.1:=h x (List.mem_cons_self ..)
  have ih:=vh m l (fun y hy=>h y (List.mem_cons_of_mem _ hy))
  unfold yE
  rw [List.map_cons]
  unfold ju
  by_cases hc:ltB x.1 m.1=true
  ·rw [if_pos hc,if_neg (by rw [Av _ _ hc]; decide),ih]
   unfold yk
   rw [List.take_succ_cons,List.drop_succ_cons]
   rfl
  ·have:ltB m.1 x.1=true:=by
    cases e:ltB m.1 x.1 with
    | true=>rfl
    | false=>exact absurd (pv _ _ (by simpa using hc) e) hx
   rw [if_neg hc,if_pos this]
   rfl
theorem w6 (x:By) : ∀ l:List Me,Ris l→decide ((l.map (·.1))[ju (l.map (·.1)) x]? = some x)=l.any (fun m=>m.1 == x)
 | [],_=>by rfl
 | m :: l,h=>by
  obtain ⟨h1,h2⟩:=List.pairwise_cons.1 h
  have ih:=w6 x l h2
  rw [List.map_cons,List.any_cons]
  unfold ju
  by_cases hc:ltB m.1 x=true
  ·rw [if_pos hc,List.getElem?_cons_succ,ih]
   have:(m.1 == x)=false:=by
    rw [beq_eq_false_iff_ne]
    intro hh
    rw [hh,pf] at hc
    cases hc
   rw [this,Bool.false_or]
  ·rw [if_neg hc,List.getElem?_cons_zero]
   by_cases he:m.1=x
   ·rw [he]; simp
   ·have hf:(m.1 == x)=false:=beq_eq_false_iff_ne.2 he
    have hlt:ltB x m.1=true:=by
     cases e:ltB x m.1 with
     | true=>rfl
     | false=>exact absurd (pv _ _ (by simpa using hc) e) he
    have hl:l.any (fun m=>m.1 == x)=false:=by
     rw [List.any_eq_false]
     intro y hy
     have:=kY _ _ _ hlt (h1 y hy)
     intro hh
     rw [beq_iff_eq.1 hh,pf] at this
     cases this
    rw [hf,hl]
    simp [he]
end Go.Vm
