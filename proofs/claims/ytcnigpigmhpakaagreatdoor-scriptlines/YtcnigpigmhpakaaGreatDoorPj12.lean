/- JSON: the document's reader at its leaves is the plain one. No condition but on lengths. -/
import Derived.Test.YtcnigpigmhpakaaGreatDoorFr9
import Derived.Test.YtcnigpigmhpakaaGreatDoorPu2
import Derived.Test.YtcnigpigmhpakaaGreatDoorPj7
import Derived.Test.YtcnigpigmhpakaaGreatDoorPj11
namespace Go.Vm
open Go.Lib (decodeL decodeN decodeL_N decode_N decodeN_shape decodeL_le decDigits itoa)
set_option linter.unusedVariables false
set_option linter.unusedSimpArgs false
theorem bad_eq (F:Nat) (s:By) (p k e e':Int):aj F ((s,p,k,e,()),e')=some ((),s,p,k,(if e=0 then e' else e),()):=by
 unfold aj
 simp only
 split
 ·rename_i h
  rw [if_pos (of_decide_eq_true h)]
 ·rename_i h
  rw [if_neg (by simpa using h)]
theorem nvB (c k:UInt8):((c.toNat:Int)=(k.toNat:Int))=(c=k):=by
 apply propext
 constructor
 ·intro hh; exact UInt8.toNat_inj.1 (by omega)
 ·intro hh; rw [hh]
theorem sQ (s:By) (hs:s.length≤1000) (k e:Int) : ∀ r:By,r <:+ s→af bA ((),st s r k e,()) ((),st s (skp r) k e,())
 | [],h=>by
  refine af.fin (.of fun F => ?_)
  unfold bA st
  simp only
  rw [if_neg (by simp)]
  rfl
 | c :: q,h=>by
  have ih:=sQ s hs k e q (cr h)
  have n32:=nvB c 32; have n9:=nvB c 9; have n10:=nvB c 10; have n13:=nvB c 13
  rw [show ((32:UInt8).toNat:Int)=32 from rfl] at n32
  rw [show ((9:UInt8).toNat:Int)=9 from rfl] at n9
  rw [show ((10:UInt8).toNat:Int)=10 from rfl] at n10
  rw [show ((13:UInt8).toNat:Int)=13 from rfl] at n13
  have key:(if decide ((c.toNat:Int)=32)=false then if decide ((c.toNat:Int)=9)=false then if decide ((c.toNat:Int)=10)=false then some ((),decide ((c.toNat:Int)=13),st s (c :: q) k e,()) else some ((),true,st s (c :: q) k e,()) else some ((),true,st s (c :: q) k e,()) else some ((),true,st s (c :: q) k e,()):Option (Unit×Bool×RS×Unit))=some ((),mD c,st s (c :: q) k e,()):=by
   simp only [n32,n9,n10,n13]
   unfold mD
   by_cases c1:c=32
   ·subst c1; rfl
   by_cases c2:c=9
   ·subst c2; rfl
   by_cases c3:c=10
   ·subst c3; rfl
   by_cases c4:c=13
   ·subst c4; rfl
   simp [c1,c2,c3,c4]
  have hbody : ∀ F,bA F ((),st s (c :: q) k e,())=if mD c=true then some (.inl ((),st s q k e,())) else some (.inr ((),st s (c :: q) k e,())):=by
   intro F
   have hk:=key
   unfold st at hk
   unfold bA st
   simp only [ox h,decide_true,if_true,iC h,Option.bind_some]
   rw [hk]
   simp only [Option.bind_some]
   cases mD c with
   | true=>simp only [if_true,dk h hs]
   | false=>rfl
  by_cases hb:mD c=true
  ·rw [CU hb]
   exact af.step (.of fun F=>(hbody F).trans (if_pos hb)) ih
  ·have hb':mD c=false:=by simpa using hb
   rw [fy hb']
   exact af.fin (.of fun F=>(hbody F).trans (if_neg hb))
theorem il (s r:By) (h:r <:+ s) (hs:s.length≤1000) (k e:Int):ae (fun F=>au F (st s r k e)) ((),st s (skp r) k e):=by
 unfold au
 exact (sQ s hs k e r h).run.bind (.ret _)
def isH (r:By) (e:Int) (z:UInt8):Bool:=decide (e=0) && (r.head? == some z)
theorem IV (F:Nat) (s r:By) (h:r <:+ s) (k e:Int) (z:UInt8):ai F (st s r k e,(z.toNat:Int))=some (isH r e z,st s r k e):=by
 unfold ai isH
 by_cases he:e=0
 ·subst he
  cases r with
  | nil =>
   unfold st
   have : ¬ ((s.length - ([]:By).length:Nat):Int)<(s.length:Int):=Cc
   simp only [this,decide_true,if_true,decide_false,Bool.false_eq_true,if_false,Option.bind_some]
   rfl
  | cons c q =>
   have hv:=nvB c z
   unfold st
   simp only [ox h,decide_true,if_true,iC h,Option.bind_some,hv]
   by_cases hc:c=z
   ·subst hc; simp
   ·simp [hc]
 ·unfold st
  simp only [he,decide_false,Bool.false_eq_true,if_false,Option.bind_some,Bool.false_and]
theorem iB (c z:UInt8) (q:By):isH (c :: q) 0 z=decide (c=z):=by
 unfold isH
 by_cases h:c=z
 ·subst h; simp
 ·simp [h]
theorem Dk (z:UInt8) (e:Int):isH [] e z=false:=by unfold isH; cases decide (e=0) <;> rfl
theorem px (r:By) (e:Int) (he : ¬ e=0) (z:UInt8):isH r e z=false:=by unfold isH; rw [decide_eq_false he]; rfl
theorem zj (F:Nat) (s r w:By) (h:r <:+ s) (hs:s.length≤1000) (hw:w.length≤10) (k e:Int):ar F (st s r k e,w)=some (if r.take w.length=w then (true,st s (r.drop w.length) k e) else (false,st s r k e)):=by
 have hl:=dS h
 unfold ar st
 simp only
 have e1:IntKind.i64.wrap ((s.length:Int) - ((s.length - r.length:Nat):Int))=(r.length:Int):=by rw [wrap64 _ (by omega) (by omega)]; omega
 rw [e1]
 by_cases hlt:r.length<w.length
 ·have h1:(r.length:Int)<(w.length:Int):=by omega
  have h2 : ¬ r.take w.length=w:=by
   intro hh
   have:=congrArg List.length hh
   rw [List.length_take] at this
   omega
  simp only [h1,decide_true,Bool.true_eq_false,if_false,Option.bind_some,if_true,if_neg h2]
 ·have h1 : ¬ (r.length:Int)<(w.length:Int):=by omega
  have e2:IntKind.i64.wrap (((s.length - r.length:Nat):Int)+(w.length:Int))=((s.length - (r.length - w.length):Nat):Int):=by rw [wrap64 _ (by omega) (by omega)]; omega
  have e3:=tU h w.length (by omega)
  simp only [h1,decide_false,if_true,e2,e3,Option.bind_some]
  by_cases h2:r.take w.length=w
  ·simp only [h2,decide_true,Bool.not_true,Bool.false_eq_true,if_false,if_true]
   rw [List.length_drop]
  ·simp only [h2,decide_false,Bool.not_false,if_true,if_false]
/-! ### escapes -/
theorem D3 : ∀ c:Fin 256,lR (UInt8.ofNat c.val)=if 48≤c.val∧c.val≤57 then some (c.val - 48) else if 97≤c.val∧c.val≤102 then some (c.val - 87) else if 65≤c.val∧c.val≤70 then some (c.val - 55) else none:=by decide +kernel
theorem pj (F:Nat) (s:By) (a n i:Nat) (c:UInt8) (hc:idx s (i:Int)=some c) (hn:n<65536) (hi:i<a+4) (ha:a≤100):cf F (s,(a:Int),(n:Int),(i:Int),())=some (match lR c with
  | some v => .inl (s,(a:Int),((n * 16+v:Nat):Int),((i+1:Nat):Int),())
  | none => .inr (.inr (-1,()))):=by
 have hb:=c.toNat_lt
 have hx:UInt8.ofNat c.toNat=c:=by simp
 have h1:=D3 ⟨c.toNat,hb⟩
 simp only [hx] at h1
 have ea:IntKind.i64.wrap ((a:Int)+4)=((a+4:Nat):Int):=by rw [wrap64 _ (by omega) (by omega)]; rfl
 have i4:(i:Int)<((a+4:Nat):Int):=by omega
 have iw:IntKind.i64.wrap ((i:Int)+1)=((i+1:Nat):Int):=by rw [wrap64 _ (by omega) (by omega)]; rfl
 have w16:IntKind.i64.wrap ((n:Int) * 16)=(n:Int) * 16:=wrap64 _ (by omega) (by omega)
 have wc:IntKind.i64.wrap (c.toNat:Int)=(c.toNat:Int):=wrap64 _ (by omega) (by omega)
 unfold cf
 simp only [ea,i4,decide_true,if_true,hc,Option.bind_some,w16,wc]
 by_cases d1:48≤c.toNat∧c.toNat≤57
 ·rw [if_pos d1] at h1
  have q1:(48:Int)≤(c.toNat:Int):=by omega
  have q2:(c.toNat:Int)≤57:=by omega
  simp only [q1,q2,decide_true,if_true,Option.bind_some,aE,h1,iw,w16,wc]
  rw [wrap64 ((n:Int) * 16+(c.toNat:Int)) (by omega) (by omega),wrap64 _ (by omega) (by omega)]
  congr 5
  omega
 rw [if_neg d1] at h1
 have first:(if decide (48≤(c.toNat:Int))=true then some (s,(a:Int),(n:Int),(i:Int),(c.toNat:Int),decide ((c.toNat:Int)≤57),()) else some (s,(a:Int),(n:Int),(i:Int),(c.toNat:Int),false,()):Option (By×Int×Int×Int×Int×Bool×Unit))=some (s,(a:Int),(n:Int),(i:Int),(c.toNat:Int),false,()):=by
  by_cases q1:(48:Int)≤(c.toNat:Int)
  ·have q2 : ¬ (c.toNat:Int)≤57:=by omega
   simp only [q1,q2,decide_true,decide_false,if_true]
  ·simp only [q1,decide_false,Bool.false_eq_true,if_false]
 rw [first]
 simp only [Option.bind_some,Bool.false_eq_true,if_false]
 by_cases d2:97≤c.toNat∧c.toNat≤102
 ·rw [if_pos d2] at h1
  have q1:(97:Int)≤(c.toNat:Int):=by omega
  have q2:(c.toNat:Int)≤102:=by omega
  simp only [q1,q2,decide_true,if_true,Option.bind_some,aE,h1,iw,w16,wc]
  rw [wrap64 ((n:Int) * 16+(c.toNat:Int)) (by omega) (by omega),wrap64 ((n:Int) * 16+(c.toNat:Int) - 97) (by omega) (by omega),wrap64 _ (by omega) (by omega)]
  congr 5
  omega
 rw [if_neg d2] at h1
 have second:(if decide (97≤(c.toNat:Int))=true then some (s,(a:Int),(n:Int),(i:Int),(c.toNat:Int),decide ((c.toNat:Int)≤102),()) else some (s,(a:Int),(n:Int),(i:Int),(c.toNat:Int),false,()):Option (By×Int×Int×Int×Int×Bool×Unit))=some (s,(a:Int),(n:Int),(i:Int),(c.toNat:Int),false,()):=by
  by_cases q1:(97:Int)≤(c.toNat:Int)
  ·have q2 : ¬ (c.toNat:Int)≤102:=by omega
   simp only [q1,q2,decide_true,decide_false,if_true]
  ·simp only [q1,decide_false,Bool.false_eq_true,if_false]
 rw [second]
 simp only [Option.bind_some,Bool.false_eq_true,if_false]
 by_cases d3:65≤c.toNat∧c.toNat≤70
 ·rw [if_pos d3] at h1
  have q1:(65:Int)≤(c.toNat:Int):=by omega
  have q2:(c.toNat:Int)≤70:=by omega
  simp only [q1,q2,decide_true,if_true,Option.bind_some,aE,h1,iw,w16,wc]
  rw [wrap64 ((n:Int) * 16+(c.toNat:Int)) (by omega) (by omega),wrap64 ((n:Int) * 16+(c.toNat:Int) - 65) (by omega) (by omega),wrap64 _ (by omega) (by omega)]
  congr 5
  omega
 rw [if_neg d3] at h1
 by_cases q1:(65:Int)≤(c.toNat:Int)
 ·have q2 : ¬ (c.toNat:Int)≤70:=by omega
  simp only [q1,q2,decide_true,decide_false,if_true,Bool.false_eq_true,if_false,Option.bind_some,aZ,h1]
 ·simp only [q1,decide_false,Bool.false_eq_true,if_false,Option.bind_some,aZ,h1]
def vV (r:By):Int:=match lE r with
 | some n=>(n:Int)
 | none => -1
theorem Hl (s:By) (a:Nat) (ha:a≤100):ae (fun F=>bK F (s,(a:Int))) (vV (s.drop a)):=by
 unfold bK
 have ea:IntKind.i64.wrap ((a:Int)+4)=((a+4:Nat):Int):=by rw [wrap64 _ (by omega) (by omega)]; rfl
 by_cases h4:s.length<a+4
 ·refine ae.pos (by simp only [ea,decide_eq_true_eq]; omega) ?_
  unfold vV
  rw [vp (by rw [List.length_drop]; omega)]
  exact .ret _
 ·refine ae.neg (by simp only [ea,decide_eq_true_eq]; omega) ?_
  obtain ⟨x0,x1,x2,x3,r,hr⟩:=yu (s:=s.drop a) (by rw [List.length_drop]; omega)
  have gi : ∀ j c,(s.drop a)[j]? = some c→idx s ((a+j:Nat):Int)=some c:=by
   intro j c hj
   rw [List.getElem?_drop] at hj
   exact eQ _ _ _ hj
  have g0:=gi 0 x0 (by rw [hr]; rfl)
  have g1:=gi 1 x1 (by rw [hr]; rfl)
  have g2:=gi 2 x2 (by rw [hr]; rfl)
  have g3:=gi 3 x3 (by rw [hr]; rfl)
  rw [hr]
  have key:af cf (s,(a:Int),0,(a:Int),()) (match lE (x0 :: x1 :: x2 :: x3 :: r) with
    | some n => .inl ((n:Int),())
    | none => .inr (-1,())):=by
   have s0:=fun F=>pj F s a 0 (a+0) x0 g0 (by omega) (by omega) ha
   show af cf (s,(a:Int),((0:Nat):Int),((a+0:Nat):Int),()) _
   unfold lE
   simp only
   cases h0:lR x0 with
   | none=>simp only [h0] at s0; exact af.fin (.of s0)
   | some n0 =>
    have l0:=gp h0
    simp only [h0] at s0
    refine af.step (.of s0) ?_
    have s1:=fun F=>pj F s a (0 * 16+n0) (a+1) x1 g1 (by omega) (by omega) ha
    simp only [Option.bind_some]
    cases h1:lR x1 with
    | none=>simp only [h1] at s1; exact af.fin (.of s1)
    | some n1 =>
     have l1:=gp h1
     simp only [h1] at s1
     refine af.step (.of s1) ?_
     have s2:=fun F=>pj F s a ((0 * 16+n0) * 16+n1) (a+2) x2 g2 (by omega) (by omega) ha
     simp only [Option.bind_some]
     cases h2:lR x2 with
     | none=>simp only [h2] at s2; exact af.fin (.of s2)
     | some n2 =>
      have l2:=gp h2
      simp only [h2] at s2
      refine af.step (.of s2) ?_
      have s3:=fun F=>pj F s a (((0 * 16+n0) * 16+n1) * 16+n2) (a+3) x3 g3 (by omega) (by omega) ha
      simp only [Option.bind_some]
      cases h3:lR x3 with
      | none=>simp only [h3] at s3; exact af.fin (.of s3)
      | some n3 =>
       have l3:=gp h3
       simp only [h3] at s3
       refine af.step (.of s3) (af.fin (.of fun F => ?_))
       unfold cf
       have : ¬ ((a+3+1:Nat):Int)<((a+4:Nat):Int):=by omega
       simp only [ea,this,decide_false,Bool.false_eq_true,if_false]
       congr 5
       omega
  refine key.run.bind ?_
  unfold vV
  cases lE (x0 :: x1 :: x2 :: x3 :: r) with
  | none=>exact .ret _
  | some n=>exact .ret _
def BB (c:UInt8):Option UInt8:=if c=34 then some 34 else if c=92 then some 92 else if c=47 then some 47 else if c=98 then some 8 else if c=102 then some 12 else if c=110 then some 10 else if c=114 then some 13 else if c=116 then some 9 else none
theorem GG (s rest q:By) (c:UInt8) (hrest:idx rest 1=some c) (p k e:Int) (hp:0≤p∧p≤2000):af bf ((),rest,[34,92,47,98,102,110,114,116],[34,92,47,8,12,10,13,9],0,(s,p,k,e,()),()) (match BB c with
  | some x => .inr ((),[x],(s,p+2,k,e,()),())
  | none => .inl ((),rest,(s,p,k,e,()),())):=by
 have hw:IntKind.i64.wrap (p+2)=p+2:=wrap64 _ (by omega) (by omega)
 have step : ∀ (i:Nat) (F:Nat) (x y:UInt8),i<8→idx ([34,92,47,98,102,110,114,116]:By) (i:Int)=some x→sub ([34,92,47,8,12,10,13,9]:By) (i:Int) ((i+1:Nat):Int)=some [y] →
   bf F ((),rest,[34,92,47,98,102,110,114,116],[34,92,47,8,12,10,13,9],(i:Int),(s,p,k,e,()),())=if c=x then some (.inr (.inr ((),[y],(s,p+2,k,e,()),()))) else some (.inl ((),rest,[34,92,47,98,102,110,114,116],[34,92,47,8,12,10,13,9],((i+1:Nat):Int),(s,p,k,e,()),())):=by
  intro i F x y hi hx hy
  have hi':(i:Int)<(([34,92,47,98,102,110,114,116]:By).length:Int):=by show (i:Int)<8; omega
  have hiw:IntKind.i64.wrap ((i:Int)+1)=((i+1:Nat):Int):=by rw [wrap64 _ (by omega) (by omega)]; rfl
  have hv:=nvB c x
  unfold bf
  simp only [hi',decide_true,if_true,hrest,hx,Option.bind_some,hv,hiw,hy,hw]
  by_cases hc:c=x
  ·simp only [hc,decide_true,if_true]
  ·simp only [hc,decide_false,Bool.false_eq_true,if_false]
 unfold BB
 have e0:=fun F=>step 0 F 34 34 (by decide) rfl rfl
 have e1:=fun F=>step 1 F 92 92 (by decide) rfl rfl
 have e2:=fun F=>step 2 F 47 47 (by decide) rfl rfl
 have e3:=fun F=>step 3 F 98 8 (by decide) rfl rfl
 have e4:=fun F=>step 4 F 102 12 (by decide) rfl rfl
 have e5:=fun F=>step 5 F 110 10 (by decide) rfl rfl
 have e6:=fun F=>step 6 F 114 13 (by decide) rfl rfl
 have e7:=fun F=>step 7 F 116 9 (by decide) rfl rfl
 by_cases c0:c=34
 ·rw [if_pos c0]; exact af.fin (.of fun F=>(e0 F).trans (if_pos c0))
 rw [if_neg c0]; refine af.step (.of fun F=>(e0 F).trans (if_neg c0)) ?_
 by_cases c1:c=92
 ·rw [if_pos c1]; exact af.fin (.of fun F=>(e1 F).trans (if_pos c1))
 rw [if_neg c1]; refine af.step (.of fun F=>(e1 F).trans (if_neg c1)) ?_
 by_cases c2:c=47
 ·rw [if_pos c2]; exact af.fin (.of fun F=>(e2 F).trans (if_pos c2))
 rw [if_neg c2]; refine af.step (.of fun F=>(e2 F).trans (if_neg c2)) ?_
 by_cases c3:c=98
 ·rw [if_pos c3]; exact af.fin (.of fun F=>(e3 F).trans (if_pos c3))
 rw [if_neg c3]; refine af.step (.of fun F=>(e3 F).trans (if_neg c3)) ?_
 by_cases c4:c=102
 ·rw [if_pos c4]; exact af.fin (.of fun F=>(e4 F).trans (if_pos c4))
 rw [if_neg c4]; refine af.step (.of fun F=>(e4 F).trans (if_neg c4)) ?_
 by_cases c5:c=110
 ·rw [if_pos c5]; exact af.fin (.of fun F=>(e5 F).trans (if_pos c5))
 rw [if_neg c5]; refine af.step (.of fun F=>(e5 F).trans (if_neg c5)) ?_
 by_cases c6:c=114
 ·rw [if_pos c6]; exact af.fin (.of fun F=>(e6 F).trans (if_pos c6))
 rw [if_neg c6]; refine af.step (.of fun F=>(e6 F).trans (if_neg c6)) ?_
 by_cases c7:c=116
 ·rw [if_pos c7]; exact af.fin (.of fun F=>(e7 F).trans (if_pos c7))
 rw [if_neg c7]; refine af.step (.of fun F=>(e7 F).trans (if_neg c7)) ?_
 refine af.fin (.of fun F => ?_)
 unfold bf
 rfl
theorem He {c:UInt8} {r:By}:lT (c :: r)=match BB c with
  | some x=>some (x.toNat,2)
  | none=>if c=117 then sf r else none:=by
 unfold lT BB
 simp only
 by_cases c0:c=34
 ·subst c0; rfl
 by_cases c1:c=92
 ·subst c1; rfl
 by_cases c2:c=47
 ·subst c2; rfl
 by_cases c3:c=98
 ·subst c3; rfl
 by_cases c4:c=102
 ·subst c4; rfl
 by_cases c5:c=110
 ·subst c5; rfl
 by_cases c6:c=114
 ·subst c6; rfl
 by_cases c7:c=116
 ·subst c7; rfl
 rw [if_neg (by simp [c0,c1,c2]),if_neg c3,if_neg c4,if_neg c5,if_neg c6,if_neg c7,if_neg c0,if_neg c1,if_neg c2,if_neg c3,if_neg c4,if_neg c5,if_neg c6,if_neg c7]
theorem HN {c x:UInt8} (h:BB c=some x):cj x.toNat = [x]:=by
 unfold BB at h
 repeat' split at h
 all_goals first | (cases h; done) | (cases h; rfl) | (cases h; decide)
noncomputable def e9K (F:Nat) (rest:By) (rs:RS) (n:Int):Option (By×RS):=(if decide (0≤n)=true then if decide (n<55296)=false then some ((),rest,n,decide (57343<n),(rs.1,rs.2.1,rs.2.2.1,rs.2.2.2.1,()),()) else some ((),rest,n,true,(rs.1,rs.2.1,rs.2.2.1,rs.2.2.2.1,()),()) else some ((),rest,n,false,(rs.1,rs.2.1,rs.2.2.1,rs.2.2.2.1,()),()):Option (Unit×By×Int×Bool×RS×Unit)).bind fun v12=>if v12.2.2.2.1=true then (aO F v12.2.2.1).bind fun v13=>some (v13,v12.2.2.2.2.1.1,IntKind.i64.wrap (v12.2.2.2.2.1.2.1+6),v12.2.2.2.2.1.2.2.1,v12.2.2.2.2.1.2.2.2.1,()) else (if decide (55296≤v12.2.2.1)=true then some ((),v12.2.1,v12.2.2.1,decide (v12.2.2.1<56320),(v12.2.2.2.2.1.1,v12.2.2.2.2.1.2.1,v12.2.2.2.2.1.2.2.1,v12.2.2.2.2.1.2.2.2.1,()),()) else some ((),v12.2.1,v12.2.2.1,false,(v12.2.2.2.2.1.1,v12.2.2.2.2.1.2.1,v12.2.2.2.2.1.2.2.1,v12.2.2.2.2.1.2.2.2.1,()),()):Option (Unit×By×Int×Bool×RS×Unit)).bind fun v14=>(if v14.2.2.2.1=true then some ((),v14.2.1,v14.2.2.1,decide (8≤(v14.2.1.length:Int)),(v14.2.2.2.2.1.1,v14.2.2.2.2.1.2.1,v14.2.2.2.2.1.2.2.1,v14.2.2.2.2.1.2.2.2.1,()),()) else some ((),v14.2.1,v14.2.2.1,false,(v14.2.2.2.2.1.1,v14.2.2.2.2.1.2.1,v14.2.2.2.2.1.2.2.1,v14.2.2.2.2.1.2.2.2.1,()),()):Option (Unit×By×Int×Bool×RS×Unit)).bind fun v15=>(if v15.2.2.2.1=true then (idx v15.2.1 6).bind fun v16=>some ((),v15.2.1,v15.2.2.1,decide ((v16.toNat:Int)=92),(v15.2.2.2.2.1.1,v15.2.2.2.2.1.2.1,v15.2.2.2.2.1.2.2.1,v15.2.2.2.2.1.2.2.2.1,()),()) else some ((),v15.2.1,v15.2.2.1,false,(v15.2.2.2.2.1.1,v15.2.2.2.2.1.2.1,v15.2.2.2.2.1.2.2.1,v15.2.2.2.2.1.2.2.2.1,()),()):Option (Unit×By×Int×Bool×RS×Unit)).bind fun v17=>(if v17.2.2.2.1=true then (idx v17.2.1 7).bind fun v18=>some ((),v17.2.1,v17.2.2.1,decide ((v18.toNat:Int)=117),(v17.2.2.2.2.1.1,v17.2.2.2.2.1.2.1,v17.2.2.2.2.1.2.2.1,v17.2.2.2.2.1.2.2.2.1,()),()) else some ((),v17.2.1,v17.2.2.1,false,(v17.2.2.2.2.1.1,v17.2.2.2.2.1.2.1,v17.2.2.2.2.1.2.2.1,v17.2.2.2.2.1.2.2.2.1,()),()):Option (Unit×By×Int×Bool×RS×Unit)).bind fun v19=>(if v19.2.2.2.1=true then (bK F (v19.2.1,8)).bind fun v20=>(if decide (56320≤v20)=true then some ((),v19.2.2.1,v20,decide (v20≤57343),(v19.2.2.2.2.1.1,v19.2.2.2.2.1.2.1,v19.2.2.2.2.1.2.2.1,v19.2.2.2.2.1.2.2.2.1,()),()) else some ((),v19.2.2.1,v20,false,(v19.2.2.2.2.1.1,v19.2.2.2.2.1.2.1,v19.2.2.2.2.1.2.2.1,v19.2.2.2.2.1.2.2.2.1,()),()):Option (Unit×Int×Int×Bool×RS×Unit)).bind fun v21=>if v21.2.2.2.1=true then (aO F (IntKind.i64.wrap (IntKind.i64.wrap (IntKind.i64.wrap (65536+IntKind.i64.wrap (IntKind.i64.wrap (v21.2.1 - 55296) * 1024))+v21.2.2.1) - 56320))).bind fun v22=>some (Sum.inr ((),v22,(v21.2.2.2.2.1.1,IntKind.i64.wrap (v21.2.2.2.2.1.2.1+12),v21.2.2.2.2.1.2.2.1,v21.2.2.2.2.1.2.2.2.1,()),())) else some (Sum.inl ((),(v21.2.2.2.2.1.1,v21.2.2.2.2.1.2.1,v21.2.2.2.2.1.2.2.1,v21.2.2.2.2.1.2.2.2.1,()),())) else some (Sum.inl ((),(v19.2.2.2.2.1.1,v19.2.2.2.2.1.2.1,v19.2.2.2.2.1.2.2.1,v19.2.2.2.2.1.2.2.2.1,()),())):Option ((Unit×RS×Unit) ⊕ (Unit×By×RS×Unit))).bind fun v23=>eW v23 (fun v24=>(aj F ((v24.2.1.1,v24.2.1.2.1,v24.2.1.2.2.1,v24.2.1.2.2.2.1,()),3)).bind fun v25=>some ([],v25.2.1,v25.2.2.1,v25.2.2.2.1,v25.2.2.2.2.1,())) fun v26=>some (v26.2.1,v26.2.2.1.1,v26.2.2.1.2.1,v26.2.2.1.2.2.1,v26.2.2.1.2.2.2.1,())
theorem B2 (F:Nat) (x:RS):bT F x=((sub x.1 x.2.1 (x.1.length:Int)).bind fun v0=>some ((),v0,(x.1,x.2.1,x.2.2.1,x.2.2.2.1,()),()):Option (Unit×By×RS×Unit)).bind fun v1 =>
  if decide ((v1.2.1.length:Int)<2)=true then (aj F ((v1.2.2.1.1,v1.2.2.1.2.1,v1.2.2.1.2.2.1,v1.2.2.1.2.2.2.1,()),3)).bind fun v2=>some ([],v2.2.1,v2.2.2.1,v2.2.2.2.1,v2.2.2.2.2.1,())
  else (bS (bf F) F ((),v1.2.1,[34,92,47,98,102,110,114,116],[34,92,47,8,12,10,13,9],0,(v1.2.2.1.1,v1.2.2.1.2.1,v1.2.2.1.2.2.1,v1.2.2.1.2.2.2.1,()),())).bind fun v7 =>
   eW v7 (fun v8=>(idx v8.2.1 1).bind fun v9 =>
     (if decide ((v9.toNat:Int)=117)=true then (bK F (v8.2.1,2)).bind fun v10=>some ((),v8.2.1,v10,(v8.2.2.1.1,v8.2.2.1.2.1,v8.2.2.1.2.2.1,v8.2.2.1.2.2.2.1,()),())
      else some ((),v8.2.1, -1,(v8.2.2.1.1,v8.2.2.1.2.1,v8.2.2.1.2.2.1,v8.2.2.1.2.2.2.1,()),()):Option (Unit×By×Int×RS×Unit)).bind fun v11=>e9K F v11.2.1 v11.2.2.2.1 v11.2.2.1)
    fun v27=>some (v27.2.1,v27.2.2.1.1,v27.2.2.1.2.1,v27.2.2.1.2.2.1,v27.2.2.1.2.2.2.1,()):=rfl
theorem Jv (A B C D:Int) (rest:By) (rs:RS) (n:Int) (X:By×RS→Prop) (K1:Int→RS→Option (By×RS)) (K2:By→Int→RS→Bool→Option (By×RS)) :
  ((if decide (0≤n)=true then
    if decide (n<A)=false then some ((),rest,n,decide (B<n),(rs.1,rs.2.1,rs.2.2.1,rs.2.2.2.1,()),())
    else some ((),rest,n,true,(rs.1,rs.2.1,rs.2.2.1,rs.2.2.2.1,()),())
  else some ((),rest,n,false,(rs.1,rs.2.1,rs.2.2.1,rs.2.2.2.1,()),()):Option (Unit×By×Int×Bool×RS×Unit)).bind fun v12 =>
  if v12.2.2.2.1=true then K1 v12.2.2.1 v12.2.2.2.2.1
  else
   (if decide (A≤v12.2.2.1)=true then some ((),v12.2.1,v12.2.2.1,decide (v12.2.2.1<C),(v12.2.2.2.2.1.1,v12.2.2.2.2.1.2.1,v12.2.2.2.2.1.2.2.1,v12.2.2.2.2.1.2.2.2.1,()),())
    else some ((),v12.2.1,v12.2.2.1,false,(v12.2.2.2.2.1.1,v12.2.2.2.2.1.2.1,v12.2.2.2.2.1.2.2.1,v12.2.2.2.2.1.2.2.2.1,()),()):Option (Unit×By×Int×Bool×RS×Unit)).bind fun v14=>K2 v14.2.1 v14.2.2.1 v14.2.2.2.2.1 v14.2.2.2.1) =
  if 0≤n∧(n<A∨B<n) then K1 n rs else K2 rest n rs (decide (A≤n∧n<C)):=by
 obtain ⟨r1,r2,r3,r4,⟨⟩⟩:=rs
 by_cases h1:0≤n <;> by_cases h2:n<A <;> by_cases h3:B<n <;> by_cases h4:A≤n <;> by_cases h5:n<C <;> first
  | (exfalso; omega)
  | simp only [h1,h2,h3,h4,h5,decide_true,decide_false,if_true,if_false,Bool.false_eq_true,Bool.true_eq_false,Option.bind_some,and_self,and_true,and_false,false_and,true_and,or_self,or_true,true_or,or_false,false_or]
theorem Dg (A B:Int) (n m:Int) (rs:RS) (K:Int→Int→RS→Option ((Unit×RS×Unit) ⊕ (Unit×By×RS×Unit))) :
  ((if decide (A≤m)=true then some ((),n,m,decide (m≤B),(rs.1,rs.2.1,rs.2.2.1,rs.2.2.2.1,()),()) else some ((),n,m,false,(rs.1,rs.2.1,rs.2.2.1,rs.2.2.2.1,()),()):Option (Unit×Int×Int×Bool×RS×Unit)).bind fun v21 =>
    if v21.2.2.2.1=true then K v21.2.1 v21.2.2.1 v21.2.2.2.2.1 else some (Sum.inl ((),(v21.2.2.2.2.1.1,v21.2.2.2.2.1.2.1,v21.2.2.2.2.1.2.2.1,v21.2.2.2.2.1.2.2.2.1,()),()))) =
  if A≤m∧m≤B then K n m rs else some (Sum.inl ((),rs,())):=by
 obtain ⟨r1,r2,r3,r4,⟨⟩⟩:=rs
 by_cases h1:A≤m <;> by_cases h2:m≤B <;> simp only [h1,h2,decide_true,decide_false,if_true,if_false,Bool.false_eq_true,Option.bind_some,and_self,and_true,and_false,false_and,true_and]
theorem Jf (n m:Nat) (h1 : ¬ n<55296) (h2:n<65536) (h3:56320≤m) (h4:m≤57343) :
  IntKind.i64.wrap (IntKind.i64.wrap (IntKind.i64.wrap (65536+IntKind.i64.wrap (IntKind.i64.wrap ((n:Int) - 55296) * 1024))+(m:Int)) - 56320)=(ru n m:Int):=by
 unfold ru
 simp (disch:=omega) only [wrap64]
 omega
theorem Je (s a q:By) (x y:UInt8) (hq:x :: y :: q <:+ s) (hs:s.length≤1000) (k:Int) (n:Nat) (hn:n<65536) (c1 : ¬ n<55296) (c3:n<56320) (h4:4≤q.length) :
  ae (fun F=>((if true=true then some ((),x :: y :: q,(n:Int),decide (8≤((x :: y :: q).length:Int)),st s (x :: y :: q) k 0,()) else some ((),x :: y :: q,(n:Int),false,st s (x :: y :: q) k 0,()):Option (Unit×By×Int×Bool×RS×Unit)).bind fun v15 =>
   (if v15.2.2.2.1=true then (idx v15.2.1 6).bind fun v16=>some ((),v15.2.1,v15.2.2.1,decide ((v16.toNat:Int)=92),(v15.2.2.2.2.1.1,v15.2.2.2.2.1.2.1,v15.2.2.2.2.1.2.2.1,v15.2.2.2.2.1.2.2.2.1,()),())
    else some ((),v15.2.1,v15.2.2.1,false,(v15.2.2.2.2.1.1,v15.2.2.2.2.1.2.1,v15.2.2.2.2.1.2.2.1,v15.2.2.2.2.1.2.2.2.1,()),()):Option (Unit×By×Int×Bool×RS×Unit)).bind fun v17 =>
   (if v17.2.2.2.1=true then (idx v17.2.1 7).bind fun v18=>some ((),v17.2.1,v17.2.2.1,decide ((v18.toNat:Int)=117),(v17.2.2.2.2.1.1,v17.2.2.2.2.1.2.1,v17.2.2.2.2.1.2.2.1,v17.2.2.2.2.1.2.2.2.1,()),())
    else some ((),v17.2.1,v17.2.2.1,false,(v17.2.2.2.2.1.1,v17.2.2.2.2.1.2.1,v17.2.2.2.2.1.2.2.1,v17.2.2.2.2.1.2.2.2.1,()),()):Option (Unit×By×Int×Bool×RS×Unit)).bind fun v19 =>
   (some (v19.2.2.2.1,v19.2.1,v19.2.2.1,v19.2.2.2.2.1):Option (Bool×By×Int×RS)))) (decide ((q.drop 4).take 2 = [92,117]),x :: y :: q,(n:Int),st s (x :: y :: q) k 0):=by
 by_cases h8:8≤(x :: y :: q).length
 ·have h8':(8:Int)≤((x :: y :: q).length:Int):=by omega
  obtain ⟨z0,z1,z2,z3,q',rfl⟩:=yu h4
  simp only [List.length_cons] at h8
  obtain ⟨u,v,q'',rfl⟩ : ∃ u v q'',q'=u :: v :: q'':=by
   rcases q' with _ | ⟨u,_ | ⟨v,q''⟩⟩
   ·simp at h8
   ·simp at h8
   ·exact ⟨u,v,q'',rfl⟩
  refine .of fun F => ?_
  have i6:idx (x :: y :: z0 :: z1 :: z2 :: z3 :: u :: v :: q'') 6=some u:=eQ _ 6 _ rfl
  have i7:idx (x :: y :: z0 :: z1 :: z2 :: z3 :: u :: v :: q'') 7=some v:=eQ _ 7 _ rfl
  have n92:=nvB u 92; have n117:=nvB v 117
  rw [show ((92:UInt8).toNat:Int)=92 from rfl] at n92
  rw [show ((117:UInt8).toNat:Int)=117 from rfl] at n117
  unfold st
  simp only [if_true,h8',decide_true,Option.bind_some,i6,i7,n92]
  by_cases e1:u=92
  ·subst e1
   simp only [decide_true,if_true,i7,Option.bind_some,n117]
   congr 2
   simp
  ·simp only [e1,decide_false,Bool.false_eq_true,if_false,Option.bind_some]
   congr 2
   symm
   simp [e1]
 ·have h8' : ¬ (8:Int)≤((x :: y :: q).length:Int):=by omega
  refine .of fun F => ?_
  unfold st
  simp only [if_true,h8',decide_false,Option.bind_some,Bool.false_eq_true,if_false]
  congr 2
  symm
  have : ¬ (q.drop 4).take 2 = [92,117]:=by
   intro hh
   have:=congrArg List.length hh
   simp at this h8
   omega
  simp [this]
end Go.Vm
