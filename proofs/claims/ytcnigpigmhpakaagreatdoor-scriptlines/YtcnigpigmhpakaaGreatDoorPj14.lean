/- JSON: the document's numbers, quotes, places, ends are the plain ones. No condition but on lengths. -/
import Derived.Test.YtcnigpigmhpakaaGreatDoorPj13
namespace Go.Vm
open Go.Lib (decodeL decodeN decodeL_N decode_N decodeN_shape decodeL_le decDigits itoa)
set_option linter.unusedVariables false
set_option linter.unusedSimpArgs false
/-! ### decimals -/
theorem zD (F:Nat) (x:Nat) (hx:x<10):cz F (x:Int)=some [UInt8.ofNat (48+x)]:=by
 unfold cz
 rw [wrap64 _ (by omega) (by omega),wrapB8 _ (by omega) (by omega)]
 congr 3
where
 wrapB8 (n:Int) (h:0≤n) (h':n≤255):IntKind.u8.wrap n=n:=by
  simp only [IntKind.wrap,IntKind.bits,IntKind.signed]
  simp
  omega
theorem I5 (u k:Nat):(u:Int).tmod (k:Int)=((u % k:Nat):Int):=by rw [Int.ofNat_tmod]
theorem I2 (u k:Nat):(u:Int).tdiv (k:Int)=((u / k:Nat):Int):=by rw [Int.ofNat_tdiv]
def Ca (u:Nat):By:=if u=0 then [] else decDigits u
theorem wM {u:Nat} (h:u≠0):Ca u=Ca (u / 10) ++ [UInt8.ofNat (48+u % 10)]:=by
 unfold Ca
 rw [if_neg h,decDigits]
 split
 ·rename_i h10
  rw [if_pos (by omega),Nat.mod_eq_of_lt h10]; rfl
 ·rename_i h10
  rw [if_neg (by omega)]
theorem KJ (u:Nat):decDigits u=Ca (u / 10) ++ [UInt8.ofNat (48+u % 10)]:=by
 by_cases h:u=0
 ·subst h; rw [Go.Lib.decDigits_one (by decide)]; rfl
 ·rw [← wM h]; unfold Ca; rw [if_neg h]
theorem F8 (R:Nat→Int→Option By) : ∀ (n u:Nat) (out:By),u≤n→u<1000000000000000000→u+out.length≤1000000000000000100→af (fun F=>ee F (R F)) ((u:Int),out,()) (Ca u ++ out,()):=by
 intro n
 induction n with
 | zero =>
  intro u out hu h1 h2
  have:u=0:=by omega
  subst this
  exact af.fin (.of fun F=>rfl)
 | succ n ih =>
  intro u out hu h1 h2
  by_cases h0:u=0
  ·subst h0
   exact af.fin (.of fun F=>rfl)
  ·have hp:(0:Int)<(u:Int):=by omega
   refine af.step (.of fun F => ?_) (y:=(Ca u ++ out,())) ?_ (x':=(((u / 10:Nat):Int),UInt8.ofNat (48+u % 10) :: out,()))
   ·unfold ee
    have e1:(u:Int).tmod 10=((u % 10:Nat):Int):=I5 u 10
    have e2:(u:Int).tdiv 10=((u / 10:Nat):Int):=I2 u 10
    simp only [hp,decide_true,if_true,e1,e2,zD F (u % 10) (by omega),Option.bind_some]
    rw [if_pos (by rw [decide_eq_true_eq]; simp; omega),wrap64 _ (by omega) (by omega)]
    rfl
   ·have:=ih (u / 10) (UInt8.ofNat (48+u % 10) :: out) (by omega) (by omega) (by simp; omega)
    rw [wM h0,List.append_assoc]
    exact this
theorem CJ (R:Nat→Int→Option By) (u:Nat) (h1:u<1000000000000000000):ae (fun F=>bM F (R F) (u:Int)) (decDigits u):=by
 unfold bM
 refine ae.neg (by simp) ?_
 have e1:(u:Int).tmod 10=((u % 10:Nat):Int):=I5 u 10
 have e2:(u:Int).tdiv 10=((u / 10:Nat):Int):=I2 u 10
 rw [e1,e2,wrap64 _ (by omega) (by omega)]
 refine ae.bind (.of fun F=>zD F (u % 10) (by omega)) ?_
 refine ae.bind (F8 R (u / 10) (u / 10) [UInt8.ofNat (48+u % 10)] (Nat.le_refl _) (by omega) (by simp; omega)).run ?_
 rw [KJ]
 exact .ret _
theorem pE (n:Int) (hn:okN n):ae (fun F=>bg F n) (itoa n):=by
 obtain ⟨h1,h2⟩:=hn
 unfold itoa
 by_cases hneg:n<0
 ·rw [if_pos hneg]
  have hp:=CJ (fun F=>aF F (F - 2)) n.natAbs (by omega)
  have hb:ae (fun F=>bM F (aF F (F - 1)) n) (45 :: decDigits n.natAbs):=by
   unfold bM
   refine ae.pos (by simpa using hneg) ?_
   rw [wrap64 _ (by omega) (by omega)]
   have e:0 - n=(n.natAbs:Int):=by omega
   rw [e]
   refine ae.bind (r:=decDigits n.natAbs) (hp.evt 2 fun F hF => ?_) ?_
   ·rw [show F - 1=(F - 2)+1 by omega]; rfl
   ·refine ae.pos ?_ (.ret _)
    rw [decide_eq_true_eq]
    have:=(itoa_lenA n.natAbs (by omega))
    simp only [List.length_cons,List.length_nil]
    omega
  exact hb.evt 1 fun F hF=>by
   unfold bg
   rw [show aF F F n=aF F ((F - 1)+1) n by rw [show F - 1+1=F by omega]]
   rfl
 ·rw [if_neg hneg]
  have hp:=CJ (fun F=>aF F (F - 1)) n.toNat (by omega)
  rw [show ((n.toNat:Nat):Int)=n by omega] at hp
  exact hp.evt 1 fun F hF=>by
   unfold bg
   rw [show aF F F n=aF F ((F - 1)+1) n by rw [show F - 1+1=F by omega]]
   rfl
where
 itoa_lenA (u:Nat) (h:u<1000000000000000):(decDigits u).length≤15:=by
  rw [Go.Lib.decDigits_length]; exact nf 15 u (by decide) (by rw [p15]; exact h)
/-! ### numbers -/
abbrev V9:=Int×By×By×Int×List By×List By×Unit
def z9:V9:=(0,[],[],0,[],[],())
abbrev NS:=Unit×Unit×Int×Int×Int×RS×V9×Unit
def nS (sg:Int) (n c:Nat) (x:RS):NS:=((),(),sg,(n:Int),(c:Int),x,z9,())
theorem xM (F:Nat) (s:By) (k sg:Int) (n c:Nat) (d:UInt8) (q:By) (hq:d :: q <:+ s) (hs:s.length≤1000) (hd:bj d=true) (hc:c<15) (hn:c=0∨0<n) (hN:n<10000000000000000) :
  aJ F (nS sg n c (st s (d :: q) k 0))=some (.inl (nS sg (n * 10+(d.toNat - 48)) (c+1) (st s q k 0))):=by
 simp [bj] at hd
 have d1:(48:Int)≤(d.toNat:Int):=by omega
 have d2:(d.toNat:Int)≤57:=by omega
 have e1:=ox hq
 have e2:=iC hq
 have e3:=dk hq hs
 have c1:(c:Int)<15:=by omega
 have w1:IntKind.i64.wrap (d.toNat:Int)=(d.toNat:Int):=wrap64 _ (by omega) (by omega)
 have w2:IntKind.i64.wrap ((n:Int) * 10)=(n:Int) * 10:=wrap64 _ (by omega) (by omega)
 have w3:IntKind.i64.wrap ((n:Int) * 10+(d.toNat:Int))=(n:Int) * 10+(d.toNat:Int):=wrap64 _ (by omega) (by omega)
 have w4:IntKind.i64.wrap ((n:Int) * 10+(d.toNat:Int) - 48)=((n * 10+(d.toNat - 48):Nat):Int):=by rw [wrap64 _ (by omega) (by omega)]; omega
 have w5:IntKind.i64.wrap ((c:Int)+1)=((c+1:Nat):Int):=by rw [wrap64 _ (by omega) (by omega)]; omega
 unfold aJ nS st
 by_cases hc0:c=0
 ·have hc0':(c:Int)=0:=by omega
  simp only [c1,decide_true,if_true,e1,e2,Option.bind_some,d1,d2,w1,w2,w3,w4,w5,e3,decide_eq_true hc0',Bool.true_eq_false,if_false]
 ·have hc0' : ¬ (c:Int)=0:=by omega
  have hn':(0:Int)<(n:Int):=by omega
  simp only [c1,decide_true,if_true,e1,e2,Option.bind_some,d1,d2,w1,w2,w3,w4,w5,e3,decide_eq_false hc0',hn']
theorem jB (F:Nat) (s:By) (k sg:Int) (n c:Nat) (x:By) (hx:x <:+ s) (hs:s.length≤1000) (h:x = []∨(∃ d q,x=d :: q∧bj d=false)∨15≤c∨(c≠0∧n=0)) :
  aJ F (nS sg n c (st s x k 0))=some (.inr (nS sg n c (st s x k 0))):=by
 unfold aJ nS st
 by_cases c1:c<15
 ·have c1':(c:Int)<15:=by omega
  cases x with
  | nil =>
   have : ¬ ((s.length - ([]:By).length:Nat):Int)<(s.length:Int):=Cc
   simp only [c1',decide_true,if_true,this,decide_false,Bool.false_eq_true,if_false,Option.bind_some]
  | cons d q =>
   have e1:=ox hx
   have e2:=iC hx
   by_cases hd:bj d=true
   ·simp [bj] at hd
    have d1:(48:Int)≤(d.toNat:Int):=by omega
    have d2:(d.toNat:Int)≤57:=by omega
    have h2:c≠0∧n=0:=by
     rcases h with h | ⟨d',q',h,h'⟩ | h | h
     ·cases h
     ·injection h with h1 h2; subst h1; simp [bj] at h'; omega
     ·omega
     ·exact h
    have hc0' : ¬ (c:Int)=0:=by omega
    have hn' : ¬ (0:Int)<(n:Int):=by omega
    simp only [c1',e1,decide_true,if_true,e2,Option.bind_some,d1,d2,decide_eq_false hc0',hn',decide_false,Bool.false_eq_true,if_false]
   ·simp [bj] at hd
    by_cases d1:48≤d.toNat
    ·have d1':(48:Int)≤(d.toNat:Int):=by omega
     have d2 : ¬ (d.toNat:Int)≤57:=by have:=hd d1; omega
     simp only [c1',e1,decide_true,if_true,e2,Option.bind_some,d1',d2,decide_false,Bool.false_eq_true,if_false]
    ·have d1' : ¬ (48:Int)≤(d.toNat:Int):=by omega
     simp only [c1',e1,decide_true,if_true,e2,Option.bind_some,d1',decide_false,Bool.false_eq_true,if_false]
 ·have c1' : ¬ (c:Int)<15:=by omega
  simp only [c1',decide_false,Bool.false_eq_true,if_false,Option.bind_some]
theorem Dw (s:By) (hs:s.length≤1000) (k sg:Int) : ∀ (m:Nat) (x:By) (n c:Nat),x <:+ s→x.length≤m→0<n→n<10 ^ c→c≤15 →
  af aJ (nS sg n c (st s x k 0)) (nS sg (((x.takeWhile bj).take (15 - c)).foldl (fun n d=>n * 10+(d.toNat - 48)) n) (c+((x.takeWhile bj).take (15 - c)).length) (st s (x.drop ((x.takeWhile bj).take (15 - c)).length) k 0)):=by
 intro m
 induction m with
 | zero =>
  intro x n c hx hm hn hN hc
  have:x = []:=List.length_eq_zero_iff.1 (by omega)
  subst this
  exact af.fin (.of fun F=>(jB F s k sg n c [] hx hs (.inl rfl)).trans (by simp))
 | succ m ih =>
  intro x n c hx hm hn hN hc
  cases x with
  | nil=>exact af.fin (.of fun F=>(jB F s k sg n c [] hx hs (.inl rfl)).trans (by simp))
  | cons d q =>
   simp only [List.length_cons] at hm
   by_cases hd:bj d=true
   ·by_cases h15:c<15
    ·have hN':n<10000000000000000:=by
      have:10 ^ c≤10 ^ 15:=Nat.pow_le_pow_right (by decide) hc
      rw [p15] at this
      omega
     have hd':=hd
     simp [bj] at hd'
     have i2:=ih q (n * 10+(d.toNat - 48)) (c+1) (cr hx) (by omega) (by omega) (by rw [Nat.pow_succ]; omega) (by omega)
     refine af.step (.of fun F=>xM F s k sg n c d q hx hs hd h15 (.inr hn) hN') ?_
     have e1:15 - c=(15 - (c+1))+1:=by omega
     rw [List.takeWhile_cons_of_pos hd,e1,List.take_succ_cons,List.length_cons,List.drop_succ_cons,List.foldl_cons]
     rw [show c+((List.take (15 - (c+1)) (List.takeWhile bj q)).length+1)=c+1+(List.take (15 - (c+1)) (List.takeWhile bj q)).length by omega]
     exact i2
    ·have:15 - c=0:=by omega
     rw [this,List.take_zero,List.length_nil,List.drop_zero]
     exact af.fin (.of fun F=>jB F s k sg n c _ hx hs (.inr (.inr (.inl (by omega)))))
   ·have hd':bj d=false:=by simpa using hd
    rw [List.takeWhile_cons_of_neg hd,List.take_nil,List.length_nil,List.drop_zero]
    exact af.fin (.of fun F=>jB F s k sg n c _ hx hs (.inr (.inl ⟨d,q,rfl,hd'⟩)))
theorem DD (s:By) (hs:s.length≤1000) (k sg:Int) (x:By) (hx:x <:+ s) :
  af aJ (nS sg 0 0 (st s x k 0)) (nS sg (oe (cM x)) (cM x).length (st s (x.drop (cM x).length) k 0)):=by
 cases x with
 | nil=>exact af.fin (.of fun F=>jB F s k sg 0 0 [] hx hs (.inl rfl))
 | cons d q =>
  by_cases hd:bj d=true
  ·have hd':=hd
   simp [bj] at hd'
   have s1:=fun F=>xM F s k sg 0 0 d q hx hs hd (by omega) (.inl rfl) (by omega)
   by_cases hc:d=48
   ·subst hc
    refine af.step (.of s1) (af.fin (.of fun F => ?_))
    exact jB F s k sg 0 1 q (cr hx) hs (.inr (.inr (.inr ⟨by decide,rfl⟩)))
   ·have hne:d.toNat≠48:=fun hh=>hc (UInt8.toNat_inj.1 hh)
    have:=Dw s hs k sg q.length q (0 * 10+(d.toNat - 48)) (0+1) (cr hx) (Nat.le_refl _) (by omega) (by omega) (by omega)
    have hdg:cM (d :: q)=d :: (q.takeWhile bj).take 14:=by
     unfold cM
     simp only
     rw [if_neg hc,List.takeWhile_cons_of_pos hd]
     rfl
    rw [hdg]
    refine af.step (.of s1) ?_
    rw [List.length_cons,List.drop_succ_cons]
    unfold oe
    rw [List.foldl_cons]
    rw [Nat.add_comm (0+1) _] at this
    exact this
  ·have hd':bj d=false:=by simpa using hd
   have hc:d≠48:=by rintro rfl; exact hd (by decide)
   unfold cM
   simp only
   rw [if_neg hc,List.takeWhile_cons_of_neg hd]
   exact af.fin (.of fun F=>jB F s k sg 0 0 _ hx hs (.inr (.inl ⟨d,q,rfl,hd'⟩)))
noncomputable def xk (F:Nat) (v8:NS):Option (V9×RS):=(if decide (v8.2.2.2.2.1=0)=true then (aj F ((v8.2.2.2.2.2.1.1,v8.2.2.2.2.2.1.2.1,v8.2.2.2.2.2.1.2.2.1,v8.2.2.2.2.2.1.2.2.2.1,()),3)).bind fun v9=>some ((),(),v8.2.2.1,v8.2.2.2.1,(v9.2.1,v9.2.2.1,v9.2.2.2.1,v9.2.2.2.2.1,()),v8.2.2.2.2.2.2.1,()) else some ((),(),v8.2.2.1,v8.2.2.2.1,(v8.2.2.2.2.2.1.1,v8.2.2.2.2.2.1.2.1,v8.2.2.2.2.2.1.2.2.1,v8.2.2.2.2.2.1.2.2.2.1,()),v8.2.2.2.2.2.2.1,()):Option (Unit×Unit×Int×Int×RS×V9×Unit)).bind fun v10=>(bg F (IntKind.i64.wrap (v10.2.2.1 * v10.2.2.2.1))).bind fun v11=>some ((3,v11,[],IntKind.i64.wrap (v10.2.2.1 * v10.2.2.2.1),[],[],()),v10.2.2.2.2.1.1,v10.2.2.2.2.1.2.1,v10.2.2.2.2.1.2.2.1,v10.2.2.2.2.1.2.2.2.1,())
theorem H0 (F:Nat) (x:RS):bc F x=(ai F ((x.1,x.2.1,x.2.2.1,x.2.2.2.1,()),45)).bind fun v0 =>
  (if v0.1=true then some ((),(), -1,(v0.2.1,IntKind.i64.wrap (v0.2.2.1+1),v0.2.2.2.1,v0.2.2.2.2.1,()),z9,()) else some ((),(),1,(v0.2.1,v0.2.2.1,v0.2.2.2.1,v0.2.2.2.2.1,()),z9,()):Option (Unit×Unit×Int×RS×V9×Unit)).bind fun v1 =>
   (bS (aJ F) F ((),(),v1.2.2.1,0,0,(v1.2.2.2.1.1,v1.2.2.2.1.2.1,v1.2.2.2.1.2.2.1,v1.2.2.2.1.2.2.2.1,()),v1.2.2.2.2.1,())).bind (xk F):=rfl
theorem xj (s:By) (sg:Int) (hsg:sg=1∨sg = -1) (n c:Nat) (hn:n<1000000000000000) (q:By) (k:Int) (hc:c≠0):ae (fun F=>xk F (nS sg n c (st s q k 0))) ((3,itoa (sg * n),[],sg * n,[],[],()),st s q k 0):=by
 have hc' : ¬ (c:Int)=0:=by omega
 have hw:IntKind.i64.wrap (sg * (n:Int))=sg * (n:Int):=by rcases hsg with rfl | rfl <;> exact wrap64 _ (by omega) (by omega)
 have hok:okN (sg * (n:Int)):=by unfold okN; rcases hsg with rfl | rfl <;> omega
 unfold xk nS
 refine ae.bind (r:=(((),(),sg,(n:Int),st s q k 0,z9,()):Unit×Unit×Int×Int×RS×V9×Unit)) (ae.neg (by simpa using hc') (.ret _)) ?_
 simp only [hw]
 exact ae.bind (pE _ hok) (.ret _)
theorem qC (s:By) (sg:Int) (hsg:sg=1∨sg = -1) (q:By) (k:Int):ae (fun F=>xk F (nS sg 0 0 (st s q k 0))) ((3,[48],[],0,[],[],()),st s q k 3):=by
 have hw:IntKind.i64.wrap (sg * ((0:Nat):Int))=0:=by rcases hsg with rfl | rfl <;> rfl
 have hok:okN 0:=by unfold okN; omega
 have hi:itoa 0 = [48]:=by unfold itoa; rw [if_neg (by decide)]; exact Go.Lib.decDigits_one (by decide)
 have hd:=pE 0 hok
 rw [hi] at hd
 unfold xk nS
 refine ae.bind (r:=(((),(),sg,((0:Nat):Int),st s q k 3,z9,()):Unit×Unit×Int×Int×RS×V9×Unit)) (ae.pos rfl (.of fun F => ?_)) ?_
 ·unfold st
  simp only [bad_eq,Option.bind_some,if_true]
 ·simp only [hw]
  exact ae.bind hd (.ret _)
theorem Dz (s r:By) (h:r <:+ s) (hs:s.length≤1000) (k:Int) : ∃ y,ae (fun F=>bc F (st s r k 0)) y∧(match pM r with
  | some (n,q)=>y=((3,itoa n,[],n,[],[],()),st s q k 0)
  | none => ∃ r',r' <:+ s∧y=((3,[48],[],0,[],[],()),st s r' k 3)):=by
 have run : ∀ (sg:Int) (x:By) (z:V9×RS),(if isH r 0 45=true then some ((),(), -1,(s,IntKind.i64.wrap (((s.length - r.length:Nat):Int)+1),k,0,()),z9,()) else some ((),(),1,(s,((s.length - r.length:Nat):Int),k,0,()),z9,()):Option (Unit×Unit×Int×RS×V9×Unit))=some ((),(),sg,st s x k 0,z9,())→x <:+ s→ae (fun F=>xk F (nS sg (oe (cM x)) (cM x).length (st s (x.drop (cM x).length) k 0))) z→ae (fun F=>bc F (st s r k 0)) z:=by
  intro sg x z h1 hx hz
  refine ae.congr (m:=fun F => _) ?_ fun F=>H0 F _
  refine ae.bind (.of fun F=>IV F s r h k 0 45) ?_
  refine ae.bind (.of fun F=>h1) ?_
  exact ae.bind (DD s hs k sg x hx).run hz
 have hval:=vE
 have dl : ∀ x,cM x ≠ []→(cM x).length≠0:=fun x hx hh=>hx (List.length_eq_zero_iff.1 hh)
 unfold pM
 cases r with
 | nil =>
  refine ⟨_,run 1 [] _ ?_ h (qC s 1 (.inl rfl) [] k),[],h,rfl⟩
  rw [Dk]
  rfl
 | cons c q =>
  simp only
  by_cases c45:c=45
  ·subst c45
   rw [if_pos rfl]
   have h1:(if isH ((45:UInt8) :: q) 0 45=true then some ((),(), -1,(s,IntKind.i64.wrap (((s.length - ((45:UInt8) :: q).length:Nat):Int)+1),k,0,()),z9,()) else some ((),(),1,(s,((s.length - ((45:UInt8) :: q).length:Nat):Int),k,0,()),z9,()):Option (Unit×Unit×Int×RS×V9×Unit))=some ((),(), -1,st s q k 0,z9,()):=by
    rw [iB,dk h hs]
    rfl
   by_cases hd:cM q = []
   ·rw [if_pos hd]
    refine ⟨_,run (-1) q _ h1 (cr h) ?_,q,cr h,rfl⟩
    rw [hd]
    exact qC s (-1) (.inr rfl) q k
   ·rw [if_neg hd]
    refine ⟨_,run (-1) q _ h1 (cr h) (xj s (-1) (.inr rfl) _ _ (hval q) _ k (dl q hd)),?_⟩
    simp only [Int.neg_mul,Int.one_mul]
  ·rw [if_neg c45]
   have h1:(if isH (c :: q) 0 45=true then some ((),(), -1,(s,IntKind.i64.wrap (((s.length - (c :: q).length:Nat):Int)+1),k,0,()),z9,()) else some ((),(),1,(s,((s.length - (c :: q).length:Nat):Int),k,0,()),z9,()):Option (Unit×Unit×Int×RS×V9×Unit))=some ((),(),1,st s (c :: q) k 0,z9,()):=by
    rw [iB,decide_eq_false c45]
    rfl
   by_cases hd:cM (c :: q) = []
   ·rw [if_pos hd]
    refine ⟨_,run 1 (c :: q) _ h1 h ?_,c :: q,h,rfl⟩
    rw [hd]
    exact qC s 1 (.inl rfl) (c :: q) k
   ·rw [if_neg hd]
    refine ⟨_,run 1 (c :: q) _ h1 h (xj s 1 (.inl rfl) _ _ (hval (c :: q)) _ k (dl _ hd)),?_⟩
    simp only [Int.one_mul]
end Go.Vm
