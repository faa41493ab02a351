import Derived.Test.YtihpjgcbmipdbaaGreatDoorPrt
import Derived.Test.YtihpjgcbmipdbaaGreatDoorPk3
import Derived.Test.YtihpjgcbmipdbaaGreatDoorFprog
import Derived.Lib.AtoiAllCases
import Derived.Test.YtihpjgcbmipdbaaGreatDoorFcanonr
/- Tables: patterns, what fits, rules, their lines: plainly. No condition. -/
namespace Go.Vm
open Go.Lib (decDigits itoa decodeL)
set_option linter.unusedVariables false
set_option linter.unusedSimpArgs false
/-! ### paths and patterns -/
def gp (s:By):Bool:=(dz s).2 && decide ((dz s).1=s)
def aX (s:By):List By:=match s with
 | [] => []
 | c :: t=>if c=47 then (if t = [] then [] else gw 47 t) else []
def qM:List By→Bool
 | []=>true
 | x :: r=>(decide (x = [42]) || (decide (x = [42,42]) && decide (r = [])) || (decide (x ≠ []) && gp (47 :: x))) && qM r
def jw (s:By):Bool:=decide (s ≠ []) && decide (s.length≤60) && decide (s.head? = some 47) && qM (aX s)
def wL:List By→List By→Bool
 | [],b=>decide (b = [])
 | _ :: _,[]=>false
 | x :: l,y :: b=>if x = [42,42] then true else if x = [42]∨x=y then wL l b else false
def oy (p s:By):Bool:=jw p && gp s && wL (aX p) (aX s)
def lM (s:By):Bool:=decide (s = [42]) || ((cL s).2 && decide ((cL s).1=s))
abbrev RlT:=By×By×List PhT×Unit
def iO (r:RlT):Bool:=lM r.1 && jw r.2.1 && kY r.2.2.1
def vC (l:List RlT):Bool:=decide (1≤l.length) && decide (l.length≤8) && l.all iO
def fD (r:RlT):By:=r.1 ++ 32 :: (r.2.1 ++ 58 :: 32 :: cV r.2.2.1)
def k7 (l:List RlT):By:=gA 10 (l.map fD)
def lA (s:By):Prop := ∀ b∈s,b≠10∧b≠32∧b≠58
theorem lA.app {a b:By} (ha:lA a) (hb:lA b):lA (a ++ b):=fun x hx=>(List.mem_append.1 hx).elim (ha x) (hb x)
theorem CK : ∀ n:Fin 16,xV n.val≠10∧xV n.val≠32∧xV n.val≠58:=by decide +kernel
theorem HC {c:UInt8} (h:kv c=true):c≠10∧c≠32∧c≠58:=by
 refine ⟨?_,?_,?_⟩ <;> rintro rfl <;> exact absurd h (by decide)
theorem J0 (s:By):lA (ew s):=by
 intro b hb
 unfold ew at hb
 obtain ⟨c,_,hc⟩:=List.mem_flatMap.1 hb
 unfold wr1 at hc
 split at hc
 ·rename_i hp
  rw [List.mem_singleton] at hc
  subst hc
  exact HC hp
 ·have hlt:=c.toNat_lt
  simp only [List.mem_cons,List.not_mem_nil,or_false] at hc
  rcases hc with rfl | rfl | rfl
  ·decide
  ·exact CK ⟨c.toNat / 16,by omega⟩
  ·exact CK ⟨c.toNat % 16,by omega⟩
theorem Iq (l:List By):lA (dN l):=by
 intro b hb
 unfold dN at hb
 obtain ⟨q,_,hq⟩:=List.mem_flatMap.1 hb
 rcases List.mem_cons.1 hq with rfl | hq
 ·decide
 ·exact J0 q b hq
theorem LJ (s:By):lA (dz s).1:=by
 have h0:lA ([]:By):=fun b hb=>by cases hb
 cases s with
 | nil=>exact h0
 | cons c t =>
  by_cases h:59<t.length∨c≠47
  ·rw [iK h]; exact h0
  ·have hc:c=47:=Classical.byContradiction fun hh=>h (.inr hh)
   subst hc
   rw [ic fun hh=>h (.inl hh)]
   split
   ·exact h0
   ·rename_i l _
    have hj:lA (if dN l = [] then [47] else dN l):=by
     split
     ·intro b hb
      rw [List.mem_singleton] at hb
      subst hb
      decide
     ·exact Iq l
    unfold xG
    generalize (if dN l = [] then [47] else dN l:By)=w at hj
    by_cases hw:60<w.length
    ·rw [if_pos hw]; exact h0
    ·rw [if_neg hw]; exact hj
theorem KY {s:By} (h:gp s=true):lA s:=by
 unfold gp at h
 rw [Bool.and_eq_true,decide_eq_true_eq] at h
 have:=LJ s
 rw [h.2] at this
 exact this
theorem FJ : ∀ l:List By,qM l=true → ∀ x∈l,lA x
 | [],h,x,hx=>by cases hx
 | y :: l,h,x,hx=>by
  unfold qM at h
  rw [Bool.and_eq_true] at h
  rcases List.mem_cons.1 hx with rfl | hx
  ·have h1:=h.1
   simp only [Bool.or_eq_true,Bool.and_eq_true,decide_eq_true_eq] at h1
   rcases h1 with (rfl | ⟨rfl,_⟩) | ⟨_,h2⟩
   ·intro b hb
    rw [List.mem_singleton] at hb
    subst hb
    decide
   ·intro b hb
    simp only [List.mem_cons,List.not_mem_nil,or_false,or_self] at hb
    subst hb
    decide
   ·exact fun b hb=>KY h2 b (List.mem_cons_of_mem _ hb)
  ·exact FJ l h.2 x hx
theorem BP (d:UInt8) (hd:d≠10∧d≠32∧d≠58) : ∀ l:List By,(∀ x∈l,lA x)→lA (gA d l)
 | [],h=>fun b hb=>by cases hb
 | [p],h=>h p (List.mem_cons_self ..)
 | p :: q :: r,h=>by
  rw [jJ d p (by simp)]
  refine (h p (List.mem_cons_self ..)).app ?_
  intro b hb
  rcases List.mem_cons.1 hb with rfl | hb
  ·exact hd
  ·exact BP d hd (q :: r) (fun x hx=>h x (List.mem_cons_of_mem _ hx)) b hb
theorem IH {s:By} (h:jw s=true):lA s:=by
 unfold jw at h
 simp only [Bool.and_eq_true,decide_eq_true_eq] at h
 obtain ⟨⟨⟨h1,_⟩,h2⟩,h3⟩:=h
 cases s with
 | nil=>exact absurd rfl h1
 | cons c t =>
  have hc:c=47:=by simpa using h2
  subst hc
  intro b hb
  rcases List.mem_cons.1 hb with rfl | hb
  ·decide
  ·by_cases ht:t = []
   ·subst ht; cases hb
   ·have e:aX (47 :: t)=gw 47 t:=by unfold aX; simp only [if_true]; rw [if_neg ht]
    rw [e] at h3
    have:=BP 47 (by decide) (gw 47 t) (FJ _ h3)
    rw [yV] at this
    exact this b hb
theorem Fp {s:By} (h:lM s=true):lA s:=by
 unfold lM at h
 simp only [Bool.or_eq_true,Bool.and_eq_true,decide_eq_true_eq] at h
 rcases h with rfl | ⟨h1,h2⟩
 ·intro b hb
  rw [List.mem_singleton] at hb
  subst hb
  decide
 ·unfold cL at h1
  split at h1
  ·cases h1
  ·split at h1
   ·rename_i ha
    intro b hb
    have:=List.all_eq_true.1 ha b hb
    refine ⟨?_,?_,?_⟩ <;> rintro rfl <;> exact absurd this (by decide)
   ·cases h1
theorem I1 {d:Nat} (h:okR d) (hd : ¬ d<128) : ∀ b∈cH d,128≤b.toNat:=by
 obtain ⟨o1,o2⟩:=h
 have ne : ∀ k:Nat,128≤k→k<256→128≤(UInt8.ofNat k).toNat:=by
  intro k h1 h2
  have e:(UInt8.ofNat k).toNat=k:=by simp; omega
  omega
 intro b hb
 unfold cH at hb
 rw [if_neg hd] at hb
 split at hb
 ·simp only [List.mem_cons,List.not_mem_nil,or_false] at hb
  rcases hb with rfl | rfl <;> exact ne _ (by omega) (by omega)
 split at hb
 ·simp only [List.mem_cons,List.not_mem_nil,or_false] at hb
  rcases hb with rfl | rfl | rfl <;> exact ne _ (by omega) (by omega)
 ·simp only [List.mem_cons,List.not_mem_nil,or_false] at hb
  rcases hb with rfl | rfl | rfl | rfl <;> exact ne _ (by omega) (by omega)
theorem EA : ∀ s:By,oF s=true → ∀ b∈s,b≠10:=by
 refine yS ?_ ?_
 ·intro _ b hb; cases hb
 ·intro l h ih ha b hb
  rw [qE h,Bool.and_eq_true,decide_eq_true_eq] at ha
  obtain ⟨hs,ha⟩:=ha
  have hbad : ¬ ((decodeL l).1=65533∧(decodeL l).2=1):=by
   rintro ⟨h1,_⟩
   rw [h1] at hs
   exact hs (by decide)
  rw [← List.take_append_drop (decodeL l).2 l] at hb
  rcases List.mem_append.1 hb with hb | hb
  ·rw [gM l h hbad] at hb
   have hok:=qu l
   generalize (decodeL l).1=d at *
   by_cases hd:d<128
   ·have e:cH d = [UInt8.ofNat d]:=by unfold cH; rw [if_pos hd]
    rw [e,List.mem_singleton] at hb
    subst hb
    intro h10
    have:=congrArg UInt8.toNat h10
    have e2:(UInt8.ofNat d).toNat=d:=by simp; omega
    rw [e2] at this
    have h3:d=10:=this
    subst h3
    exact hs (by decide)
   ·have:=I1 hok hd b hb
    rintro rfl
    exact absurd this (by decide)
  ·exact ih ha b hb
theorem HR {t:By} (h:tY t=true):oF t=true:=by
 unfold tY at h
 rw [Bool.and_eq_true] at h
 have h2:=zN t
 rw [h.2,Bool.and_eq_true] at h2
 exact h2.1
theorem zn {p:PhT} (h:eF p=true) : ∀ b∈al p,b≠10:=by
 have hdig : ∀ n:Nat, ∀ b∈itoa (n:Int),b≠10:=by
  intro n b hb
  have:=sg n b hb
  rintro rfl
  exact absurd this (by decide)
 have hnm : ∀ {s:By},nmP s=true → ∀ b∈s,b≠10:=by
  intro s hs b hb
  unfold nmP at hs
  simp only [Bool.and_eq_true] at hs
  have:=List.all_eq_true.1 hs.1.1 b hb
  rintro rfl
  exact absurd this (by decide)
 have htx : ∀ {t:By},lY t=true → ∀ b∈t,b≠10:=by
  intro t ht
  unfold lY at ht
  rw [Bool.and_eq_true] at ht
  exact EA t (HR ht.2)
 rcases iH h with ⟨n,rfl,h1,h2⟩ | ⟨nm,n,rfl,h3,h1,h2⟩ | ⟨nm,t,rfl,h2,h3⟩ | ⟨n,t,rfl,h1,h3⟩
 ·exact fV (a:=rD) (by decide) (gP (by decide) (hdig n))
 ·exact fV (a:=pB) (by decide) (gP (by decide) (fV (hnm h3) (gP (by decide) (hdig n))))
 ·exact fV (a:=rB) (by decide) (gP (by decide) (fV (hnm h2) (sj (by decide) (htx h3))))
 ·exact fV (a:=uB) (by decide) (gP (by decide) (fV (hdig n) (sj (by decide) (htx h3))))
theorem EX {l:List PhT} (h:kY l=true) : ∀ b∈cV l,b≠10:=by
 obtain ⟨h1,_,_⟩:=jE h
 cases l with
 | nil=>intro b hb; cases hb
 | cons p r =>
  rw [lQ]
  refine fV (zn (h1 p (List.mem_cons_self ..))) ?_
  have : ∀ r:List PhT,(∀ q∈r,eF q=true) → ∀ b∈Lib.joinTail [59,32] (r.map al),b≠10:=by
   intro r
   induction r with
   | nil=>intro _ b hb; cases hb
   | cons q r ih =>
    intro hq
    show ∀ b ∈ [59,32] ++ al q ++ Lib.joinTail [59,32] (r.map al),b≠10
    exact fV (fV (by decide) (zn (hq q (List.mem_cons_self ..)))) (ih fun x hx=>hq x (List.mem_cons_of_mem _ hx))
  exact this r fun q hq=>h1 q (List.mem_cons_of_mem _ hq)
theorem zK {r:RlT} (h:iO r=true) : ∀ b∈fD r,b≠10:=by
 unfold iO at h
 simp only [Bool.and_eq_true] at h
 obtain ⟨⟨h1,h2⟩,h3⟩:=h
 exact fV (fun b hb=>(Fp h1 b hb).1) (gP (by decide) (fV (fun b hb=>(IH h2 b hb).1) (gP (by decide) (gP (by decide) (EX h3)))))
/-! ### lines -/
theorem wa {l:List RlT} (h:vC l=true):l ≠ []∧l.length≤8 ∧ ∀ r∈l,iO r=true:=by
 unfold vC at h
 simp only [Bool.and_eq_true,decide_eq_true_eq] at h
 refine ⟨?_,h.1.2,fun r hr=>List.all_eq_true.1 h.2 r hr⟩
 rintro rfl
 simp at h
end Go.Vm
/- Programs: the program's functions are the plain ones. No condition but on lengths. -/
namespace Go.Vm
open Go.Proofs
open Go.Lib (decDigits itoa)
set_option linter.unusedVariables false
set_option linter.unusedSimpArgs false
/-! ### cutting -/
theorem jS (s d:By):(Lib.cut s d).1.length≤s.length∧(Lib.cut s d).2.1.length≤s.length:=by
 unfold Lib.cut
 split
 ·exact ⟨by simp only [List.length_take]; omega,by simp only [List.length_drop]; omega⟩
 ·exact ⟨Nat.le_refl _,Nat.zero_le _⟩
def xX (p:PhT):Prop:=p.2.1.length≤1000∧p.2.2.2.1.length≤1000
theorem Av {α:Type} (l:List α) (i:Nat) (h:i<l.length):(l.drop (i+1) = []) ↔ i=l.length - 1:=by
 rw [List.drop_eq_nil_iff]
 omega
end Go.Vm
/- Programs: what the program prints and parses is the plain one. No condition but on lengths. -/
namespace Go.Vm
open Go.Proofs
open Go.Lib (decDigits itoa)
set_option linter.unusedVariables false
set_option linter.unusedSimpArgs false
theorem ug {s:By} (h:nmP s=true):s.length≤12:=by
 unfold nmP at h
 simp only [Bool.and_eq_true,decide_eq_true_eq] at h
 exact h.2
theorem kV {s:By} (h:lY s=true):s.length≤60:=by
 unfold lY tY at h
 simp only [Bool.and_eq_true,decide_eq_true_eq] at h
 exact h.2.1
theorem jL (n:Nat) (h:n≤1073741824):(itoa (n:Int)).length≤10:=(xf n 10 (by decide) (by omega)).1
theorem qG (s:By):(gm s).length≤s.length+1:=by
 unfold gm
 split
 ·exact Nat.zero_le _
 ·rw [List.length_cons]; omega
theorem lS {p:PhT} (h:eF p=true):(al p).length≤100:=by
 rcases iH h with ⟨n,rfl,h1,h2⟩ | ⟨nm,n,rfl,h3,h1,h2⟩ | ⟨nm,t,rfl,h2,h3⟩ | ⟨n,t,rfl,h1,h3⟩
 ·have:=jL n (by omega)
  show (rD ++ 32 :: itoa (n:Int)).length≤100
  simp only [List.length_append,List.length_cons,List.length_nil]
  omega
 ·have:=jL n h2
  have:=ug h3
  show (pB ++ 32 :: (nm ++ 32 :: itoa (n:Int))).length≤100
  simp only [List.length_append,List.length_cons,List.length_nil]
  omega
 ·have:=ug h2
  have:=kV h3
  have:=qG t
  show (rB ++ 32 :: (nm ++ gm t)).length≤100
  simp only [List.length_append,List.length_cons,List.length_nil]
  omega
 ·have:=jL n (by omega)
  have:=kV h3
  have:=qG t
  show (uB ++ 32 :: (itoa (n:Int) ++ gm t)).length≤100
  simp only [List.length_append,List.length_cons,List.length_nil]
  omega
theorem CC : ∀ r:List PhT,(∀ p∈r,eF p=true)→(Lib.joinTail [59,32] (r.map al)).length≤102 * r.length
 | [],h=>Nat.zero_le _
 | p :: r,h=>by
  have h1:=lS (h p (List.mem_cons_self ..))
  have h2:=CC r fun q hq=>h q (List.mem_cons_of_mem _ hq)
  show ([59,32] ++ al p ++ Lib.joinTail [59,32] (r.map al)).length ≤ _
  simp only [List.length_append,List.length_cons,List.length_nil]
  omega
theorem Fb {l:List PhT} (h:kY l=true):(cV l).length≤600:=by
 obtain ⟨h1,h2,h3⟩:=jE h
 cases l with
 | nil=>simp at h2
 | cons p r =>
  have q1:=lS (h1 p (List.mem_cons_self ..))
  have q2:=CC r fun q hq=>h1 q (List.mem_cons_of_mem _ hq)
  rw [lQ,List.length_append]
  simp only [List.length_cons] at h3
  omega
end Go.Vm
/- Tables: the program's functions are the plain ones. No condition but on lengths. -/
namespace Go.Vm
open Go.Proofs
set_option linter.unusedVariables false
set_option linter.unusedSimpArgs false
/-! ### parts, forms, patterns -/
theorem GM (F:Nat) (t:By) (h:t.length≤1000000):du F (47 :: t,[47])=some (t,true):=by
 unfold du bH aJ
 have s0:sub (47 :: t:By) 0 (([47]:By).length:Int)=some [47]:=by
  have:=jT (47 :: t:By) 0 1 (by omega) (by simp)
  exact this
 have s1:sub (47 :: t:By) (([47]:By).length:Int) ((47 :: t:By).length:Int)=some t:=ec (47 :: t:By) 1 (by simp)
 rw [if_pos (by rw [decide_eq_true_eq]; simp only [List.length_cons,List.length_nil]; omega)]
 simp only [s0,Option.bind_some,decide_true,Bool.not_true,Bool.false_eq_true,if_false,s1]
theorem D3 (F:Nat) (x:By) (h : ∀ t,x≠47 :: t):du F (x,[47])=some (x,false):=by
 unfold du bH aJ
 cases x with
 | nil=>rfl
 | cons c t =>
  have s0:sub (c :: t:By) 0 (([47]:By).length:Int)=some [c]:=by
   have:=jT (c :: t:By) 0 1 (by omega) (by simp)
   exact this
  have hc : ¬ ([c]:By) = [47]:=by
   intro hh
   injection hh with hh _
   exact h t (by rw [hh])
  rw [if_pos (by rw [decide_eq_true_eq]; simp only [List.length_cons,List.length_nil]; omega)]
  simp only [s0,Option.bind_some,decide_eq_false hc,Bool.not_false,if_true]
theorem Az (F:Nat) (x:By) (h:x.length≤1000):gj F x=some (aX x):=by
 unfold gj
 by_cases hc : ∃ t,x=47 :: t
 ·obtain ⟨t,rfl⟩:=hc
  rw [List.length_cons] at h
  have e:aX (47 :: t)=if t = [] then [] else gw 47 t:=by unfold aX; simp
  have hsp:fg F (t,[47])=some (gw 47 t):=by
   unfold fg tX
   rw [if_pos (decide_eq_true (by simp only; omega)),if_pos (by rfl),r7]
  rw [GM F t (by omega),e]
  simp only [Option.bind_some,Bool.not_true,if_true]
  by_cases ht:t = []
  ·rw [if_pos (decide_eq_true ht),if_pos ht]
  ·rw [if_neg (by rw [decide_eq_true_eq]; exact ht),if_neg ht,hsp]
   rfl
 ·have e:aX x = []:=by
   cases x with
   | nil=>rfl
   | cons c t =>
    unfold aX
    simp only
    rw [if_neg]
    rintro rfl
    exact hc ⟨t,rfl⟩
  rw [D3 F x fun t ht=>hc ⟨t,ht⟩,e]
  rfl
theorem Iu (x:By):ae (fun F=>jk F x) (gp x):=by
 unfold jk gp
 refine ae.bind (xK x) (.of fun F => ?_)
 cases (dz x).2 <;> simp
theorem Di (l:List By) (hl:l.length≤1000000) (hx : ∀ x∈l,x.length≤1000000) : ∀ (n i:Nat),i+n=l.length→af eM (l,l,(l.length:Int),(i:Int),()) (if qM (l.drop i)=true then .inl () else .inr (false,()))
 | 0,i,h=>by
  refine af.fin (.of fun F => ?_)
  unfold eM
  rw [if_neg (by rw [decide_eq_true_eq]; simp only; omega),List.drop_eq_nil_of_le (by omega)]
  rfl
 | n+1,i,h=>by
  have hi:i<l.length:=by omega
  have hx0:idx l (i:Int)=some l[i]:=aV _ _ _ (List.getElem?_eq_getElem hi)
  have hw:IntKind.i64.wrap ((i:Int)+1)=((i+1:Nat):Int):=by rw [wrap64 _ (by omega) (by omega)]; omega
  have hw1:IntKind.i64.wrap ((l.length:Int) - 1)=((l.length - 1:Nat):Int):=by rw [wrap64 _ (by omega) (by omega)]; omega
  have ih:=Di l hl hx n (i+1) (by omega)
  have hxl:=hx l[i] (List.getElem_mem hi)
  have hd:(l.drop (i+1) = []) ↔ i=l.length - 1:=by rw [List.drop_eq_nil_iff]; omega
  rw [List.drop_eq_getElem_cons hi]
  generalize l[i]=x at *
  have hk:decide ((i:Int)=((l.length - 1:Nat):Int))=decide (l.drop (i+1) = []):=by
   rw [Bool.eq_iff_iff,decide_eq_true_eq,decide_eq_true_eq,hd]; omega
  have e:qM (x :: l.drop (i+1))=((decide (x = [42]) || (decide (x = [42,42]) && decide (l.drop (i+1) = [])) || (decide (x ≠ []) && gp (47 :: x))) && qM (l.drop (i+1))):=rfl
  rw [e]
  generalize hB:(decide (x = [42]) || (decide (x = [42,42]) && decide (l.drop (i+1) = [])) || (decide (x ≠ []) && gp (47 :: x)))=B
  have hbody:ae (fun F=>eM F (l,l,(l.length:Int),(i:Int),())) (if B=true then .inl (l,l,(l.length:Int),((i+1:Nat):Int),()) else .inr (.inr (false,()))):=by
   unfold eM
   refine ae.pos (by rw [decide_eq_true_eq]; simp only; omega) ?_
   refine ae.bind (r:=(if B=true then .inl (l,l,(l.length:Int),(i:Int),()) else .inr (false,()):(List By×List By×Int×Int×Unit) ⊕ (Bool×Unit))) (ae.bind (.of fun F=>hx0) ?_) ?_
   ·by_cases c1:x = [42]
    ·have:B=true:=by rw [← hB,decide_eq_true c1]; rfl
     rw [if_pos this]
     exact ae.pos (decide_eq_true c1) (.ret _)
    refine ae.neg (by rw [decide_eq_true_eq]; exact c1) ?_
    refine ae.bind (r:=((l,x,l,(l.length:Int),(i:Int),decide (x = [42,42]) && decide (l.drop (i+1) = []),()):List By×By×List By×Int×Int×Bool×Unit)) (.of fun F => ?_) ?_
    ·by_cases c2:x = [42,42]
     ·rw [if_pos (decide_eq_true c2),hw1,hk,decide_eq_true c2,Bool.true_and]
     ·rw [if_neg (by rw [decide_eq_true_eq]; exact c2),decide_eq_false c2,Bool.false_and]
    rw [decide_eq_false c1,Bool.false_or] at hB
    cases hc2:(decide (x = [42,42]) && decide (l.drop (i+1) = [])) with
    | true =>
     have:B=true:=by rw [← hB,hc2]; rfl
     rw [if_pos this]
     exact ae.pos rfl (.ret _)
    | false =>
     rw [hc2,Bool.false_or] at hB
     refine ae.neg Bool.false_ne_true ?_
     refine ae.bind (r:=((l,l,(l.length:Int),(i:Int), !B,()):List By×List By×Int×Int×Bool×Unit)) ?_ ?_
     ·by_cases c3:x = []
      ·have:B=false:=by rw [← hB,decide_eq_false (fun hh=>hh c3)]; rfl
       rw [this]
       exact ae.neg (by rw [decide_eq_true c3]; exact Bool.noConfusion) (.ret _)
      ·have hBf:B=gp (47 :: x):=by rw [← hB,decide_eq_true c3,Bool.true_and]
       rw [hBf]
       refine ae.pos (decide_eq_false c3) (ae.pos (by rw [decide_eq_true_eq]; simp only [List.length_singleton]; omega) ?_)
       exact ae.bind (Iu (47 :: x)) (.ret _)
     ·cases B with
      | true=>exact ae.neg Bool.false_ne_true (.ret _)
      | false=>exact ae.pos rfl (.ret _)
   ·cases B with
    | true=>exact .of fun F=>by simp only [if_true,aB,hw]
    | false=>exact .of fun F=>rfl
  cases B with
  | true =>
   rw [if_pos rfl] at hbody
   rw [Bool.true_and]
   exact af.step hbody ih
  | false =>
   rw [if_neg Bool.false_ne_true] at hbody
   rw [Bool.false_and,if_neg Bool.false_ne_true]
   exact af.fin hbody
theorem kT (x:By) (h:x.length≤1000):(aX x).length≤1001 ∧ ∀ p∈aX x,p.length≤1000:=by
 cases x with
 | nil=>exact ⟨Nat.zero_le _,fun p hp=>by cases hp⟩
 | cons c t =>
  unfold aX
  simp only
  rw [List.length_cons] at h
  split
  ·split
   ·exact ⟨Nat.zero_le _,fun p hp=>by cases hp⟩
   ·obtain ⟨h1,h2⟩:=CU 47 t
    exact ⟨by omega,fun p hp=>by have:=h2 p hp; omega⟩
  ·exact ⟨Nat.zero_le _,fun p hp=>by cases hp⟩
theorem Gv (x:By) (h:x.length≤1000):ae (fun F=>ix F x) (jw x):=by
 unfold ix jw
 cases x with
 | nil =>
  exact ae.bind (r:=(([],true,()):By×Bool×Unit)) (.of fun F=>rfl) (ae.bind (r:=(([],true,()):By×Bool×Unit)) (.of fun F=>rfl) (ae.pos rfl (.ret _)))
 | cons c t =>
  have hne:decide ((c :: t:By) ≠ [])=true:=decide_eq_true (by simp)
  rw [hne,Bool.true_and]
  refine ae.bind (r:=((c :: t, !decide ((c :: t).length≤60),()):By×Bool×Unit)) (.of fun F => ?_) ?_
  ·rw [if_pos (decide_eq_false (by simp))]
   by_cases h6:(c :: t).length≤60
   ·rw [decide_eq_true h6,decide_eq_false (by omega)]; rfl
   ·rw [decide_eq_false h6,decide_eq_true (by omega)]; rfl
  have hi:idx (c :: t:By) 0=some c:=aV _ 0 _ rfl
  have n47:((c.toNat:Int)=47)=(c=47):=nvB c 47
  have hh:decide ((c :: t:By).head? = some 47)=decide (c=47):=by rw [Bool.eq_iff_iff]; simp
  rw [hh]
  refine ae.bind (r:=((c :: t, !(decide ((c :: t).length≤60) && decide (c=47)),()):By×Bool×Unit)) (.of fun F => ?_) ?_
  ·cases h6:decide ((c :: t).length≤60) with
   | true =>
    rw [if_pos (show (!true)=false from rfl)]
    simp only [hi,Option.bind_some,n47,Bool.true_and]
   | false=>rfl
  cases h7:(decide ((c :: t).length≤60) && decide (c=47)) with
  | false =>
   rw [Bool.false_and]
   exact ae.pos rfl (.ret _)
  | true =>
   rw [Bool.true_and]
   refine ae.neg Bool.false_ne_true ?_
   refine ae.bind (.of fun F=>Az F (c :: t) h) ?_
   obtain ⟨h1,h2⟩:=kT (c :: t) h
   have hl:=Di (aX (c :: t)) (by omega) (fun p hp=>by have:=h2 p hp; omega) (aX (c :: t)).length 0 (by omega)
   rw [List.drop_zero] at hl
   refine ae.bind hl.run ?_
   cases qM (aX (c :: t)) <;> exact .ret _
/-! ### what fits -/
def yZ:List By→List By→List By×Unit ⊕ Bool×Unit
 | [],b => .inl (b,())
 | _ :: _,[] => .inr (false,())
 | x :: l,y :: b=>if x = [42,42] then .inr (true,()) else if x = [42]∨x=y then yZ l b else .inr (false,())
theorem za : ∀ (l b:List By),cm (yZ l b) (fun v=>decide ((v.1.length:Int)=0)) (fun v=>v.1)=wL l b
 | [],b=>by
  show decide ((b.length:Int)=0)=decide (b = [])
  rw [Bool.eq_iff_iff,decide_eq_true_eq,decide_eq_true_eq]
  cases b <;> simp
  omega
 | _ :: _,[]=>rfl
 | x :: l,y :: b=>by
  unfold yZ wL
  by_cases c1:x = [42,42]
  ·rw [if_pos c1,if_pos c1]; rfl
  rw [if_neg c1,if_neg c1]
  by_cases c2:x = [42]∨x=y
  ·rw [if_pos c2,if_pos c2]; exact za l b
  ·rw [if_neg c2,if_neg c2]; rfl
theorem zq (l:List By) (hl:l.length≤1000000) : ∀ (n i:Nat) (b:List By),i+n=l.length→b.length≤1000000→af eh (b,l,(l.length:Int),(i:Int),()) (yZ (l.drop i) b)
 | 0,i,b,h,hb=>by
  refine af.fin (.of fun F => ?_)
  unfold eh
  rw [if_neg (by rw [decide_eq_true_eq]; simp only; omega),List.drop_eq_nil_of_le (by omega)]
  rfl
 | n+1,i,b,h,hb=>by
  have hi:i<l.length:=by omega
  have hx0:idx l (i:Int)=some l[i]:=aV _ _ _ (List.getElem?_eq_getElem hi)
  have hw:IntKind.i64.wrap ((i:Int)+1)=((i+1:Nat):Int):=by rw [wrap64 _ (by omega) (by omega)]; omega
  rw [List.drop_eq_getElem_cons hi]
  generalize l[i]=x at *
  cases b with
  | nil =>
   refine af.fin (.of fun F => ?_)
   unfold eh
   rw [if_pos (by rw [decide_eq_true_eq]; simp only; omega)]
   simp only [hx0,Option.bind_some]
   rfl
  | cons y b =>
   rw [List.length_cons] at hb
   have hy:idx (y :: b) 0=some y:=aV _ 0 _ rfl
   have hs:sub (y :: b) 1 ((y :: b).length:Int)=some b:=ec (y :: b) 1 (by simp)
   have hnz : ¬ decide ((((y :: b):List By).length:Int)=0)=true:=by rw [decide_eq_true_eq]; simp only [List.length_cons]; omega
   unfold yZ
   by_cases c1:x = [42,42]
   ·rw [if_pos c1]
    refine af.fin (.of fun F => ?_)
    unfold eh
    rw [if_pos (by rw [decide_eq_true_eq]; simp only; omega)]
    simp only [hx0,Option.bind_some]
    rw [if_neg hnz,if_pos (decide_eq_true c1)]
   rw [if_neg c1]
   have hc : ∀ F:Nat,(if decide (x = [42])=true then some (y :: b,l,(l.length:Int),(i:Int),decide (x = [42]),()) else (idx (y :: b) 0).bind fun v7=>some (y :: b,l,(l.length:Int),(i:Int),decide (x=v7),()):Option (List By×List By×Int×Int×Bool×Unit))=some (y :: b,l,(l.length:Int),(i:Int),decide (x = [42]∨x=y),()):=by
    intro F
    by_cases c2:x = [42]
    ·rw [if_pos (decide_eq_true c2),decide_eq_true c2,decide_eq_true (.inl c2)]
    ·rw [if_neg (by rw [decide_eq_true_eq]; exact c2),hy,Option.bind_some]
     by_cases c3:x=y
     ·rw [decide_eq_true c3,decide_eq_true (.inr c3)]
     ·rw [decide_eq_false c3,decide_eq_false (by rintro (hh | hh); exact c2 hh; exact c3 hh)]
   by_cases c2:x = [42]∨x=y
   ·rw [if_pos c2]
    refine af.step ?_ (zq l hl n (i+1) b (by omega) (by omega))
    unfold eh
    refine ae.pos (by rw [decide_eq_true_eq]; simp only; omega) (ae.bind (.of fun F=>hx0) (ae.neg hnz (ae.neg (by rw [decide_eq_true_eq]; exact c1) (ae.bind (.of hc) (ae.pos (decide_eq_true c2) (ae.bind (.of fun F=>hs) (.of fun F => ?_)))))))
    simp only [hw]
   ·rw [if_neg c2]
    refine af.fin ?_
    unfold eh
    exact ae.pos (by rw [decide_eq_true_eq]; simp only; omega) (ae.bind (.of fun F=>hx0) (ae.neg hnz (ae.neg (by rw [decide_eq_true_eq]; exact c1) (ae.bind (.of hc) (ae.neg (by rw [decide_eq_true_eq]; exact c2) (.ret _))))))
theorem Nq (p s:By) (hp:p.length≤1000) (hs:s.length≤1000):ae (fun F=>kP F (p,s)) (oy p s):=by
 unfold kP oy
 refine ae.bind (r:=((p,s, !(jw p && gp s),()):By×By×Bool×Unit)) (ae.bind (Gv p hp) ?_) ?_
 ·cases jw p with
  | true=>exact ae.pos rfl (ae.bind (Iu s) (.ret _))
  | false=>exact ae.neg (by decide) (.ret _)
 cases hb:(jw p && gp s) with
 | false =>
  rw [Bool.false_and]
  exact ae.pos rfl (.ret _)
 | true =>
  rw [Bool.true_and]
  refine ae.neg Bool.false_ne_true ?_
  refine ae.bind (.of fun F=>Az F p hp) (ae.bind (.of fun F=>Az F s hs) ?_)
  obtain ⟨h1,_⟩:=kT p hp
  obtain ⟨h2,_⟩:=kT s hs
  have hl:=zq (aX p) (by omega) (aX p).length 0 (aX s) (by omega) (by omega)
  rw [List.drop_zero] at hl
  refine ae.bind hl.run ?_
  rw [← za]
  refine .of fun F => ?_
  cases yZ (aX p) (aX s) <;> rfl
end Go.Vm
/- Tables: what the program prints, parses and finds is the plain one. No condition but on lengths. -/
namespace Go.Vm
open Go.Proofs
set_option linter.unusedVariables false
set_option linter.unusedSimpArgs false
def yp (r:RlT):Prop:=r.1.length≤1000∧r.2.1.length≤1000∧r.2.2.1.length≤100000 ∧ ∀ p∈r.2.2.1,xX p
theorem sF {r:RlT} (h:iO r=true):r.1.length≤1000∧r.2.1.length≤60∧(cV r.2.2.1).length≤600∧(fD r).length≤1000:=by
 obtain ⟨m,p,pr,u⟩:=r
 unfold iO at h
 simp only [Bool.and_eq_true] at h
 obtain ⟨⟨h1,h2⟩,h3⟩:=h
 have q1:m.length≤8:=by
  unfold lM at h1
  simp only [Bool.or_eq_true,Bool.and_eq_true,decide_eq_true_eq] at h1
  rcases h1 with rfl | ⟨h1,_⟩
  ·decide
  ·unfold cL at h1
   split at h1
   ·cases h1
   ·rename_i hc
    omega
 have q2:p.length≤60:=by
  unfold jw at h2
  simp only [Bool.and_eq_true,decide_eq_true_eq] at h2
  exact h2.1.1.2
 have q3:=Fb h3
 refine ⟨by simp only; omega,q2,q3,?_⟩
 unfold fD
 simp only [List.length_append,List.length_cons]
 omega
def ia (r:RlT) (m s:By):Bool:=(decide (r.1=m) || decide (r.1 = [42])) && oy r.2.1 s
def ly (m s:By):List RlT→Nat→Unit ⊕ Int×Unit
 | [],i => .inl ()
 | r :: l,i=>if ia r m s=true then .inr ((i:Int),()) else ly m s l (i+1)
def dM (l:List RlT) (m s:By):Int:=cm (ly m s l 0) (fun _ => -1) (fun v=>v.1)
theorem wZ (l:List RlT) (m s:By) (hl:l.length≤1000000) (hb : ∀ r∈l,yp r) (hs:s.length≤1000) : ∀ (n i:Nat),i+n=l.length→af gf (m,s,l,(l.length:Int),(i:Int),()) (ly m s (l.drop i) i)
 | 0,i,h=>by
  refine af.fin (.of fun F => ?_)
  unfold gf
  rw [if_neg (by rw [decide_eq_true_eq]; simp only; omega),List.drop_eq_nil_of_le (by omega)]
  rfl
 | n+1,i,h=>by
  have hi:i<l.length:=by omega
  have hx:idx l (i:Int)=some l[i]:=aV _ _ _ (List.getElem?_eq_getElem hi)
  have hw:IntKind.i64.wrap ((i:Int)+1)=((i+1:Nat):Int):=by rw [wrap64 _ (by omega) (by omega)]; omega
  have ih:=wZ l m s hl hb hs n (i+1) (by omega)
  obtain ⟨b1,b2,b3,b4⟩:=hb l[i] (List.getElem_mem hi)
  rw [List.drop_eq_getElem_cons hi]
  generalize l[i]=r at *
  obtain ⟨rm,rp,pr,u⟩:=r
  simp only at b1 b2
  unfold ly
  have hbody:ae (fun F=>gf F (m,s,l,(l.length:Int),(i:Int),())) (if ia (rm,rp,pr,u) m s=true then .inr (.inr ((i:Int),())) else .inl (m,s,l,(l.length:Int),((i+1:Nat):Int),())):=by
   unfold gf ia
   refine ae.pos (by rw [decide_eq_true_eq]; simp only; omega) (ae.bind (.of fun F=>hx) ?_)
   refine ae.bind (r:=((m,s,(i:Int),(),l,(l.length:Int),(i:Int),decide (rm=m) || decide (rm = [42]),(rm,rp,pr,()),()):By×By×Int×Unit×List RlT×Int×Int×Bool×RlT×Unit)) (.of fun F => ?_) ?_
   ·by_cases c1:rm=m
    ·rw [if_neg (by rw [decide_eq_true c1]; exact Bool.noConfusion),decide_eq_true c1]; rfl
    ·rw [if_pos (decide_eq_false c1),decide_eq_false c1,Bool.false_or]
   refine ae.bind (r:=((m,s,(i:Int),l,(l.length:Int),(i:Int),(decide (rm=m) || decide (rm = [42])) && oy rp s,()):By×By×Int×List RlT×Int×Int×Bool×Unit)) ?_ ?_
   ·cases (decide (rm=m) || decide (rm = [42])) with
    | true=>exact ae.pos rfl (ae.bind (Nq rp s b2 hs) (.ret _))
    | false=>exact ae.neg Bool.false_ne_true (.ret _)
   ·show ae _ (if ((decide (rm=m) || decide (rm = [42])) && oy rp s)=true then _ else _)
    cases ((decide (rm=m) || decide (rm = [42])) && oy rp s) with
    | true=>exact ae.pos rfl (.ret _)
    | false=>exact ae.neg Bool.false_ne_true (.of fun F=>by simp only [hw]; rfl)
  cases hc:ia (rm,rp,pr,u) m s with
  | true =>
   rw [hc,if_pos rfl] at hbody
   exact af.fin hbody
  | false =>
   rw [hc,if_neg Bool.false_ne_true] at hbody
   exact af.step hbody ih
theorem M8 (l:List RlT) (m s:By) (hl:l.length≤1000000) (hb : ∀ r∈l,yp r) (hs:s.length≤1000):ae (fun F=>kK F (l,m,s)) (dM l m s):=by
 unfold kK dM
 have h:=wZ l m s hl hb hs l.length 0 (by omega)
 rw [List.drop_zero] at h
 refine ae.bind h.run (.of fun F => ?_)
 cases ly m s l 0 <;> rfl
end Go.Vm
