import Derived.Test.YtihpjgcbmipdbaaGreatDoorPk3
import Derived.Lib.AtoiAllCases
set_option linter.unusedVariables false
set_option linter.unusedSimpArgs false
namespace Go.Vm
open Go.Lib (decDigits itoa decodeL)
def iT (s:By):Bool:=(gD s).2 && decide ((gD s).1=s)
def bG (s:By):List By:=match s with
 | [] => []
 | c :: t=>if c=47 then (if t = [] then [] else iV 47 t) else []
def uq:List By→Bool
 | []=>true
 | x :: r=>(decide (x = [42]) || (decide (x = [42,42]) && decide (r = [])) || (decide (x ≠ []) && iT (47 :: x))) && uq r
def lb (s:By):Bool:=decide (s ≠ []) && decide (s.length≤60) && decide (s.head? = some 47) && uq (bG s)
def BE:List By→List By→Bool
 | [],b=>decide (b = [])
 | _ :: _,[]=>false
 | x :: l,y :: b=>if x = [42,42] then true else if x = [42]∨x=y then BE l b else false
def rj (p s:By):Bool:=lb p && iT s && BE (bG p) (bG s)
def oG (s:By):Bool:=decide (s = [42]) || ((gQ s).2 && decide ((gQ s).1=s))
abbrev RlT:=By×By×List PhT×Unit
def ku (r:RlT):Bool:=oG r.1 && lb r.2.1 && nR r.2.2.1
def zw (l:List RlT):Bool:=decide (1≤l.length) && decide (l.length≤8) && l.all ku
def hE (r:RlT):By:=r.1 ++ 32 :: (r.2.1 ++ 58 :: 32 :: eE r.2.2.1)
def nN (l:List RlT):By:=ji 10 (l.map hE)
def nL (s:By):Prop := ∀ b∈s,b≠10∧b≠32∧b≠58
theorem nL.app {a b:By} (ha:nL a) (hb:nL b):nL (a ++ b):=fun x hx=>(List.mem_append.1 hx).elim (ha x) (hb x)
theorem F5 : ∀ n:Fin 16,sC n.val≠10∧sC n.val≠32∧sC n.val≠58:=by decide +kernel
theorem Mx {c:UInt8} (h:lr c=true):c≠10∧c≠32∧c≠58:=by
 refine ⟨?_,?_,?_⟩ <;> rintro rfl <;> exact absurd h (by decide)
theorem PL (s:By):nL (cG s):=by
 intro b hb;unfold cG at hb;obtain ⟨c,_,hc⟩:=List.mem_flatMap.1 hb;unfold wr1 at hc;split at hc
 ·rename_i hp
  rw [List.mem_singleton] at hc;subst hc;exact Mx hp
 ·have aM:=c.toNat_lt
  simp only [List.mem_cons,List.not_mem_nil,or_false] at hc;rcases hc with rfl | rfl | rfl
  ·decide
  ·exact F5 ⟨c.toNat / 16,by omega⟩
  ·exact F5 ⟨c.toNat % 16,by omega⟩
theorem OL (l:List By):nL (bW l):=by
 intro b hb;unfold bW at hb;obtain ⟨q,_,hq⟩:=List.mem_flatMap.1 hb;rcases List.mem_cons.1 hq with rfl | hq
 ·decide
 ·exact PL q b hq
theorem Ro (s:By):nL (gD s).1:=by
 have h0:nL ([]:By):=fun b hb=>by cases hb
 cases s with
 | nil=>exact h0
 | cons c t =>
  by_cases h:59<t.length∨c≠47
  ·rw [ki h]; exact h0
  ·have hc:c=47:=Classical.byContradiction fun hh=>h (.inr hh)
   subst hc;rw [jR fun hh=>h (.inl hh)];split
   ·exact h0
   ·rename_i l _
    have hj:nL (if bW l = [] then [47] else bW l):=by
     split
     ·intro b hb
      rw [List.mem_singleton] at hb;subst hb
      decide
     ·exact OL l
    unfold wH;generalize (if bW l = [] then [47] else bW l:By)=w at hj;by_cases hw:60<w.length
    ·rw [if_pos hw]; exact h0
    ·rw [if_neg hw]; exact hj
theorem Sx {s:By} (h:iT s=true):nL s:=by
 unfold iT at h;rw [abv,abn] at h;have:=Ro s;rw [h.2] at this;exact this
theorem J7 : ∀ l:List By,uq l=true → ∀ x∈l,nL x
 | [],h,x,hx=>by cases hx
 | y :: l,h,x,hx=>by
  unfold uq at h;rw [abv] at h;rcases List.mem_cons.1 hx with rfl | hx
  ·have h1:=h.1
   simp only [Bool.or_eq_true,abv,abn] at h1;rcases h1 with (rfl | ⟨rfl,_⟩) | ⟨_,h2⟩
   ·intro b hb
    rw [List.mem_singleton] at hb;subst hb
    decide
   ·intro b hb
    simp only [List.mem_cons,List.not_mem_nil,or_false,or_self] at hb;subst hb
    decide
   ·exact fun b hb=>Sx h2 b (List.mem_cons_of_mem _ hb)
  ·exact J7 l h.2 x hx
theorem Ho (d:UInt8) (hd:d≠10∧d≠32∧d≠58) : ∀ l:List By,(∀ x∈l,nL x)→nL (ji d l)
 | [],h=>fun b hb=>by cases hb
 | [p],h=>h p (List.mem_cons_self ..)
 | p :: q :: r,h=>by
  rw [ll d p (by simp)];refine (h p (List.mem_cons_self ..)).app ?_;intro b hb;rcases List.mem_cons.1 hb with rfl | hb
  ·exact hd
  ·exact Ho d hd (q :: r) (fun x hx=>h x (List.mem_cons_of_mem _ hx)) b hb
theorem PN {s:By} (h:lb s=true):nL s:=by
 unfold lb at h;simp only [abv,abn] at h;obtain ⟨⟨⟨h1,_⟩,h2⟩,h3⟩:=h;cases s with
 | nil=>exact absurd rfl h1
 | cons c t =>
  have hc:c=47:=by simpa using h2
  subst hc;intro b hb;rcases List.mem_cons.1 hb with rfl | hb
  ·decide
  ·by_cases ht:t = []
   ·subst ht; cases hb
   ·have e:bG (47 :: t)=iV 47 t:=by unfold bG; simp only [if_true]; rw [if_neg ht]
    rw [e] at h3;have:=Ho 47 (by decide) (iV 47 t) (J7 _ h3);rw [C2] at this;exact this b hb
theorem KF {s:By} (h:oG s=true):nL s:=by
 unfold oG at h;simp only [Bool.or_eq_true,abv,abn] at h;rcases h with rfl | ⟨h1,h2⟩
 ·intro b hb
  rw [List.mem_singleton] at hb;subst hb
  decide
 ·unfold gQ at h1
  split at h1
  ·cases h1
  ·split at h1
   ·rename_i ha
    intro b hb;have:=List.all_eq_true.1 ha b hb;refine ⟨?_,?_,?_⟩ <;> rintro rfl <;> exact absurd this (by decide)
   ·cases h1
theorem N5 {d:Nat} (h:okR d) (hd : ¬ d<128) : ∀ b∈bS d,128≤b.toNat:=by
 obtain ⟨o1,o2⟩:=h;have ne : ∀ k:Nat,128≤k→k<256→128≤(UInt8.ofNat k).toNat:=by
  intro k h1 h2;have e:(UInt8.ofNat k).toNat=k:=by simp; omega
  omega
 intro b hb;unfold bS at hb;rw [if_neg hd] at hb;split at hb
 ·simp only [List.mem_cons,List.not_mem_nil,or_false] at hb
  rcases hb with rfl | rfl <;> exact ne _ (by omega) (by omega)
 split at hb
 ·simp only [List.mem_cons,List.not_mem_nil,or_false] at hb
  rcases hb with rfl | rfl | rfl <;> exact ne _ (by omega) (by omega)
 ·simp only [List.mem_cons,List.not_mem_nil,or_false] at hb
  rcases hb with rfl | rfl | rfl | rfl <;> exact ne _ (by omega) (by omega)
theorem I7 : ∀ s:By,rT s=true → ∀ b∈s,b≠10:=by
 refine Dp ?_ ?_
 ·intro _ b hb; cases hb
 ·intro l h ih ha b hb
  rw [tQ h,abv,abn] at ha;obtain ⟨hs,ha⟩:=ha;have uB : ¬ ((decodeL l).1=65533∧(decodeL l).2=1):=by
   rintro ⟨h1,_⟩
   rw [h1] at hs;exact hs (by decide)
  rw [← List.take_append_drop (decodeL l).2 l] at hb;rcases List.mem_append.1 hb with hb | hb
  ·rw [js l h uB] at hb
   have oe:=tO l;generalize (decodeL l).1=d at *
   by_cases hd:d<128
   ·have e:bS d = [UInt8.ofNat d]:=by unfold bS; rw [if_pos hd]
    rw [e,List.mem_singleton] at hb;subst hb;intro Nw;have:=congrArg UInt8.toNat Nw;have e2:(UInt8.ofNat d).toNat=d:=by simp; omega
    rw [e2] at this;have h3:d=10:=this;subst h3;exact hs (by decide)
   ·have:=N5 oe hd b hb
    rintro rfl
    exact absurd this (by decide)
  ·exact ih ha b hb
theorem LC {t:By} (h:xA t=true):rT t=true:=by
 unfold xA at h;rw [abv] at h;have h2:=DR t;rw [h.2,abv] at h2;exact h2.1
theorem Ds {p:PhT} (h:fU p=true) : ∀ b∈ax p,b≠10:=by
 have VB : ∀ n:Nat, ∀ b∈itoa (n:Int),b≠10:=by
  intro n b hb;have:=wB n b hb
  rintro rfl
  exact absurd this (by decide)
 have yk : ∀ {s:By},nmP s=true → ∀ b∈s,b≠10:=by
  intro s hs b hb;unfold nmP at hs;simp only [abv] at hs;have:=List.all_eq_true.1 hs.1.1 b hb
  rintro rfl
  exact absurd this (by decide)
 have J3 : ∀ {t:By},oD t=true → ∀ b∈t,b≠10:=by
  intro t ht;unfold oD at ht;rw [abv] at ht;exact I7 t (LC ht.2)
 rcases kq h with ⟨n,rfl,h1,h2⟩ | ⟨nm,n,rfl,h3,h1,h2⟩ | ⟨nm,t,rfl,h2,h3⟩ | ⟨n,t,rfl,h1,h3⟩
 ·exact iz (a:=uN) (by decide) (jr (by decide) (VB n))
 ·exact iz (a:=sd) (by decide) (jr (by decide) (iz (yk h3) (jr (by decide) (VB n))))
 ·exact iz (a:=uH) (by decide) (jr (by decide) (iz (yk h2) (vT (by decide) (J3 h3))))
 ·exact iz (a:=xS) (by decide) (jr (by decide) (iz (VB n) (vT (by decide) (J3 h3))))
theorem JS {l:List PhT} (h:nR l=true) : ∀ b∈eE l,b≠10:=by
 obtain ⟨h1,_,_⟩:=ly h;cases l with
 | nil=>intro b hb; cases hb
 | cons p r =>
  rw [oC];refine iz (Ds (h1 p (List.mem_cons_self ..))) ?_;have : ∀ r:List PhT,(∀ q∈r,fU q=true) → ∀ b∈Lib.joinTail [59,32] (r.map ax),b≠10:=by
   intro r;induction r with
   | nil=>intro _ b hb; cases hb
   | cons q r ih =>
    intro hq;show ∀ b ∈ [59,32] ++ ax q ++ Lib.joinTail [59,32] (r.map ax),b≠10
    exact iz (iz (by decide) (Ds (hq q (List.mem_cons_self ..)))) (ih fun x hx=>hq x (List.mem_cons_of_mem _ hx))
  exact this r fun q hq=>h1 q (List.mem_cons_of_mem _ hq)
theorem CQ {r:RlT} (h:ku r=true) : ∀ b∈hE r,b≠10:=by
 unfold ku at h;simp only [abv] at h;obtain ⟨⟨h1,h2⟩,h3⟩:=h;exact iz (fun b hb=>(KF h1 b hb).1) (jr (by decide) (iz (fun b hb=>(PN h2 b hb).1) (jr (by decide) (jr (by decide) (JS h3)))))
theorem Bb {l:List RlT} (h:zw l=true):l ≠ []∧l.length≤8 ∧ ∀ r∈l,ku r=true:=by
 unfold zw at h;simp only [abv,abn] at h;refine ⟨?_,h.1.2,fun r hr=>List.all_eq_true.1 h.2 r hr⟩
 rintro rfl
 simp at h
end Go.Vm
namespace Go.Vm
open Go.Proofs
open Go.Lib (decDigits itoa)
theorem lM (s d:By):(Lib.cut s d).1.length≤s.length∧(Lib.cut s d).2.1.length≤s.length:=by
 unfold Lib.cut;split
 ·exact ⟨by simp only [List.length_take]; omega,by simp only [List.length_drop]; omega⟩
 ·exact ⟨Nat.le_refl _,Nat.zero_le _⟩
def Cr (p:PhT):Prop:=p.2.1.length≤1000∧p.2.2.2.1.length≤1000
theorem Ep {α:Type} (l:List α) (i:Nat) (h:i<l.length):(l.drop (i+1) = []) ↔ i=l.length - 1:=by
 rw [List.drop_eq_nil_iff];omega
end Go.Vm
namespace Go.Vm
open Go.Proofs
open Go.Lib (decDigits itoa)
theorem xJ {s:By} (h:nmP s=true):s.length≤12:=by
 unfold nmP at h;simp only [abv,abn] at h;exact h.2
theorem ni {s:By} (h:oD s=true):s.length≤60:=by
 unfold oD xA at h;simp only [abv,abn] at h;exact h.2.1
theorem lz (n:Nat) (h:n≤1073741824):(itoa (n:Int)).length≤10:=(Bm n 10 (by decide) (by omega)).1
theorem tG (s:By):(iR s).length≤s.length+1:=by
 unfold iR;split
 ·exact Nat.zero_le _
 ·rw [abp]; omega
theorem oI {p:PhT} (h:fU p=true):(ax p).length≤100:=by
 rcases kq h with ⟨n,rfl,h1,h2⟩ | ⟨nm,n,rfl,h3,h1,h2⟩ | ⟨nm,t,rfl,h2,h3⟩ | ⟨n,t,rfl,h1,h3⟩
 ·have:=lz n (by omega)
  show (uN ++ 32 :: itoa (n:Int)).length≤100;simp only [abr,abp,List.length_nil];omega
 ·have:=lz n h2
  have:=xJ h3;show (sd ++ 32 :: (nm ++ 32 :: itoa (n:Int))).length≤100;simp only [abr,abp,List.length_nil];omega
 ·have:=xJ h2
  have:=ni h3;have:=tG t;show (uH ++ 32 :: (nm ++ iR t)).length≤100;simp only [abr,abp,List.length_nil];omega
 ·have:=lz n (by omega)
  have:=ni h3;have:=tG t;show (xS ++ 32 :: (itoa (n:Int) ++ iR t)).length≤100;simp only [abr,abp,List.length_nil];omega
theorem FV : ∀ r:List PhT,(∀ p∈r,fU p=true)→(Lib.joinTail [59,32] (r.map ax)).length≤102 * r.length
 | [],h=>Nat.zero_le _
 | p :: r,h=>by
  have h1:=oI (h p (List.mem_cons_self ..));have h2:=FV r fun q hq=>h q (List.mem_cons_of_mem _ hq)
  show ([59,32] ++ ax p ++ Lib.joinTail [59,32] (r.map ax)).length ≤ _;simp only [abr,abp,List.length_nil];omega
theorem Ik {l:List PhT} (h:nR l=true):(eE l).length≤600:=by
 obtain ⟨h1,h2,h3⟩:=ly h;cases l with
 | nil=>simp at h2
 | cons p r =>
  have q1:=oI (h1 p (List.mem_cons_self ..));have q2:=FV r fun q hq=>h1 q (List.mem_cons_of_mem _ hq)
  rw [oC,abr];simp only [abp] at h3;omega
end Go.Vm
namespace Go.Vm
open Go.Proofs
theorem Mp (F:Nat) (t:By) (h:t.length≤1000000):eH F (47 :: t,[47])=some (t,true):=by
 unfold eH cA bf;have s0:sub (47 :: t:By) 0 (([47]:By).length:Int)=some [47]:=by
  have:=j4 (47 :: t:By) 0 1 (by omega) (by simp);exact this
 have s1:sub (47 :: t:By) (([47]:By).length:Int) ((47 :: t:By).length:Int)=some t:=eV (47 :: t:By) 1 (by simp);rw [if_pos (by rw [abn]; simp only [abp,List.length_nil]; omega)];simp only [s0,abo,decide_true,Bool.not_true,abq,if_false,s1]
theorem IY (F:Nat) (x:By) (h : ∀ t,x≠47 :: t):eH F (x,[47])=some (x,false):=by
 unfold eH cA bf;cases x with
 | nil=>rfl
 | cons c t =>
  have s0:sub (c :: t:By) 0 (([47]:By).length:Int)=some [c]:=by
   have:=j4 (c :: t:By) 0 1 (by omega) (by simp);exact this
  have hc : ¬ ([c]:By) = [47]:=by
   intro hh
   injection hh with hh _
   exact h t (by rw [hh])
  rw [if_pos (by rw [abn]; simp only [abp,List.length_nil]; omega)];simp only [s0,abo,abu hc,Bool.not_false,if_true]
theorem EW (F:Nat) (x:By) (h:x.length≤1000):iM F x=some (bG x):=by
 unfold iM;by_cases hc : ∃ t,x=47 :: t
 ·obtain ⟨t,rfl⟩:=hc
  rw [abp] at h;have e:bG (47 :: t)=if t = [] then [] else iV 47 t:=by unfold bG; simp
  have Lb:gA F (t,[47])=some (iV 47 t):=by
   unfold gA xU;rw [if_pos (abt (by simp only; omega)),if_pos (by rfl),uZ]
  rw [Mp F t (by omega),e];simp only [abo,Bool.not_true,if_true];by_cases ht:t = []
  ·rw [if_pos (abt ht),if_pos ht]
  ·rw [if_neg (by rw [abn]; exact ht),if_neg ht,Lb]
   rfl
 ·have e:bG x = []:=by
   cases x with
   | nil=>rfl
   | cons c t =>
    unfold bG;simp only;rw [if_neg]
    rintro rfl
    exact hc ⟨t,rfl⟩
  rw [IY F x fun t ht=>hc ⟨t,ht⟩,e];rfl
theorem O0 (x:By):ae (fun F=>kL F x) (iT x):=by
 unfold kL iT;refine ae.bind (Bd x) (.of fun F => ?_);cases (gD x).2 <;> simp
theorem Gk (l:List By) (hl:l.length≤1000000) (hx : ∀ x∈l,x.length≤1000000) : ∀ (n i:Nat),i+n=l.length→af gm (l,l,(l.length:Int),(i:Int),()) (if uq (l.drop i)=true then .inl () else .inr (false,()))
 | 0,i,h=>by
  refine af.fin (.of fun F => ?_);unfold gm;rw [if_neg (by rw [abn]; simp only; omega),List.drop_eq_nil_of_le (by omega)];rfl
 | n+1,i,h=>by
  have hi:i<l.length:=by omega
  have o6:idx l (i:Int)=some l[i]:=bc _ _ _ (List.getElem?_eq_getElem hi);have hw:IntKind.i64.wrap ((i:Int)+1)=((i+1:Nat):Int):=by rw [wrap64 _ (by omega) (by omega)]; omega
  have Ta:IntKind.i64.wrap ((l.length:Int) - 1)=((l.length - 1:Nat):Int):=by rw [wrap64 _ (by omega) (by omega)]; omega
  have ih:=Gk l hl hx n (i+1) (by omega);have Qq:=hx l[i] (List.getElem_mem hi);have hd:(l.drop (i+1) = []) ↔ i=l.length - 1:=by rw [List.drop_eq_nil_iff]; omega
  rw [List.drop_eq_getElem_cons hi];generalize l[i]=x at *
  have hk:decide ((i:Int)=((l.length - 1:Nat):Int))=decide (l.drop (i+1) = []):=by
   rw [Bool.eq_iff_iff,abn,abn,hd]; omega
  have e:uq (x :: l.drop (i+1))=((decide (x = [42]) || (decide (x = [42,42]) && decide (l.drop (i+1) = [])) || (decide (x ≠ []) && iT (47 :: x))) && uq (l.drop (i+1))):=rfl;rw [e];generalize hB:(decide (x = [42]) || (decide (x = [42,42]) && decide (l.drop (i+1) = [])) || (decide (x ≠ []) && iT (47 :: x)))=B;have a7:ae (fun F=>gm F (l,l,(l.length:Int),(i:Int),())) (if B=true then .inl (l,l,(l.length:Int),((i+1:Nat):Int),()) else .inr (.inr (false,()))):=by
   unfold gm;refine ae.pos (by rw [abn]; simp only; omega) ?_;refine ae.bind (r:=(if B=true then .inl (l,l,(l.length:Int),(i:Int),()) else .inr (false,()):(List By×List By×Int×Int×Unit) ⊕ (Bool×Unit))) (ae.bind (.of fun F=>o6) ?_) ?_
   ·by_cases c1:x = [42]
    ·have:B=true:=by rw [← hB,abt c1]; rfl
     rw [if_pos this];exact ae.pos (abt c1) (.ret _)
    refine ae.neg (by rw [abn]; exact c1) ?_;refine ae.bind (r:=((l,x,l,(l.length:Int),(i:Int),decide (x = [42,42]) && decide (l.drop (i+1) = []),()):List By×By×List By×Int×Int×Bool×Unit)) (.of fun F => ?_) ?_
    ·by_cases c2:x = [42,42]
     ·rw [if_pos (abt c2),Ta,hk,abt c2,Bool.true_and]
     ·rw [if_neg (by rw [abn]; exact c2),abu c2,Bool.false_and]
    rw [abu c1,Bool.false_or] at hB;cases ym:(decide (x = [42,42]) && decide (l.drop (i+1) = [])) with
    | true =>
     have:B=true:=by rw [← hB,ym]; rfl
     rw [if_pos this];exact ae.pos rfl (.ret _)
    | false =>
     rw [ym,Bool.false_or] at hB;refine ae.neg abw ?_;refine ae.bind (r:=((l,l,(l.length:Int),(i:Int), !B,()):List By×List By×Int×Int×Bool×Unit)) ?_ ?_
     ·by_cases c3:x = []
      ·have:B=false:=by rw [← hB,abu (fun hh=>hh c3)]; rfl
       rw [this];exact ae.neg (by rw [abt c3]; exact Bool.noConfusion) (.ret _)
      ·have Y9:B=iT (47 :: x):=by rw [← hB,abt c3,Bool.true_and]
       rw [Y9];refine ae.pos (abu c3) (ae.pos (by rw [abn]; simp only [List.length_singleton]; omega) ?_);exact ae.bind (O0 (47 :: x)) (.ret _)
     ·cases B with
      | true=>exact ae.neg abw (.ret _)
      | false=>exact ae.pos rfl (.ret _)
   ·cases B with
    | true=>exact .of fun F=>by simp only [if_true,aA,hw]
    | false=>exact .of fun F=>rfl
  cases B with
  | true =>
   rw [if_pos rfl] at a7;rw [Bool.true_and];exact af.step a7 ih
  | false =>
   rw [if_neg abw] at a7;rw [Bool.false_and,if_neg abw];exact af.fin a7
theorem nq (x:By) (h:x.length≤1000):(bG x).length≤1001 ∧ ∀ p∈bG x,p.length≤1000:=by
 cases x with
 | nil=>exact ⟨Nat.zero_le _,fun p hp=>by cases hp⟩
 | cons c t =>
  unfold bG;simp only;rw [abp] at h;split
  ·split
   ·exact ⟨Nat.zero_le _,fun p hp=>by cases hp⟩
   ·obtain ⟨h1,h2⟩:=GW 47 t
    exact ⟨by omega,fun p hp=>by have:=h2 p hp; omega⟩
  ·exact ⟨Nat.zero_le _,fun p hp=>by cases hp⟩
theorem Nj (x:By) (h:x.length≤1000):ae (fun F=>j0 F x) (lb x):=by
 unfold j0 lb;cases x with
 | nil =>
  exact ae.bind (r:=(([],true,()):By×Bool×Unit)) (.of fun F=>rfl) (ae.bind (r:=(([],true,()):By×Bool×Unit)) (.of fun F=>rfl) (ae.pos rfl (.ret _)))
 | cons c t =>
  have ib:decide ((c :: t:By) ≠ [])=true:=abt (by simp);rw [ib,Bool.true_and];refine ae.bind (r:=((c :: t, !decide ((c :: t).length≤60),()):By×Bool×Unit)) (.of fun F => ?_) ?_
  ·rw [if_pos (abu (by simp))]
   by_cases h6:(c :: t).length≤60
   ·rw [abt h6,abu (by omega)]; rfl
   ·rw [abu h6,abt (by omega)]; rfl
  have hi:idx (c :: t:By) 0=some c:=bc _ 0 _ rfl;have n47:((c.toNat:Int)=47)=(c=47):=nvB c 47;have hh:decide ((c :: t:By).head? = some 47)=decide (c=47):=by rw [Bool.eq_iff_iff]; simp
  rw [hh];refine ae.bind (r:=((c :: t, !(decide ((c :: t).length≤60) && decide (c=47)),()):By×Bool×Unit)) (.of fun F => ?_) ?_
  ·cases h6:decide ((c :: t).length≤60) with
   | true =>
    rw [if_pos (show (!true)=false from rfl)];simp only [hi,abo,n47,Bool.true_and]
   | false=>rfl
  cases h7:(decide ((c :: t).length≤60) && decide (c=47)) with
  | false =>
   rw [Bool.false_and];exact ae.pos rfl (.ret _)
  | true =>
   rw [Bool.true_and];refine ae.neg abw ?_;refine ae.bind (.of fun F=>EW F (c :: t) h) ?_;obtain ⟨h1,h2⟩:=nq (c :: t) h;have hl:=Gk (bG (c :: t)) (by omega) (fun p hp=>by have:=h2 p hp; omega) (bG (c :: t)).length 0 (by omega);rw [List.drop_zero] at hl;refine ae.bind hl.run ?_;cases uq (bG (c :: t)) <;> exact .ret _
def CM:List By→List By→List By×Unit ⊕ Bool×Unit
 | [],b => .inl (b,())
 | _ :: _,[] => .inr (false,())
 | x :: l,y :: b=>if x = [42,42] then .inr (true,()) else if x = [42]∨x=y then CM l b else .inr (false,())
theorem Dq : ∀ (l b:List By),cg (CM l b) (fun v=>decide ((v.1.length:Int)=0)) (fun v=>v.1)=BE l b
 | [],b=>by
  show decide ((b.length:Int)=0)=decide (b = []);rw [Bool.eq_iff_iff,abn,abn];cases b <;> simp
  omega
 | _ :: _,[]=>rfl
 | x :: l,y :: b=>by
  unfold CM BE;by_cases c1:x = [42,42]
  ·rw [if_pos c1,if_pos c1]; rfl
  rw [if_neg c1,if_neg c1];by_cases c2:x = [42]∨x=y
  ·rw [if_pos c2,if_pos c2]; exact Dq l b
  ·rw [if_neg c2,if_neg c2]; rfl
theorem Dn (l:List By) (hl:l.length≤1000000) : ∀ (n i:Nat) (b:List By),i+n=l.length→b.length≤1000000→af fD (b,l,(l.length:Int),(i:Int),()) (CM (l.drop i) b)
 | 0,i,b,h,hb=>by
  refine af.fin (.of fun F => ?_);unfold fD;rw [if_neg (by rw [abn]; simp only; omega),List.drop_eq_nil_of_le (by omega)];rfl
 | n+1,i,b,h,hb=>by
  have hi:i<l.length:=by omega
  have o6:idx l (i:Int)=some l[i]:=bc _ _ _ (List.getElem?_eq_getElem hi);have hw:IntKind.i64.wrap ((i:Int)+1)=((i+1:Nat):Int):=by rw [wrap64 _ (by omega) (by omega)]; omega
  rw [List.drop_eq_getElem_cons hi];generalize l[i]=x at *
  cases b with
  | nil =>
   refine af.fin (.of fun F => ?_);unfold fD;rw [if_pos (by rw [abn]; simp only; omega)];simp only [o6,abo];rfl
  | cons y b =>
   rw [abp] at hb;have hy:idx (y :: b) 0=some y:=bc _ 0 _ rfl;have hs:sub (y :: b) 1 ((y :: b).length:Int)=some b:=eV (y :: b) 1 (by simp);have Za : ¬ decide ((((y :: b):List By).length:Int)=0)=true:=by rw [abn]; simp only [abp]; omega
   unfold CM;by_cases c1:x = [42,42]
   ·rw [if_pos c1]
    refine af.fin (.of fun F => ?_);unfold fD;rw [if_pos (by rw [abn]; simp only; omega)];simp only [o6,abo];rw [if_neg Za,if_pos (abt c1)]
   rw [if_neg c1];have hc : ∀ F:Nat,(if decide (x = [42])=true then some (y :: b,l,(l.length:Int),(i:Int),decide (x = [42]),()) else (idx (y :: b) 0).bind fun v7=>some (y :: b,l,(l.length:Int),(i:Int),decide (x=v7),()):Option (List By×List By×Int×Int×Bool×Unit))=some (y :: b,l,(l.length:Int),(i:Int),decide (x = [42]∨x=y),()):=by
    intro F;by_cases c2:x = [42]
    ·rw [if_pos (abt c2),abt c2,abt (.inl c2)]
    ·rw [if_neg (by rw [abn]; exact c2),hy,abo]
     by_cases c3:x=y
     ·rw [abt c3,abt (.inr c3)]
     ·rw [abu c3,abu (by rintro (hh | hh); exact c2 hh; exact c3 hh)]
   by_cases c2:x = [42]∨x=y
   ·rw [if_pos c2]
    refine af.step ?_ (Dn l hl n (i+1) b (by omega) (by omega));unfold fD;refine ae.pos (by rw [abn]; simp only; omega) (ae.bind (.of fun F=>o6) (ae.neg Za (ae.neg (by rw [abn]; exact c1) (ae.bind (.of hc) (ae.pos (abt c2) (ae.bind (.of fun F=>hs) (.of fun F => ?_)))))));simp only [hw]
   ·rw [if_neg c2]
    refine af.fin ?_;unfold fD;exact ae.pos (by rw [abn]; simp only; omega) (ae.bind (.of fun F=>o6) (ae.neg Za (ae.neg (by rw [abn]; exact c1) (ae.bind (.of hc) (ae.neg (by rw [abn]; exact c2) (.ret _))))))
theorem Uk (p s:By) (hp:p.length≤1000) (hs:s.length≤1000):ae (fun F=>mW F (p,s)) (rj p s):=by
 unfold mW rj;refine ae.bind (r:=((p,s, !(lb p && iT s),()):By×By×Bool×Unit)) (ae.bind (Nj p hp) ?_) ?_
 ·cases lb p with
  | true=>exact ae.pos rfl (ae.bind (O0 s) (.ret _))
  | false=>exact ae.neg (by decide) (.ret _)
 cases hb:(lb p && iT s) with
 | false =>
  rw [Bool.false_and];exact ae.pos rfl (.ret _)
 | true =>
  rw [Bool.true_and];refine ae.neg abw ?_;refine ae.bind (.of fun F=>EW F p hp) (ae.bind (.of fun F=>EW F s hs) ?_);obtain ⟨h1,_⟩:=nq p hp;obtain ⟨h2,_⟩:=nq s hs;have hl:=Dn (bG p) (by omega) (bG p).length 0 (bG s) (by omega) (by omega);rw [List.drop_zero] at hl;refine ae.bind hl.run ?_;rw [← Dq];refine .of fun F => ?_
  cases CM (bG p) (bG s) <;> rfl
end Go.Vm
namespace Go.Vm
open Go.Proofs
def Ey (r:RlT):Prop:=r.1.length≤1000∧r.2.1.length≤1000∧r.2.2.1.length≤100000 ∧ ∀ p∈r.2.2.1,Cr p
theorem wQ {r:RlT} (h:ku r=true):r.1.length≤1000∧r.2.1.length≤60∧(eE r.2.2.1).length≤600∧(hE r).length≤1000:=by
 obtain ⟨m,p,pr,u⟩:=r;unfold ku at h;simp only [abv] at h;obtain ⟨⟨h1,h2⟩,h3⟩:=h;have q1:m.length≤8:=by
  unfold oG at h1;simp only [Bool.or_eq_true,abv,abn] at h1;rcases h1 with rfl | ⟨h1,_⟩
  ·decide
  ·unfold gQ at h1
   split at h1
   ·cases h1
   ·rename_i hc
    omega
 have q2:p.length≤60:=by
  unfold lb at h2;simp only [abv,abn] at h2;exact h2.1.1.2
 have q3:=Ik h3;refine ⟨by simp only; omega,q2,q3,?_⟩;unfold hE;simp only [abr,abp];omega
def jQ (r:RlT) (m s:By):Bool:=(decide (r.1=m) || decide (r.1 = [42])) && rj r.2.1 s
def nY (m s:By):List RlT→Nat→Unit ⊕ Int×Unit
 | [],i => .inl ()
 | r :: l,i=>if jQ r m s=true then .inr ((i:Int),()) else nY m s l (i+1)
def eR (l:List RlT) (m s:By):Int:=cg (nY m s l 0) (fun _ => -1) (fun v=>v.1)
theorem Bl (l:List RlT) (m s:By) (hl:l.length≤1000000) (hb : ∀ r∈l,Ey r) (hs:s.length≤1000) : ∀ (n i:Nat),i+n=l.length→af iD (m,s,l,(l.length:Int),(i:Int),()) (nY m s (l.drop i) i)
 | 0,i,h=>by
  refine af.fin (.of fun F => ?_);unfold iD;rw [if_neg (by rw [abn]; simp only; omega),List.drop_eq_nil_of_le (by omega)];rfl
 | n+1,i,h=>by
  have hi:i<l.length:=by omega
  have hx:idx l (i:Int)=some l[i]:=bc _ _ _ (List.getElem?_eq_getElem hi);have hw:IntKind.i64.wrap ((i:Int)+1)=((i+1:Nat):Int):=by rw [wrap64 _ (by omega) (by omega)]; omega
  have ih:=Bl l m s hl hb hs n (i+1) (by omega);obtain ⟨b1,b2,b3,b4⟩:=hb l[i] (List.getElem_mem hi);rw [List.drop_eq_getElem_cons hi];generalize l[i]=r at *
  obtain ⟨rm,rp,pr,u⟩:=r;simp only at b1 b2;unfold nY;have a7:ae (fun F=>iD F (m,s,l,(l.length:Int),(i:Int),())) (if jQ (rm,rp,pr,u) m s=true then .inr (.inr ((i:Int),())) else .inl (m,s,l,(l.length:Int),((i+1:Nat):Int),())):=by
   unfold iD jQ;refine ae.pos (by rw [abn]; simp only; omega) (ae.bind (.of fun F=>hx) ?_);refine ae.bind (r:=((m,s,(i:Int),(),l,(l.length:Int),(i:Int),decide (rm=m) || decide (rm = [42]),(rm,rp,pr,()),()):By×By×Int×Unit×List RlT×Int×Int×Bool×RlT×Unit)) (.of fun F => ?_) ?_
   ·by_cases c1:rm=m
    ·rw [if_neg (by rw [abt c1]; exact Bool.noConfusion),abt c1]; rfl
    ·rw [if_pos (abu c1),abu c1,Bool.false_or]
   refine ae.bind (r:=((m,s,(i:Int),l,(l.length:Int),(i:Int),(decide (rm=m) || decide (rm = [42])) && rj rp s,()):By×By×Int×List RlT×Int×Int×Bool×Unit)) ?_ ?_
   ·cases (decide (rm=m) || decide (rm = [42])) with
    | true=>exact ae.pos rfl (ae.bind (Uk rp s b2 hs) (.ret _))
    | false=>exact ae.neg abw (.ret _)
   ·show ae _ (if ((decide (rm=m) || decide (rm = [42])) && rj rp s)=true then _ else _)
    cases ((decide (rm=m) || decide (rm = [42])) && rj rp s) with
    | true=>exact ae.pos rfl (.ret _)
    | false=>exact ae.neg abw (.of fun F=>by simp only [hw]; rfl)
  cases hc:jQ (rm,rp,pr,u) m s with
  | true =>
   rw [hc,if_pos rfl] at a7;exact af.fin a7
  | false =>
   rw [hc,if_neg abw] at a7;exact af.step a7 ih
theorem TR (l:List RlT) (m s:By) (hl:l.length≤1000000) (hb : ∀ r∈l,Ey r) (hs:s.length≤1000):ae (fun F=>mL F (l,m,s)) (eR l m s):=by
 unfold mL eR;have h:=Bl l m s hl hb hs l.length 0 (by omega);rw [List.drop_zero] at h;refine ae.bind h.run (.of fun F => ?_);cases nY m s l 0 <;> rfl
end Go.Vm
