import Derived.Test.YtihpjgcbmipdbaaGreatDoorPj2
set_option linter.unusedVariables false
set_option linter.unusedSimpArgs false
namespace Go.Vm
open Go.Lib (decodeL decodeN decodeL_N decode_N decodeN_shape decodeL_le)
theorem xa:txt []=none:=rfl
theorem gC (c:UInt8) (r:By):txt (c :: r)=if c=34 then some ([],r) else if c=92 then (oq r).bind fun x=>(txt ((c :: r).drop x.2)).map fun y=>(bS x.1 ++ y.1,y.2)
  else if (decodeL (c :: r)).1<32∨((decodeL (c :: r)).1=65533∧(decodeL (c :: r)).2=1) then none else (txt ((c :: r).drop (decodeL (c :: r)).2)).map fun y=>((c :: r).take (decodeL (c :: r)).2 ++ y.1,y.2):=by
 have hp:=cS (c :: r);unfold txt;conv=>lhs; rw [abp,Ij]
 by_cases h1:c=34
 ·rw [if_pos h1,if_pos h1]
 rw [if_neg h1,if_neg h1];by_cases h2:c=92
 ·rw [if_pos h2,if_pos h2]
  cases he:oq r with
  | none=>rfl
  | some x =>
   have:=PE he;simp only [abo];rw [tI r.length ((c :: r).drop x.2).length ((c :: r).drop x.2) (by simp; omega) (Nat.le_refl _)]
 rw [if_neg h2,if_neg h2];split
 ·rfl
 ·rw [tI r.length ((c :: r).drop (decodeL (c :: r)).2).length ((c :: r).drop (decodeL (c :: r)).2) (by simp; omega) (Nat.le_refl _)]
theorem RP {p:By→Prop} (h : ∀ s,(∀ k,1≤k→s ≠ []→p (s.drop k))→p s) (s:By):p s:=by
 have : ∀ n (s:By),s.length≤n→p s:=by
  intro n;induction n with
  | zero=>intro s hs; exact h s fun k _ ib=>absurd (List.length_eq_zero_iff.1 (by omega)) ib
  | succ n ih=>intro s hs; exact h s fun k hk ib=>ih _ (by have:=List.length_pos_iff.2 ib; simp; omega)
 exact this s.length s (Nat.le_refl _)
theorem sE (a b:By):jV (a ++ b)=jV a ++ jV b:=by unfold jV; simp
theorem yf (s:By) : ∀ {t r:By},txt s=some (t,r)→OkT t∧r <:+ s∧(jV t).length+1+r.length≤s.length:=by
 refine RP (p:=fun s => ∀ {t r:By},txt s=some (t,r)→OkT t∧r <:+ s∧(jV t).length+1+r.length≤s.length) ?_ s;intro s ih t r h;cases s with
 | nil=>rw [xa] at h; cases h
 | cons c s =>
  rw [gC] at h;by_cases h1:c=34
  ·rw [if_pos h1] at h
   cases h;exact ⟨.nil,List.suffix_cons _ _,by simp [jV]; omega⟩
  rw [if_neg h1] at h;by_cases h2:c=92
  ·rw [if_pos h2] at h
   obtain ⟨x,he,h⟩:=Option.bind_eq_some_iff.1 h;obtain ⟨y,hy,h⟩:=Option.map_eq_some_iff.1 h;obtain ⟨y1,y2⟩:=y;cases h;obtain ⟨q1,q2,q3,q4⟩:=EH (c:=x.1) (k:=x.2) he;obtain ⟨i1,i2,i3⟩:=ih x.2 (by omega) (by simp) hy;refine ⟨.cons _ _ q1 i1,i2.trans (List.drop_suffix _ _),?_⟩;rw [sE];simp at i3 ⊢
   omega
  rw [if_neg h2] at h;split at h
  ·cases h
  ·rename_i hb
   obtain ⟨y,hy,h⟩:=Option.map_eq_some_iff.1 h;obtain ⟨y1,y2⟩:=y;cases h;have hp:=cS (c :: s);have hl:=decodeL_le (c :: s) (by simp);obtain ⟨i1,i2,i3⟩:=ih (decodeL (c :: s)).2 hp (by simp) hy;have hk:=tO (c :: s);rw [js (c :: s) (by simp) (fun hh=>hb (.inr hh))];refine ⟨.cons _ _ hk i1,i2.trans (List.drop_suffix _ _),?_⟩;have e:(jV (bS (decodeL (c :: s)).1)).length≤(decodeL (c :: s)).2:=by
    have e2:=congrArg List.length (js (c :: s) (by simp) (fun hh=>hb (.inr hh)));rw [List.length_take,Nat.min_eq_left hl] at e2;by_cases hc:(decodeL (c :: s)).1<128
    ·rw [xk _ hc]
     have e3:bS (decodeL (c :: s)).1 = [UInt8.ofNat (decodeL (c :: s)).1]:=by unfold bS; rw [if_pos hc]
     have e4:(decodeL (c :: s)).2=1:=by rw [e2,e3]; rfl
     have e5:=js (c :: s) (by simp) (fun hh=>hb (.inr hh));rw [e4,e3] at e5;simp at e5;have S4 : ¬ c.toNat<32:=by
      intro hh;apply hb
      left
      have:=congrArg UInt8.toNat e5;simp at this;omega
     rw [← e5,e4];unfold ta;have n8:c≠8:=by rintro rfl; exact S4 (by decide)
     have n9:c≠9:=by rintro rfl; exact S4 (by decide)
     have n10:c≠10:=by rintro rfl; exact S4 (by decide)
     have n12:c≠12:=by rintro rfl; exact S4 (by decide)
     have n13:c≠13:=by rintro rfl; exact S4 (by decide)
     rw [if_neg (fun hh=>hh.elim h1 h2),if_neg n8,if_neg n9,if_neg n10,if_neg n12,if_neg n13,if_neg S4];exact Nat.le_refl _
    ·rw [w7 _ hc hk.1]; omega
   rw [sE];simp at i3 ⊢
   omega
theorem MK (a b c d:UInt8) (r:By):nA (a :: b :: c :: d :: r)=nA [a,b,c,d]:=rfl
theorem LQ : ∀ c:Fin 32,nA [48,48,wU (c.val / 16),wU (c.val % 16)]=some c.val:=by decide +kernel
theorem ML (c:Nat) (h:c<32) (r:By):oq (117 :: 48 :: 48 :: wU (c / 16) :: wU (c % 16) :: r)=some (c,6):=by
 have:=LQ ⟨c,h⟩;simp only at this;unfold oq;simp only;rw [if_neg (by decide),if_neg (by decide),if_neg (by decide),if_neg (by decide),if_neg (by decide),if_neg (by decide),if_pos trivial];unfold xV;rw [MK,this,abo,if_pos (by omega)]
theorem Sl (c:Nat) (h:okR c) (q:By):txt (jV (bS c) ++ q)=(txt q).map fun y=>(bS c ++ y.1,y.2):=by
 by_cases h1:c<128
 ·rw [xk c h1]
  have e3:bS c = [UInt8.ofNat c]:=by unfold bS; rw [if_pos h1]
  have e4:(UInt8.ofNat c).toNat=c:=by simp; omega
  have esc : ∀ (x:UInt8) (n:Nat),oq (x :: q)=some (n,2)→UInt8.ofNat c=UInt8.ofNat n→n<128→txt (92 :: x :: q)=(txt q).map fun y=>(bS c ++ y.1,y.2):=by
   intro x n he hn hn2;have:bS n = [UInt8.ofNat n]:=by unfold bS; rw [if_pos hn2]
   rw [gC,if_neg (by decide),if_pos rfl,he,abo,e3,hn, ← this];rfl
  unfold ta;by_cases q1:UInt8.ofNat c=34∨UInt8.ofNat c=92
  ·rw [if_pos q1]
   refine esc (UInt8.ofNat c) (UInt8.ofNat c).toNat ?_ (by rw [e4]) (by omega);unfold oq;simp only;rw [if_pos (q1.elim .inl (fun hh => .inr (.inl hh)))]
  rw [if_neg q1];by_cases q2:UInt8.ofNat c=8
  ·rw [if_pos q2]; exact esc 98 8 rfl (by rw [q2]; rfl) (by decide)
  rw [if_neg q2];by_cases q3:UInt8.ofNat c=9
  ·rw [if_pos q3]; exact esc 116 9 rfl (by rw [q3]; rfl) (by decide)
  rw [if_neg q3];by_cases q4:UInt8.ofNat c=10
  ·rw [if_pos q4]; exact esc 110 10 rfl (by rw [q4]; rfl) (by decide)
  rw [if_neg q4];by_cases q5:UInt8.ofNat c=12
  ·rw [if_pos q5]; exact esc 102 12 rfl (by rw [q5]; rfl) (by decide)
  rw [if_neg q5];by_cases q6:UInt8.ofNat c=13
  ·rw [if_pos q6]; exact esc 114 13 rfl (by rw [q6]; rfl) (by decide)
  rw [if_neg q6];rw [e4];by_cases q7:c<32
  ·rw [if_pos q7]
   show txt (92 :: 117 :: 48 :: 48 :: wU (c / 16) :: wU (c % 16) :: q) = _;rw [gC,if_neg (by decide),if_pos rfl,ML c q7,abo];rfl
  ·rw [if_neg q7]
   have hd:decodeL (UInt8.ofNat c :: q)=(c,1):=by have:=sj c h q; rw [e3] at this; exact this
   show txt (UInt8.ofNat c :: q) = _;rw [gC,if_neg (fun hh=>q1 (.inl hh)),if_neg (fun hh=>q1 (.inr hh)),hd,if_neg (by simp; omega),e3];rfl
 ·rw [w7 c h1 h.1]
  obtain ⟨x,l,hx⟩ : ∃ x l,bS c=x :: l:=by
   cases hh:bS c with
   | nil=>exact absurd hh (KX c)
   | cons x l=>exact ⟨x,l,rfl⟩
  have hd:=sj c h q;have hl:2≤(bS c).length:=by
   unfold bS;rw [if_neg h1]
   repeat' split
   all_goals simp
  have o6:128≤x.toNat:=by
   obtain ⟨o1,o2⟩:=h;unfold bS at hx;rw [if_neg h1] at hx
   repeat' split at hx
   all_goals
    injection hx with hx _
    rw [← hx];simp;omega
  rw [hx] at hd hl ⊢
  rw [List.cons_append] at hd ⊢
  rw [gC,if_neg (by rintro rfl; exact absurd o6 (by decide)),if_neg (by rintro rfl; exact absurd o6 (by decide)),hd];simp only;rw [if_neg (by omega)];rw [← List.cons_append,List.take_left' rfl,List.drop_left' rfl]
theorem Kv {t:By} (h:OkT t) (r:By):txt (jV t ++ 34 :: r)=some (t,r):=by
 induction h with
 | nil=>show txt (34 :: r) = _; rw [gC,if_pos rfl]
 | cons c t hc _ ih=>rw [sE,List.append_assoc,Sl c hc,ih]; rfl
end Go.Vm
namespace Go.Vm
open Go.Lib (decodeL decDigits itoa nDigits)
theorem so (s:By):dB s=s.take (dB s).length:=by
 unfold dB;cases s with
 | nil=>rfl
 | cons c r =>
  simp only;split
  ·rename_i h; subst h; rfl
  ·have:=List.takeWhile_prefix ba (l:=c :: r)
   rw [List.length_take];have e:List.takeWhile ba (c :: r)=(c :: r).take (List.takeWhile ba (c :: r)).length:=(List.prefix_iff_eq_take.1 this)
   conv=>lhs; rw [e]
   rw [List.take_take]
theorem s7 (s:By):(dB s).length≤15∧(dB s).length≤s.length:=by
 refine ⟨?_,?_⟩
 ·unfold dB
  cases s with
  | nil=>simp
  | cons c r =>
   simp only;split
   ·simp
   ·simp; omega
 ·have:=congrArg List.length (so s)
  simp only [List.length_take] at this;omega
theorem sr (s:By) : ∀ c∈dB s,ba c=true:=by
 unfold dB;cases s with
 | nil=>simp
 | cons c r =>
  simp only;split
  ·intro x hx; simp at hx; subst hx; rfl
  ·intro x hx
   have:=List.all_takeWhile (p:=ba) (l:=c :: r);rw [List.all_eq_true] at this;exact this x (List.mem_of_mem_take hx)
theorem M6 (l:By) (c:UInt8):nM (l ++ [c])=nM l * 10+(c.toNat - 48):=by unfold nM; rw [List.foldl_append]; rfl
theorem K5 (l:By) (h : ∀ c∈l,ba c=true):nM l<10 ^ l.length:=by
 have main : ∀ (l:By) (n k:Nat),(∀ c∈l,ba c=true)→n<10 ^ k→l.foldl (fun n c=>n * 10+(c.toNat - 48)) n<10 ^ (k+l.length):=by
  intro l;induction l with
  | nil=>intro n k _ h; simpa using h
  | cons c l ih =>
   intro n k hd h;have hc:=hd c (List.mem_cons_self ..);simp [ba] at hc;have:=ih (n * 10+(c.toNat - 48)) (k+1) (fun x hx=>hd x (List.mem_cons_of_mem _ hx)) (by rw [Nat.pow_succ]; omega);rw [abp,List.foldl_cons,show k+(l.length+1)=k+1+l.length by omega];exact this
 have:=main l 0 0 h (by decide);rw [Nat.zero_add] at this;exact this
theorem pX : ∀ (k u:Nat),1≤k→u<10 ^ k→nDigits u≤k
 | 0,u,h,_=>by omega
 | 1,u,_,h=>by rw [Go.Lib.nDigits_small (by simpa using h)]; exact Nat.le_refl _
 | k+2,u,_,h=>by
  by_cases hu:u<10
  ·rw [Go.Lib.nDigits_small hu]; omega
  ·rw [Go.Lib.nDigits_big hu]
   have:=pX (k+1) (u / 10) (by omega) (by rw [Nat.pow_succ] at h; omega);omega
theorem Bm (u k:Nat) (h:1≤k) (hu:u<10 ^ k):(itoa (u:Int)).length≤k∧(itoa (-(u:Int))).length≤k+1:=by
 have h1:=pX k u h hu;unfold itoa;constructor
 ·rw [if_neg (by omega),Int.toNat_natCast,Go.Lib.decDigits_length]
  exact h1
 ·split
  ·rw [abp,Go.Lib.decDigits_length]
   have:(-(u:Int)).natAbs=u:=by omega
   rw [this]; omega
  ·rename_i hn
   have:(-(u:Int)).toNat=0:=by omega
   rw [this,Go.Lib.decDigits_length];rw [Go.Lib.nDigits_small (by decide)];omega
def okN (n:Int):Prop := -1000000000000000<n∧n<1000000000000000
theorem p15:10 ^ 15=1000000000000000:=by decide
theorem AA (s:By):nM (dB s)<1000000000000000:=by
 have h1:=K5 (dB s) (sr s);have h2:10 ^ (dB s).length≤10 ^ 15:=Nat.pow_le_pow_right (by decide) (s7 s).1;rw [p15] at h2;omega
theorem CV (s:By) (h:dB s ≠ []):(itoa (nM (dB s):Int)).length≤(dB s).length∧(itoa (-(nM (dB s):Int))).length≤(dB s).length+1 :=
 Bm _ _ (by have:=List.length_pos_iff.2 h; omega) (K5 _ (sr s))
theorem T3 {s r:By} {n:Int} (h:uh s=some (n,r)):okN n∧r <:+ s∧(itoa n).length+r.length≤s.length∧r.length<s.length:=by
 unfold uh at h;split at h
 ·cases h
 ·rename_i c t
  split at h
  ·split at h
   ·cases h
   ·rename_i ib
    cases h;have h1:=AA t;have h2:=CV t ib;have h3:=s7 t;exact ⟨⟨by omega,by omega⟩,(List.drop_suffix _ _).trans (List.suffix_cons _ _),by simp; omega,by simp; omega⟩
  ·split at h
   ·cases h
   ·rename_i ib
    cases h;have h1:=AA (c :: t);have h2:=CV (c :: t) ib;have h3:=s7 (c :: t);have h4:=List.length_pos_iff.2 ib;simp only [abp] at h3;exact ⟨⟨by omega,by omega⟩,List.drop_suffix _ _,by simp; omega,by simp; omega⟩
def Stop (r:By):Prop := ∀ c q,r=c :: q→ba c=false
theorem lA (u:Nat):(∀ c∈decDigits u,ba c=true)∧nM (decDigits u)=u∧(u≠0 → ∀ c q,decDigits u=c :: q→c≠48):=by
 induction u using Nat.strongRecOn with
 | _ u ih =>
  rw [decDigits];split
  ·rename_i h
   have e:(UInt8.ofNat (48+u)).toNat=48+u:=by simp; omega
   refine ⟨?_,?_,?_⟩
   ·intro c hc; simp at hc; subst hc; simp [ba]; omega
   ·simp [nM]; omega
   ·intro hu c q hq
    injection hq with hq _
    rw [← hq];intro hh;have:=congrArg UInt8.toNat hh;rw [e] at this;have:(48:UInt8).toNat=48:=rfl;omega
  ·rename_i h
   obtain ⟨i1,i2,i3⟩:=ih (u / 10) (by omega);have e:(UInt8.ofNat (48+u % 10)).toNat=48+u % 10:=by simp; omega
   refine ⟨?_,?_,?_⟩
   ·intro c hc
    rcases List.mem_append.1 hc with hc | hc
    ·exact i1 c hc
    ·simp at hc; subst hc; simp [ba]; omega
   ·rw [M6,i2,e]; omega
   ·intro hu c q hq
    have hl:=Go.Lib.decDigits_length (u / 10);have:=Go.Lib.nDigits_pos (u / 10);cases hd:decDigits (u / 10) with
    | nil=>rw [hd] at hl; simp at hl; omega
    | cons x l =>
     rw [hd] at hq
     injection hq with hq _
     rw [← hq];exact i3 (by omega) x l hd
theorem Ga (u:Nat) (hu:u<1000000000000000) (r:By) (hr:Stop r):dB (decDigits u ++ r)=decDigits u:=by
 obtain ⟨f1,f2,f3⟩:=lA u;have hlen:(decDigits u).length≤15:=by rw [Go.Lib.decDigits_length]; exact pX 15 u (by decide) (by rw [p15]; exact hu)
 have hp:1≤(decDigits u).length:=by rw [Go.Lib.decDigits_length]; exact Go.Lib.nDigits_pos u
 by_cases h0:u=0
 ·subst h0
  rw [Go.Lib.decDigits_one (by decide)];rfl
 cases hd:decDigits u with
 | nil=>rw [hd] at hp; simp at hp
 | cons c q =>
  have hc:=f3 h0 c q hd;rw [hd] at f1 hlen;unfold dB;rw [List.cons_append];simp only;rw [if_neg hc, ← List.cons_append,List.takeWhile_append_of_pos f1];have:List.takeWhile ba r = []:=by
   cases r with
   | nil=>rfl
   | cons x r'=>rw [List.takeWhile_cons_of_neg]; rw [hr x r' rfl]; decide
  rw [this,List.append_nil,List.take_of_length_le hlen]
theorem wK (u:Nat) : ∃ c q,decDigits u=c :: q∧ba c=true:=by
 obtain ⟨f1,_⟩:=lA u;have hp:1≤(decDigits u).length:=by rw [Go.Lib.decDigits_length]; exact Go.Lib.nDigits_pos u
 cases hd:decDigits u with
 | nil=>rw [hd] at hp; simp at hp
 | cons c q=>exact ⟨c,q,rfl,f1 c (by rw [hd]; exact List.mem_cons_self ..)⟩
theorem LJ (n:Int) (h:okN n) (r:By) (hr:Stop r):uh (itoa n ++ r)=some (n,r):=by
 obtain ⟨h1,h2⟩:=h;unfold itoa;split
 ·rename_i hn
  have e:=Ga n.natAbs (by omega) r hr;obtain ⟨c,q,hc,_⟩:=wK n.natAbs;unfold uh;rw [List.cons_append];simp only [if_true,e];rw [if_neg (by rw [hc]; simp),(lA n.natAbs).2.1,List.drop_left' rfl];congr 2;omega
 ·rename_i hn
  have e:=Ga n.toNat (by omega) r hr;obtain ⟨c,q,hc,hd⟩:=wK n.toNat;unfold uh;have vG:decDigits n.toNat ++ r=c :: (q ++ r):=by rw [hc]; rfl
  rw [vG];simp only;rw [if_neg (by rintro rfl; exact absurd hd (by decide)), ← vG,e,if_neg (by rw [hc]; simp),(lA n.toNat).2.1,List.drop_left' rfl];congr 2;omega
theorem Dy (n:Int) : ∃ c q,itoa n=c :: q∧(c=45∨ba c=true):=by
 unfold itoa;split
 ·exact ⟨_,_,rfl, .inl rfl⟩
 ·obtain ⟨c,q,hc,hd⟩:=wK n.toNat
  exact ⟨c,q,hc, .inr hd⟩
end Go.Vm
