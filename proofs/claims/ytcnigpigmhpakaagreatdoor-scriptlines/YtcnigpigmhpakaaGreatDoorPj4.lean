import Derived.Test.YtcnigpigmhpakaaGreatDoorPj2
/- JSON, plainly: strings. What is printed is read; what is read is of right signs, and is printed in no more bytes. No condition. -/
namespace Go.Vm
open Go.Lib (decodeL decodeN decodeL_N decode_N decodeN_shape decodeL_le)
set_option linter.unusedVariables false
set_option linter.unusedSimpArgs false
theorem rr:txt []=none:=rfl
theorem fu (c:UInt8) (r:By):txt (c :: r)=if c=34 then some ([],r) else if c=92 then (lT r).bind fun x=>(txt ((c :: r).drop x.2)).map fun y=>(cj x.1 ++ y.1,y.2)
  else if (decodeL (c :: r)).1<32∨((decodeL (c :: r)).1=65533∧(decodeL (c :: r)).2=1) then none else (txt ((c :: r).drop (decodeL (c :: r)).2)).map fun y=>((c :: r).take (decodeL (c :: r)).2 ++ y.1,y.2):=by
 have hp:=fw (c :: r)
 unfold txt
 conv=>lhs; rw [List.length_cons,Ch]
 by_cases h1:c=34
 ·rw [if_pos h1,if_pos h1]
 rw [if_neg h1,if_neg h1]
 by_cases h2:c=92
 ·rw [if_pos h2,if_pos h2]
  cases he:lT r with
  | none=>rfl
  | some x =>
   have:=Fm he
   simp only [Option.bind_some]
   rw [pD r.length ((c :: r).drop x.2).length ((c :: r).drop x.2) (by simp; omega) (Nat.le_refl _)]
 rw [if_neg h2,if_neg h2]
 split
 ·rfl
 ·rw [pD r.length ((c :: r).drop (decodeL (c :: r)).2).length ((c :: r).drop (decodeL (c :: r)).2) (by simp; omega) (Nat.le_refl _)]
theorem Ic {p:By→Prop} (h : ∀ s,(∀ k,1≤k→s ≠ []→p (s.drop k))→p s) (s:By):p s:=by
 have : ∀ n (s:By),s.length≤n→p s:=by
  intro n
  induction n with
  | zero=>intro s hs; exact h s fun k _ hne=>absurd (List.length_eq_zero_iff.1 (by omega)) hne
  | succ n ih=>intro s hs; exact h s fun k hk hne=>ih _ (by have:=List.length_pos_iff.2 hne; simp; omega)
 exact this s.length s (Nat.le_refl _)
theorem ov (a b:By):fS (a ++ b)=fS a ++ fS b:=by unfold fS; simp
theorem sl (s:By) : ∀ {t r:By},txt s=some (t,r)→OkT t∧r <:+ s∧(fS t).length+1+r.length≤s.length:=by
 refine Ic (p:=fun s => ∀ {t r:By},txt s=some (t,r)→OkT t∧r <:+ s∧(fS t).length+1+r.length≤s.length) ?_ s
 intro s ih t r h
 cases s with
 | nil=>rw [rr] at h; cases h
 | cons c s =>
  rw [fu] at h
  by_cases h1:c=34
  ·rw [if_pos h1] at h
   cases h
   exact ⟨.nil,List.suffix_cons _ _,by simp [fS]; omega⟩
  rw [if_neg h1] at h
  by_cases h2:c=92
  ·rw [if_pos h2] at h
   obtain ⟨x,he,h⟩:=Option.bind_eq_some_iff.1 h
   obtain ⟨y,hy,h⟩:=Option.map_eq_some_iff.1 h
   obtain ⟨y1,y2⟩:=y
   cases h
   obtain ⟨q1,q2,q3,q4⟩:=yv (c:=x.1) (k:=x.2) he
   obtain ⟨i1,i2,i3⟩:=ih x.2 (by omega) (by simp) hy
   refine ⟨.cons _ _ q1 i1,i2.trans (List.drop_suffix _ _),?_⟩
   rw [ov]
   simp at i3 ⊢
   omega
  rw [if_neg h2] at h
  split at h
  ·cases h
  ·rename_i hb
   obtain ⟨y,hy,h⟩:=Option.map_eq_some_iff.1 h
   obtain ⟨y1,y2⟩:=y
   cases h
   have hp:=fw (c :: s)
   have hl:=decodeL_le (c :: s) (by simp)
   obtain ⟨i1,i2,i3⟩:=ih (decodeL (c :: s)).2 hp (by simp) hy
   have hk:=rU (c :: s)
   rw [iO (c :: s) (by simp) (fun hh=>hb (.inr hh))]
   refine ⟨.cons _ _ hk i1,i2.trans (List.drop_suffix _ _),?_⟩
   have e:(fS (cj (decodeL (c :: s)).1)).length≤(decodeL (c :: s)).2:=by
    have e2:=congrArg List.length (iO (c :: s) (by simp) (fun hh=>hb (.inr hh)))
    rw [List.length_take,Nat.min_eq_left hl] at e2
    by_cases hc:(decodeL (c :: s)).1<128
    ·rw [qV _ hc]
     have e3:cj (decodeL (c :: s)).1 = [UInt8.ofNat (decodeL (c :: s)).1]:=by unfold cj; rw [if_pos hc]
     have e4:(decodeL (c :: s)).2=1:=by rw [e2,e3]; rfl
     have e5:=iO (c :: s) (by simp) (fun hh=>hb (.inr hh))
     rw [e4,e3] at e5
     simp at e5
     have h32 : ¬ c.toNat<32:=by
      intro hh
      apply hb
      left
      have:=congrArg UInt8.toNat e5
      simp at this
      omega
     rw [← e5,e4]
     unfold kT
     have n8:c≠8:=by rintro rfl; exact h32 (by decide)
     have n9:c≠9:=by rintro rfl; exact h32 (by decide)
     have n10:c≠10:=by rintro rfl; exact h32 (by decide)
     have n12:c≠12:=by rintro rfl; exact h32 (by decide)
     have n13:c≠13:=by rintro rfl; exact h32 (by decide)
     rw [if_neg (fun hh=>hh.elim h1 h2),if_neg n8,if_neg n9,if_neg n10,if_neg n12,if_neg n13,if_neg h32]
     exact Nat.le_refl _
    ·rw [r8 _ hc hk.1]; omega
   rw [ov]
   simp at i3 ⊢
   omega
theorem EZ (a b c d:UInt8) (r:By):lE (a :: b :: c :: d :: r)=lE [a,b,c,d]:=rfl
theorem EE : ∀ c:Fin 32,lE [48,48,oF (c.val / 16),oF (c.val % 16)]=some c.val:=by decide +kernel
theorem En (c:Nat) (h:c<32) (r:By):lT (117 :: 48 :: 48 :: oF (c / 16) :: oF (c % 16) :: r)=some (c,6):=by
 have:=EE ⟨c,h⟩
 simp only at this
 unfold lT
 simp only
 rw [if_neg (by decide),if_neg (by decide),if_neg (by decide),if_neg (by decide),if_neg (by decide),if_neg (by decide),if_pos trivial]
 unfold sf
 rw [EZ,this,Option.bind_some,if_pos (by omega)]
theorem HR (c:Nat) (h:okR c) (q:By):txt (fS (cj c) ++ q)=(txt q).map fun y=>(cj c ++ y.1,y.2):=by
 by_cases h1:c<128
 ·rw [qV c h1]
  have e3:cj c = [UInt8.ofNat c]:=by unfold cj; rw [if_pos h1]
  have e4:(UInt8.ofNat c).toNat=c:=by simp; omega
  have esc : ∀ (x:UInt8) (n:Nat),lT (x :: q)=some (n,2)→UInt8.ofNat c=UInt8.ofNat n→n<128→txt (92 :: x :: q)=(txt q).map fun y=>(cj c ++ y.1,y.2):=by
   intro x n he hn hn2
   have:cj n = [UInt8.ofNat n]:=by unfold cj; rw [if_pos hn2]
   rw [fu,if_neg (by decide),if_pos rfl,he,Option.bind_some,e3,hn, ← this]
   rfl
  unfold kT
  by_cases q1:UInt8.ofNat c=34∨UInt8.ofNat c=92
  ·rw [if_pos q1]
   refine esc (UInt8.ofNat c) (UInt8.ofNat c).toNat ?_ (by rw [e4]) (by omega)
   unfold lT
   simp only
   rw [if_pos (q1.elim .inl (fun hh => .inr (.inl hh)))]
  rw [if_neg q1]
  by_cases q2:UInt8.ofNat c=8
  ·rw [if_pos q2]; exact esc 98 8 rfl (by rw [q2]; rfl) (by decide)
  rw [if_neg q2]
  by_cases q3:UInt8.ofNat c=9
  ·rw [if_pos q3]; exact esc 116 9 rfl (by rw [q3]; rfl) (by decide)
  rw [if_neg q3]
  by_cases q4:UInt8.ofNat c=10
  ·rw [if_pos q4]; exact esc 110 10 rfl (by rw [q4]; rfl) (by decide)
  rw [if_neg q4]
  by_cases q5:UInt8.ofNat c=12
  ·rw [if_pos q5]; exact esc 102 12 rfl (by rw [q5]; rfl) (by decide)
  rw [if_neg q5]
  by_cases q6:UInt8.ofNat c=13
  ·rw [if_pos q6]; exact esc 114 13 rfl (by rw [q6]; rfl) (by decide)
  rw [if_neg q6]
  rw [e4]
  by_cases q7:c<32
  ·rw [if_pos q7]
   show txt (92 :: 117 :: 48 :: 48 :: oF (c / 16) :: oF (c % 16) :: q) = _
   rw [fu,if_neg (by decide),if_pos rfl,En c q7,Option.bind_some]
   rfl
  ·rw [if_neg q7]
   have hd:decodeL (UInt8.ofNat c :: q)=(c,1):=by have:=qZ c h q; rw [e3] at this; exact this
   show txt (UInt8.ofNat c :: q) = _
   rw [fu,if_neg (fun hh=>q1 (.inl hh)),if_neg (fun hh=>q1 (.inr hh)),hd,if_neg (by simp; omega),e3]
   rfl
 ·rw [r8 c h1 h.1]
  obtain ⟨x,l,hx⟩ : ∃ x l,cj c=x :: l:=by
   cases hh:cj c with
   | nil=>exact absurd hh (CC c)
   | cons x l=>exact ⟨x,l,rfl⟩
  have hd:=qZ c h q
  have hl:2≤(cj c).length:=by
   unfold cj
   rw [if_neg h1]
   repeat' split
   all_goals simp
  have hx0:128≤x.toNat:=by
   obtain ⟨o1,o2⟩:=h
   unfold cj at hx
   rw [if_neg h1] at hx
   repeat' split at hx
   all_goals
    injection hx with hx _
    rw [← hx]
    simp
    omega
  rw [hx] at hd hl ⊢
  rw [List.cons_append] at hd ⊢
  rw [fu,if_neg (by rintro rfl; exact absurd hx0 (by decide)),if_neg (by rintro rfl; exact absurd hx0 (by decide)),hd]
  simp only
  rw [if_neg (by omega)]
  rw [← List.cons_append,List.take_left' rfl,List.drop_left' rfl]
theorem CV {t:By} (h:OkT t) (r:By):txt (fS t ++ 34 :: r)=some (t,r):=by
 induction h with
 | nil=>show txt (34 :: r) = _; rw [fu,if_pos rfl]
 | cons c t hc _ ih=>rw [ov,List.append_assoc,HR c hc,ih]; rfl
end Go.Vm
/- JSON, plainly: numbers. What is printed is read; what is read is of 15 digits, and is printed in no more bytes. No condition. -/
namespace Go.Vm
open Go.Lib (decodeL decDigits itoa nDigits)
set_option linter.unusedVariables false
set_option linter.unusedSimpArgs false
theorem oW (s:By):cM s=s.take (cM s).length:=by
 unfold cM
 cases s with
 | nil=>rfl
 | cons c r =>
  simp only
  split
  ·rename_i h; subst h; rfl
  ·have:=List.takeWhile_prefix bj (l:=c :: r)
   rw [List.length_take]
   have e:List.takeWhile bj (c :: r)=(c :: r).take (List.takeWhile bj (c :: r)).length:=(List.prefix_iff_eq_take.1 this)
   conv=>lhs; rw [e]
   rw [List.take_take]
theorem o8 (s:By):(cM s).length≤15∧(cM s).length≤s.length:=by
 refine ⟨?_,?_⟩
 ·unfold cM
  cases s with
  | nil=>simp
  | cons c r =>
   simp only
   split
   ·simp
   ·simp; omega
 ·have:=congrArg List.length (oW s)
  simp only [List.length_take] at this
  omega
theorem oK (s:By) : ∀ c∈cM s,bj c=true:=by
 unfold cM
 cases s with
 | nil=>simp
 | cons c r =>
  simp only
  split
  ·intro x hx; simp at hx; subst hx; rfl
  ·intro x hx
   have:=List.all_takeWhile (p:=bj) (l:=c :: r)
   rw [List.all_eq_true] at this
   exact this x (List.mem_of_mem_take hx)
theorem D0 (l:By) (c:UInt8):oe (l ++ [c])=oe l * 10+(c.toNat - 48):=by unfold oe; rw [List.foldl_append]; rfl
theorem CM (l:By) (h : ∀ c∈l,bj c=true):oe l<10 ^ l.length:=by
 have main : ∀ (l:By) (n k:Nat),(∀ c∈l,bj c=true)→n<10 ^ k→l.foldl (fun n c=>n * 10+(c.toNat - 48)) n<10 ^ (k+l.length):=by
  intro l
  induction l with
  | nil=>intro n k _ h; simpa using h
  | cons c l ih =>
   intro n k hd h
   have hc:=hd c (List.mem_cons_self ..)
   simp [bj] at hc
   have:=ih (n * 10+(c.toNat - 48)) (k+1) (fun x hx=>hd x (List.mem_cons_of_mem _ hx)) (by rw [Nat.pow_succ]; omega)
   rw [List.length_cons,List.foldl_cons,show k+(l.length+1)=k+1+l.length by omega]
   exact this
 have:=main l 0 0 h (by decide)
 rw [Nat.zero_add] at this
 exact this
theorem nf : ∀ (k u:Nat),1≤k→u<10 ^ k→nDigits u≤k
 | 0,u,h,_=>by omega
 | 1,u,_,h=>by rw [Go.Lib.nDigits_small (by simpa using h)]; exact Nat.le_refl _
 | k+2,u,_,h=>by
  by_cases hu:u<10
  ·rw [Go.Lib.nDigits_small hu]; omega
  ·rw [Go.Lib.nDigits_big hu]
   have:=nf (k+1) (u / 10) (by omega) (by rw [Nat.pow_succ] at h; omega)
   omega
theorem vY (u k:Nat) (h:1≤k) (hu:u<10 ^ k):(itoa (u:Int)).length≤k∧(itoa (-(u:Int))).length≤k+1:=by
 have h1:=nf k u h hu
 unfold itoa
 constructor
 ·rw [if_neg (by omega),Int.toNat_natCast,Go.Lib.decDigits_length]
  exact h1
 ·split
  ·rw [List.length_cons,Go.Lib.decDigits_length]
   have:(-(u:Int)).natAbs=u:=by omega
   rw [this]; omega
  ·rename_i hn
   have:(-(u:Int)).toNat=0:=by omega
   rw [this,Go.Lib.decDigits_length]
   rw [Go.Lib.nDigits_small (by decide)]
   omega
def okN (n:Int):Prop := -1000000000000000<n∧n<1000000000000000
theorem p15:10 ^ 15=1000000000000000:=by decide
theorem vE (s:By):oe (cM s)<1000000000000000:=by
 have h1:=CM (cM s) (oK s)
 have h2:10 ^ (cM s).length≤10 ^ 15:=Nat.pow_le_pow_right (by decide) (o8 s).1
 rw [p15] at h2
 omega
theorem xv (s:By) (h:cM s ≠ []):(itoa (oe (cM s):Int)).length≤(cM s).length∧(itoa (-(oe (cM s):Int))).length≤(cM s).length+1 :=
 vY _ _ (by have:=List.length_pos_iff.2 h; omega) (CM _ (oK s))
theorem Jo {s r:By} {n:Int} (h:pM s=some (n,r)):okN n∧r <:+ s∧(itoa n).length+r.length≤s.length∧r.length<s.length:=by
 unfold pM at h
 split at h
 ·cases h
 ·rename_i c t
  split at h
  ·split at h
   ·cases h
   ·rename_i hne
    cases h
    have h1:=vE t
    have h2:=xv t hne
    have h3:=o8 t
    exact ⟨⟨by omega,by omega⟩,(List.drop_suffix _ _).trans (List.suffix_cons _ _),by simp; omega,by simp; omega⟩
  ·split at h
   ·cases h
   ·rename_i hne
    cases h
    have h1:=vE (c :: t)
    have h2:=xv (c :: t) hne
    have h3:=o8 (c :: t)
    have h4:=List.length_pos_iff.2 hne
    simp only [List.length_cons] at h3
    exact ⟨⟨by omega,by omega⟩,List.drop_suffix _ _,by simp; omega,by simp; omega⟩
def Stop (r:By):Prop := ∀ c q,r=c :: q→bj c=false
theorem iM (u:Nat):(∀ c∈decDigits u,bj c=true)∧oe (decDigits u)=u∧(u≠0 → ∀ c q,decDigits u=c :: q→c≠48):=by
 induction u using Nat.strongRecOn with
 | _ u ih =>
  rw [decDigits]
  split
  ·rename_i h
   have e:(UInt8.ofNat (48+u)).toNat=48+u:=by simp; omega
   refine ⟨?_,?_,?_⟩
   ·intro c hc; simp at hc; subst hc; simp [bj]; omega
   ·simp [oe]; omega
   ·intro hu c q hq
    injection hq with hq _
    rw [← hq]
    intro hh
    have:=congrArg UInt8.toNat hh
    rw [e] at this
    have:(48:UInt8).toNat=48:=rfl
    omega
  ·rename_i h
   obtain ⟨i1,i2,i3⟩:=ih (u / 10) (by omega)
   have e:(UInt8.ofNat (48+u % 10)).toNat=48+u % 10:=by simp; omega
   refine ⟨?_,?_,?_⟩
   ·intro c hc
    rcases List.mem_append.1 hc with hc | hc
    ·exact i1 c hc
    ·simp at hc; subst hc; simp [bj]; omega
   ·rw [D0,i2,e]; omega
   ·intro hu c q hq
    have hl:=Go.Lib.decDigits_length (u / 10)
    have:=Go.Lib.nDigits_pos (u / 10)
    cases hd:decDigits (u / 10) with
    | nil=>rw [hd] at hl; simp at hl; omega
    | cons x l =>
     rw [hd] at hq
     injection hq with hq _
     rw [← hq]
     exact i3 (by omega) x l hd
theorem AG (u:Nat) (hu:u<1000000000000000) (r:By) (hr:Stop r):cM (decDigits u ++ r)=decDigits u:=by
 obtain ⟨f1,f2,f3⟩:=iM u
 have hlen:(decDigits u).length≤15:=by rw [Go.Lib.decDigits_length]; exact nf 15 u (by decide) (by rw [p15]; exact hu)
 have hp:1≤(decDigits u).length:=by rw [Go.Lib.decDigits_length]; exact Go.Lib.nDigits_pos u
 by_cases h0:u=0
 ·subst h0
  rw [Go.Lib.decDigits_one (by decide)]
  rfl
 cases hd:decDigits u with
 | nil=>rw [hd] at hp; simp at hp
 | cons c q =>
  have hc:=f3 h0 c q hd
  rw [hd] at f1 hlen
  unfold cM
  rw [List.cons_append]
  simp only
  rw [if_neg hc, ← List.cons_append,List.takeWhile_append_of_pos f1]
  have:List.takeWhile bj r = []:=by
   cases r with
   | nil=>rfl
   | cons x r'=>rw [List.takeWhile_cons_of_neg]; rw [hr x r' rfl]; decide
  rw [this,List.append_nil,List.take_of_length_le hlen]
theorem ud (u:Nat) : ∃ c q,decDigits u=c :: q∧bj c=true:=by
 obtain ⟨f1,_⟩:=iM u
 have hp:1≤(decDigits u).length:=by rw [Go.Lib.decDigits_length]; exact Go.Lib.nDigits_pos u
 cases hd:decDigits u with
 | nil=>rw [hd] at hp; simp at hp
 | cons c q=>exact ⟨c,q,rfl,f1 c (by rw [hd]; exact List.mem_cons_self ..)⟩
theorem Ef (n:Int) (h:okN n) (r:By) (hr:Stop r):pM (itoa n ++ r)=some (n,r):=by
 obtain ⟨h1,h2⟩:=h
 unfold itoa
 split
 ·rename_i hn
  have e:=AG n.natAbs (by omega) r hr
  obtain ⟨c,q,hc,_⟩:=ud n.natAbs
  unfold pM
  rw [List.cons_append]
  simp only [if_true,e]
  rw [if_neg (by rw [hc]; simp),(iM n.natAbs).2.1,List.drop_left' rfl]
  congr 2
  omega
 ·rename_i hn
  have e:=AG n.toNat (by omega) r hr
  obtain ⟨c,q,hc,hd⟩:=ud n.toNat
  unfold pM
  have hc':decDigits n.toNat ++ r=c :: (q ++ r):=by rw [hc]; rfl
  rw [hc']
  simp only
  rw [if_neg (by rintro rfl; exact absurd hd (by decide)), ← hc',e,if_neg (by rw [hc]; simp),(iM n.toNat).2.1,List.drop_left' rfl]
  congr 2
  omega
theorem sy (n:Int) : ∃ c q,itoa n=c :: q∧(c=45∨bj c=true):=by
 unfold itoa
 split
 ·exact ⟨_,_,rfl, .inl rfl⟩
 ·obtain ⟨c,q,hc,hd⟩:=ud n.toNat
  exact ⟨c,q,hc, .inr hd⟩
end Go.Vm
