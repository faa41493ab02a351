import Derived.Test.YtihpjgcbmipdbaaGreatDoorPj2
/- JSON, plainly: strings. What is printed is read; what is read is of right signs, and is printed in no more bytes. No condition. -/
namespace Go.Vm
open Go.Lib (decodeL decodeN decodeL_N decode_N decodeN_shape decodeL_le)
set_option linter.unusedVariables false
set_option linter.unusedSimpArgs false
theorem vN:txt []=none:=rfl
theorem mD (c:UInt8) (r:By):txt (c :: r)=if c=34 then some ([],r) else if c=92 then (qj r).bind fun x=>(txt ((c :: r).drop x.2)).map fun y=>(cH x.1 ++ y.1,y.2)
  else if (decodeL (c :: r)).1<32∨((decodeL (c :: r)).1=65533∧(decodeL (c :: r)).2=1) then none else (txt ((c :: r).drop (decodeL (c :: r)).2)).map fun y=>((c :: r).take (decodeL (c :: r)).2 ++ y.1,y.2):=by
 have hp:=bQ (c :: r)
 unfold txt
 conv=>lhs; rw [List.length_cons,Fc]
 by_cases h1:c=34
 ·rw [if_pos h1,if_pos h1]
 rw [if_neg h1,if_neg h1]
 by_cases h2:c=92
 ·rw [if_pos h2,if_pos h2]
  cases he:qj r with
  | none=>rfl
  | some x =>
   have:=KC he
   simp only [Option.bind_some]
   rw [qt r.length ((c :: r).drop x.2).length ((c :: r).drop x.2) (by simp; omega) (Nat.le_refl _)]
 rw [if_neg h2,if_neg h2]
 split
 ·rfl
 ·rw [qt r.length ((c :: r).drop (decodeL (c :: r)).2).length ((c :: r).drop (decodeL (c :: r)).2) (by simp; omega) (Nat.le_refl _)]
theorem FN {p:By→Prop} (h : ∀ s,(∀ k,1≤k→s ≠ []→p (s.drop k))→p s) (s:By):p s:=by
 have : ∀ n (s:By),s.length≤n→p s:=by
  intro n
  induction n with
  | zero=>intro s hs; exact h s fun k _ hne=>absurd (List.length_eq_zero_iff.1 (by omega)) hne
  | succ n ih=>intro s hs; exact h s fun k hk hne=>ih _ (by have:=List.length_pos_iff.2 hne; simp; omega)
 exact this s.length s (Nat.le_refl _)
theorem s8 (a b:By):lD (a ++ b)=lD a ++ lD b:=by unfold lD; simp
theorem Dx (s:By) : ∀ {t r:By},txt s=some (t,r)→OkT t∧r <:+ s∧(lD t).length+1+r.length≤s.length:=by
 refine FN (p:=fun s => ∀ {t r:By},txt s=some (t,r)→OkT t∧r <:+ s∧(lD t).length+1+r.length≤s.length) ?_ s
 intro s ih t r h
 cases s with
 | nil=>rw [vN] at h; cases h
 | cons c s =>
  rw [mD] at h
  by_cases h1:c=34
  ·rw [if_pos h1] at h
   cases h
   exact ⟨.nil,List.suffix_cons _ _,by simp [lD]; omega⟩
  rw [if_neg h1] at h
  by_cases h2:c=92
  ·rw [if_pos h2] at h
   obtain ⟨x,he,h⟩:=Option.bind_eq_some_iff.1 h
   obtain ⟨y,hy,h⟩:=Option.map_eq_some_iff.1 h
   obtain ⟨y1,y2⟩:=y
   cases h
   obtain ⟨q1,q2,q3,q4⟩:=Af (c:=x.1) (k:=x.2) he
   obtain ⟨i1,i2,i3⟩:=ih x.2 (by omega) (by simp) hy
   refine ⟨.cons _ _ q1 i1,i2.trans (List.drop_suffix _ _),?_⟩
   rw [s8]
   simp at i3 ⊢
   omega
  rw [if_neg h2] at h
  split at h
  ·cases h
  ·rename_i hb
   obtain ⟨y,hy,h⟩:=Option.map_eq_some_iff.1 h
   obtain ⟨y1,y2⟩:=y
   cases h
   have hp:=bQ (c :: s)
   have hl:=decodeL_le (c :: s) (by simp)
   obtain ⟨i1,i2,i3⟩:=ih (decodeL (c :: s)).2 hp (by simp) hy
   have hk:=qu (c :: s)
   rw [gM (c :: s) (by simp) (fun hh=>hb (.inr hh))]
   refine ⟨.cons _ _ hk i1,i2.trans (List.drop_suffix _ _),?_⟩
   have e:(lD (cH (decodeL (c :: s)).1)).length≤(decodeL (c :: s)).2:=by
    have e2:=congrArg List.length (gM (c :: s) (by simp) (fun hh=>hb (.inr hh)))
    rw [List.length_take,Nat.min_eq_left hl] at e2
    by_cases hc:(decodeL (c :: s)).1<128
    ·rw [wK _ hc]
     have e3:cH (decodeL (c :: s)).1 = [UInt8.ofNat (decodeL (c :: s)).1]:=by unfold cH; rw [if_pos hc]
     have e4:(decodeL (c :: s)).2=1:=by rw [e2,e3]; rfl
     have e5:=gM (c :: s) (by simp) (fun hh=>hb (.inr hh))
     rw [e4,e3] at e5
     simp at e5
     have h32 : ¬ c.toNat<32:=by
      intro hh
      apply hb
      left
      have:=congrArg UInt8.toNat e5
      simp at this
      omega
     rw [← e5,e4]
     unfold B9
     have n8:c≠8:=by rintro rfl; exact h32 (by decide)
     have n9:c≠9:=by rintro rfl; exact h32 (by decide)
     have n10:c≠10:=by rintro rfl; exact h32 (by decide)
     have n12:c≠12:=by rintro rfl; exact h32 (by decide)
     have n13:c≠13:=by rintro rfl; exact h32 (by decide)
     rw [if_neg (fun hh=>hh.elim h1 h2),if_neg n8,if_neg n9,if_neg n10,if_neg n12,if_neg n13,if_neg h32]
     exact Nat.le_refl _
    ·rw [xO _ hc hk.1]; omega
   rw [s8]
   simp at i3 ⊢
   omega
end Go.Vm
/- JSON, plainly: numbers. What is printed is read; what is read is of 15 digits, and is printed in no more bytes. No condition. -/
namespace Go.Vm
open Go.Lib (decodeL decDigits itoa nDigits)
set_option linter.unusedVariables false
set_option linter.unusedSimpArgs false
theorem pC (s:By):cW s=s.take (cW s).length:=by
 unfold cW
 cases s with
 | nil=>rfl
 | cons c r =>
  simp only
  split
  ·rename_i h; subst h; rfl
  ·have:=List.takeWhile_prefix bj (l:=c :: r)
   rw [List.length_take]
   have e:List.takeWhile bj (c :: r)=(c :: r).take (List.takeWhile bj (c :: r)).length:=(List.prefix_iff_eq_take.1 this)
   conv=>lhs; rw [e]
   rw [List.take_take]
theorem lg (s:By):(cW s).length≤15∧(cW s).length≤s.length:=by
 refine ⟨?_,?_⟩
 ·unfold cW
  cases s with
  | nil=>simp
  | cons c r =>
   simp only
   split
   ·simp
   ·simp; omega
 ·have:=congrArg List.length (pC s)
  simp only [List.length_take] at this
  omega
theorem pI (s:By) : ∀ c∈cW s,bj c=true:=by
 unfold cW
 cases s with
 | nil=>simp
 | cons c r =>
  simp only
  split
  ·intro x hx; simp at hx; subst hx; rfl
  ·intro x hx
   have:=List.all_takeWhile (p:=bj) (l:=c :: r)
   rw [List.all_eq_true] at this
   exact this x (List.mem_of_mem_take hx)
theorem GC (l:By) (c:UInt8):lF (l ++ [c])=lF l * 10+(c.toNat - 48):=by unfold lF; rw [List.foldl_append]; rfl
theorem FX (l:By) (h : ∀ c∈l,bj c=true):lF l<10 ^ l.length:=by
 have main : ∀ (l:By) (n k:Nat),(∀ c∈l,bj c=true)→n<10 ^ k→l.foldl (fun n c=>n * 10+(c.toNat - 48)) n<10 ^ (k+l.length):=by
  intro l
  induction l with
  | nil=>intro n k _ h; simpa using h
  | cons c l ih =>
   intro n k hd h
   have hc:=hd c (List.mem_cons_self ..)
   simp [bj] at hc
   have:=ih (n * 10+(c.toNat - 48)) (k+1) (fun x hx=>hd x (List.mem_cons_of_mem _ hx)) (by rw [Nat.pow_succ]; omega)
   rw [List.length_cons,List.foldl_cons,show k+(l.length+1)=k+1+l.length by omega]
   exact this
 have:=main l 0 0 h (by decide)
 rw [Nat.zero_add] at this
 exact this
theorem rT : ∀ (k u:Nat),1≤k→u<10 ^ k→nDigits u≤k
 | 0,u,h,_=>by omega
 | 1,u,_,h=>by rw [Go.Lib.nDigits_small (by simpa using h)]; exact Nat.le_refl _
 | k+2,u,_,h=>by
  by_cases hu:u<10
  ·rw [Go.Lib.nDigits_small hu]; omega
  ·rw [Go.Lib.nDigits_big hu]
   have:=rT (k+1) (u / 10) (by omega) (by rw [Nat.pow_succ] at h; omega)
   omega
theorem xf (u k:Nat) (h:1≤k) (hu:u<10 ^ k):(itoa (u:Int)).length≤k∧(itoa (-(u:Int))).length≤k+1:=by
 have h1:=rT k u h hu
 unfold itoa
 constructor
 ·rw [if_neg (by omega),Int.toNat_natCast,Go.Lib.decDigits_length]
  exact h1
 ·split
  ·rw [List.length_cons,Go.Lib.decDigits_length]
   have:(-(u:Int)).natAbs=u:=by omega
   rw [this]; omega
  ·rename_i hn
   have:(-(u:Int)).toNat=0:=by omega
   rw [this,Go.Lib.decDigits_length]
   rw [Go.Lib.nDigits_small (by decide)]
   omega
def okN (n:Int):Prop := -1000000000000000<n∧n<1000000000000000
theorem p15:10 ^ 15=1000000000000000:=by decide
theorem Cc (s:By):lF (cW s)<1000000000000000:=by
 have h1:=FX (cW s) (pI s)
 have h2:10 ^ (cW s).length≤10 ^ 15:=Nat.pow_le_pow_right (by decide) (lg s).1
 rw [p15] at h2
 omega
theorem zu (s:By) (h:cW s ≠ []):(itoa (lF (cW s):Int)).length≤(cW s).length∧(itoa (-(lF (cW s):Int))).length≤(cW s).length+1 :=
 xf _ _ (by have:=List.length_pos_iff.2 h; omega) (FX _ (pI s))
theorem Nc {s r:By} {n:Int} (h:uc s=some (n,r)):okN n∧r <:+ s∧(itoa n).length+r.length≤s.length∧r.length<s.length:=by
 unfold uc at h
 split at h
 ·cases h
 ·rename_i c t
  split at h
  ·split at h
   ·cases h
   ·rename_i hne
    cases h
    have h1:=Cc t
    have h2:=zu t hne
    have h3:=lg t
    exact ⟨⟨by omega,by omega⟩,(List.drop_suffix _ _).trans (List.suffix_cons _ _),by simp; omega,by simp; omega⟩
  ·split at h
   ·cases h
   ·rename_i hne
    cases h
    have h1:=Cc (c :: t)
    have h2:=zu (c :: t) hne
    have h3:=lg (c :: t)
    have h4:=List.length_pos_iff.2 hne
    simp only [List.length_cons] at h3
    exact ⟨⟨by omega,by omega⟩,List.drop_suffix _ _,by simp; omega,by simp; omega⟩
theorem qB (u:Nat):(∀ c∈decDigits u,bj c=true)∧lF (decDigits u)=u∧(u≠0 → ∀ c q,decDigits u=c :: q→c≠48):=by
 induction u using Nat.strongRecOn with
 | _ u ih =>
  rw [decDigits]
  split
  ·rename_i h
   have e:(UInt8.ofNat (48+u)).toNat=48+u:=by simp; omega
   refine ⟨?_,?_,?_⟩
   ·intro c hc; simp at hc; subst hc; simp [bj]; omega
   ·simp [lF]; omega
   ·intro hu c q hq
    injection hq with hq _
    rw [← hq]
    intro hh
    have:=congrArg UInt8.toNat hh
    rw [e] at this
    have:(48:UInt8).toNat=48:=rfl
    omega
  ·rename_i h
   obtain ⟨i1,i2,i3⟩:=ih (u / 10) (by omega)
   have e:(UInt8.ofNat (48+u % 10)).toNat=48+u % 10:=by simp; omega
   refine ⟨?_,?_,?_⟩
   ·intro c hc
    rcases List.mem_append.1 hc with hc | hc
    ·exact i1 c hc
    ·simp at hc; subst hc; simp [bj]; omega
   ·rw [GC,i2,e]; omega
   ·intro hu c q hq
    have hl:=Go.Lib.decDigits_length (u / 10)
    have:=Go.Lib.nDigits_pos (u / 10)
    cases hd:decDigits (u / 10) with
    | nil=>rw [hd] at hl; simp at hl; omega
    | cons x l =>
     rw [hd] at hq
     injection hq with hq _
     rw [← hq]
     exact i3 (by omega) x l hd
theorem Dk (u:Nat) : ∃ c q,decDigits u=c :: q∧bj c=true:=by
 obtain ⟨f1,_⟩:=qB u
 have hp:1≤(decDigits u).length:=by rw [Go.Lib.decDigits_length]; exact Go.Lib.nDigits_pos u
 cases hd:decDigits u with
 | nil=>rw [hd] at hp; simp at hp
 | cons c q=>exact ⟨c,q,rfl,f1 c (by rw [hd]; exact List.mem_cons_self ..)⟩
theorem HA (n:Int) : ∃ c q,itoa n=c :: q∧(c=45∨bj c=true):=by
 unfold itoa
 split
 ·exact ⟨_,_,rfl, .inl rfl⟩
 ·obtain ⟨c,q,hc,hd⟩:=Dk n.toNat
  exact ⟨c,q,hc, .inr hd⟩
end Go.Vm
