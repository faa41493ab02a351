import Derived.Test.YtihpjgcbmipdbaaGreatDoorPj2
import Derived.Lib.SplitLaws
import Derived.Lib.Join
import Derived.Lib.AtoiTie
import Derived.Test.YtihpjgcbmipdbaaGreatDoorFref4
/- JSON, plainly: strings. What is printed is read; what is read is of right signs, and is printed in no more bytes. No condition. -/
namespace Go.Vm
open Go.Lib (decodeL decodeN decodeL_N decode_N decodeN_shape decodeL_le)
set_option linter.unusedVariables false
set_option linter.unusedSimpArgs false
theorem rz:txt []=none:=rfl
theorem ju (c:UInt8) (r:By):txt (c :: r)=if c=34 then some ([],r) else if c=92 then (ow r).bind fun x=>(txt ((c :: r).drop x.2)).map fun y=>(bw x.1 ++ y.1,y.2)
  else if (decodeL (c :: r)).1<32∨((decodeL (c :: r)).1=65533∧(decodeL (c :: r)).2=1) then none else (txt ((c :: r).drop (decodeL (c :: r)).2)).map fun y=>((c :: r).take (decodeL (c :: r)).2 ++ y.1,y.2):=by
 have hp:=bC (c :: r)
 unfold txt
 conv=>lhs; rw [List.length_cons,DL]
 by_cases h1:c=34
 ·rw [if_pos h1,if_pos h1]
 rw [if_neg h1,if_neg h1]
 by_cases h2:c=92
 ·rw [if_pos h2,if_pos h2]
  cases he:ow r with
  | none=>rfl
  | some x =>
   have:=G3 he
   simp only [Option.bind_some]
   rw [pJ r.length ((c :: r).drop x.2).length ((c :: r).drop x.2) (by simp; omega) (Nat.le_refl _)]
 rw [if_neg h2,if_neg h2]
 split
 ·rfl
 ·rw [pJ r.length ((c :: r).drop (decodeL (c :: r)).2).length ((c :: r).drop (decodeL (c :: r)).2) (by simp; omega) (Nat.le_refl _)]
theorem Kl {p:By→Prop} (h : ∀ s,(∀ k,1≤k→s ≠ []→p (s.drop k))→p s) (s:By):p s:=by
 have : ∀ n (s:By),s.length≤n→p s:=by
  intro n
  induction n with
  | zero=>intro s hs; exact h s fun k _ hne=>absurd (List.length_eq_zero_iff.1 (by omega)) hne
  | succ n ih=>intro s hs; exact h s fun k hk hne=>ih _ (by have:=List.length_pos_iff.2 hne; simp; omega)
 exact this s.length s (Nat.le_refl _)
theorem rr (a b:By):iU (a ++ b)=iU a ++ iU b:=by unfold iU; simp
theorem tu (s:By) : ∀ {t r:By},txt s=some (t,r)→OkT t∧r <:+ s∧(iU t).length+1+r.length≤s.length:=by
 refine Kl (p:=fun s => ∀ {t r:By},txt s=some (t,r)→OkT t∧r <:+ s∧(iU t).length+1+r.length≤s.length) ?_ s
 intro s ih t r h
 cases s with
 | nil=>rw [rz] at h; cases h
 | cons c s =>
  rw [ju] at h
  by_cases h1:c=34
  ·rw [if_pos h1] at h
   cases h
   exact ⟨.nil,List.suffix_cons _ _,by simp [iU]; omega⟩
  rw [if_neg h1] at h
  by_cases h2:c=92
  ·rw [if_pos h2] at h
   obtain ⟨x,he,h⟩:=Option.bind_eq_some_iff.1 h
   obtain ⟨y,hy,h⟩:=Option.map_eq_some_iff.1 h
   obtain ⟨y1,y2⟩:=y
   cases h
   obtain ⟨q1,q2,q3,q4⟩:=y7 (c:=x.1) (k:=x.2) he
   obtain ⟨i1,i2,i3⟩:=ih x.2 (by omega) (by simp) hy
   refine ⟨.cons _ _ q1 i1,i2.trans (List.drop_suffix _ _),?_⟩
   rw [rr]
   simp at i3 ⊢
   omega
  rw [if_neg h2] at h
  split at h
  ·cases h
  ·rename_i hb
   obtain ⟨y,hy,h⟩:=Option.map_eq_some_iff.1 h
   obtain ⟨y1,y2⟩:=y
   cases h
   have hp:=bC (c :: s)
   have hl:=decodeL_le (c :: s) (by simp)
   obtain ⟨i1,i2,i3⟩:=ih (decodeL (c :: s)).2 hp (by simp) hy
   have hk:=mf (c :: s)
   rw [gV (c :: s) (by simp) (fun hh=>hb (.inr hh))]
   refine ⟨.cons _ _ hk i1,i2.trans (List.drop_suffix _ _),?_⟩
   have e:(iU (bw (decodeL (c :: s)).1)).length≤(decodeL (c :: s)).2:=by
    have e2:=congrArg List.length (gV (c :: s) (by simp) (fun hh=>hb (.inr hh)))
    rw [List.length_take,Nat.min_eq_left hl] at e2
    by_cases hc:(decodeL (c :: s)).1<128
    ·rw [wq _ hc]
     have e3:bw (decodeL (c :: s)).1 = [UInt8.ofNat (decodeL (c :: s)).1]:=by unfold bw; rw [if_pos hc]
     have e4:(decodeL (c :: s)).2=1:=by rw [e2,e3]; rfl
     have e5:=gV (c :: s) (by simp) (fun hh=>hb (.inr hh))
     rw [e4,e3] at e5
     simp at e5
     have h32 : ¬ c.toNat<32:=by
      intro hh
      apply hb
      left
      have:=congrArg UInt8.toNat e5
      simp at this
      omega
     rw [← e5,e4]
     unfold qu
     have n8:c≠8:=by rintro rfl; exact h32 (by decide)
     have n9:c≠9:=by rintro rfl; exact h32 (by decide)
     have n10:c≠10:=by rintro rfl; exact h32 (by decide)
     have n12:c≠12:=by rintro rfl; exact h32 (by decide)
     have n13:c≠13:=by rintro rfl; exact h32 (by decide)
     rw [if_neg (fun hh=>hh.elim h1 h2),if_neg n8,if_neg n9,if_neg n10,if_neg n12,if_neg n13,if_neg h32]
     exact Nat.le_refl _
    ·rw [wm _ hc hk.1]; omega
   rw [rr]
   simp at i3 ⊢
   omega
end Go.Vm
/- JSON, plainly: numbers. What is printed is read; what is read is of 15 digits, and is printed in no more bytes. No condition. -/
namespace Go.Vm
open Go.Lib (decodeL decDigits itoa nDigits)
set_option linter.unusedVariables false
set_option linter.unusedSimpArgs false
theorem pv (s:By):di s=s.take (di s).length:=by
 unfold di
 cases s with
 | nil=>rfl
 | cons c r =>
  simp only
  split
  ·rename_i h; subst h; rfl
  ·have:=List.takeWhile_prefix bd (l:=c :: r)
   rw [List.length_take]
   have e:List.takeWhile bd (c :: r)=(c :: r).take (List.takeWhile bd (c :: r)).length:=(List.prefix_iff_eq_take.1 this)
   conv=>lhs; rw [e]
   rw [List.take_take]
theorem oL (s:By):(di s).length≤15∧(di s).length≤s.length:=by
 refine ⟨?_,?_⟩
 ·unfold di
  cases s with
  | nil=>simp
  | cons c r =>
   simp only
   split
   ·simp
   ·simp; omega
 ·have:=congrArg List.length (pv s)
  simp only [List.length_take] at this
  omega
theorem pg (s:By) : ∀ c∈di s,bd c=true:=by
 unfold di
 cases s with
 | nil=>simp
 | cons c r =>
  simp only
  split
  ·intro x hx; simp at hx; subst hx; rfl
  ·intro x hx
   have:=List.all_takeWhile (p:=bd) (l:=c :: r)
   rw [List.all_eq_true] at this
   exact this x (List.mem_of_mem_take hx)
theorem Ge (l:By) (c:UInt8):lD (l ++ [c])=lD l * 10+(c.toNat - 48):=by unfold lD; rw [List.foldl_append]; rfl
theorem D3 (l:By) (h : ∀ c∈l,bd c=true):lD l<10 ^ l.length:=by
 have main : ∀ (l:By) (n k:Nat),(∀ c∈l,bd c=true)→n<10 ^ k→l.foldl (fun n c=>n * 10+(c.toNat - 48)) n<10 ^ (k+l.length):=by
  intro l
  induction l with
  | nil=>intro n k _ h; simpa using h
  | cons c l ih =>
   intro n k hd h
   have hc:=hd c (List.mem_cons_self ..)
   simp [bd] at hc
   have:=ih (n * 10+(c.toNat - 48)) (k+1) (fun x hx=>hd x (List.mem_cons_of_mem _ hx)) (by rw [Nat.pow_succ]; omega)
   rw [List.length_cons,List.foldl_cons,show k+(l.length+1)=k+1+l.length by omega]
   exact this
 have:=main l 0 0 h (by decide)
 rw [Nat.zero_add] at this
 exact this
theorem qN : ∀ (k u:Nat),1≤k→u<10 ^ k→nDigits u≤k
 | 0,u,h,_=>by omega
 | 1,u,_,h=>by rw [Go.Lib.nDigits_small (by simpa using h)]; exact Nat.le_refl _
 | k+2,u,_,h=>by
  by_cases hu:u<10
  ·rw [Go.Lib.nDigits_small hu]; omega
  ·rw [Go.Lib.nDigits_big hu]
   have:=qN (k+1) (u / 10) (by omega) (by rw [Nat.pow_succ] at h; omega)
   omega
theorem A8 (u k:Nat) (h:1≤k) (hu:u<10 ^ k):(itoa (u:Int)).length≤k∧(itoa (-(u:Int))).length≤k+1:=by
 have h1:=qN k u h hu
 unfold itoa
 constructor
 ·rw [if_neg (by omega),Int.toNat_natCast,Go.Lib.decDigits_length]
  exact h1
 ·split
  ·rw [List.length_cons,Go.Lib.decDigits_length]
   have:(-(u:Int)).natAbs=u:=by omega
   rw [this]; omega
  ·rename_i hn
   have:(-(u:Int)).toNat=0:=by omega
   rw [this,Go.Lib.decDigits_length]
   rw [Go.Lib.nDigits_small (by decide)]
   omega
def okN (n:Int):Prop := -1000000000000000<n∧n<1000000000000000
theorem p15:10 ^ 15=1000000000000000:=by decide
theorem vt (s:By):lD (di s)<1000000000000000:=by
 have h1:=D3 (di s) (pg s)
 have h2:10 ^ (di s).length≤10 ^ 15:=Nat.pow_le_pow_right (by decide) (oL s).1
 rw [p15] at h2
 omega
theorem xI (s:By) (h:di s ≠ []):(itoa (lD (di s):Int)).length≤(di s).length∧(itoa (-(lD (di s):Int))).length≤(di s).length+1 :=
 A8 _ _ (by have:=List.length_pos_iff.2 h; omega) (D3 _ (pg s))
theorem Lq {s r:By} {n:Int} (h:s4 s=some (n,r)):okN n∧r <:+ s∧(itoa n).length+r.length≤s.length∧r.length<s.length:=by
 unfold s4 at h
 split at h
 ·cases h
 ·rename_i c t
  split at h
  ·split at h
   ·cases h
   ·rename_i hne
    cases h
    have h1:=vt t
    have h2:=xI t hne
    have h3:=oL t
    exact ⟨⟨by omega,by omega⟩,(List.drop_suffix _ _).trans (List.suffix_cons _ _),by simp; omega,by simp; omega⟩
  ·split at h
   ·cases h
   ·rename_i hne
    cases h
    have h1:=vt (c :: t)
    have h2:=xI (c :: t) hne
    have h3:=oL (c :: t)
    have h4:=List.length_pos_iff.2 hne
    simp only [List.length_cons] at h3
    exact ⟨⟨by omega,by omega⟩,List.drop_suffix _ _,by simp; omega,by simp; omega⟩
theorem pQ (u:Nat):(∀ c∈decDigits u,bd c=true)∧lD (decDigits u)=u∧(u≠0 → ∀ c q,decDigits u=c :: q→c≠48):=by
 induction u using Nat.strongRecOn with
 | _ u ih =>
  rw [decDigits]
  split
  ·rename_i h
   have e:(UInt8.ofNat (48+u)).toNat=48+u:=by simp; omega
   refine ⟨?_,?_,?_⟩
   ·intro c hc; simp at hc; subst hc; simp [bd]; omega
   ·simp [lD]; omega
   ·intro hu c q hq
    injection hq with hq _
    rw [← hq]
    intro hh
    have:=congrArg UInt8.toNat hh
    rw [e] at this
    have:(48:UInt8).toNat=48:=rfl
    omega
  ·rename_i h
   obtain ⟨i1,i2,i3⟩:=ih (u / 10) (by omega)
   have e:(UInt8.ofNat (48+u % 10)).toNat=48+u % 10:=by simp; omega
   refine ⟨?_,?_,?_⟩
   ·intro c hc
    rcases List.mem_append.1 hc with hc | hc
    ·exact i1 c hc
    ·simp at hc; subst hc; simp [bd]; omega
   ·rw [Ge,i2,e]; omega
   ·intro hu c q hq
    have hl:=Go.Lib.decDigits_length (u / 10)
    have:=Go.Lib.nDigits_pos (u / 10)
    cases hd:decDigits (u / 10) with
    | nil=>rw [hd] at hl; simp at hl; omega
    | cons x l =>
     rw [hd] at hq
     injection hq with hq _
     rw [← hq]
     exact i3 (by omega) x l hd
theorem Bx (u:Nat) : ∃ c q,decDigits u=c :: q∧bd c=true:=by
 obtain ⟨f1,_⟩:=pQ u
 have hp:1≤(decDigits u).length:=by rw [Go.Lib.decDigits_length]; exact Go.Lib.nDigits_pos u
 cases hd:decDigits u with
 | nil=>rw [hd] at hp; simp at hp
 | cons c q=>exact ⟨c,q,rfl,f1 c (by rw [hd]; exact List.mem_cons_self ..)⟩
theorem FP (n:Int) : ∃ c q,itoa n=c :: q∧(c=45∨bd c=true):=by
 unfold itoa
 split
 ·exact ⟨_,_,rfl, .inl rfl⟩
 ·obtain ⟨c,q,hc,hd⟩:=Bx n.toNat
  exact ⟨c,q,hc, .inr hd⟩
end Go.Vm
/- Cutting at a byte, joining again, numbers and their texts: plainly. No condition. -/
namespace Go.Vm
open Go.Lib (decDigits itoa)
set_option linter.unusedVariables false
set_option linter.unusedSimpArgs false
/-! ### cut at each such byte -/
def kC (d:UInt8):By→List By
 | [] => [[]]
 | c :: s=>if c=d then [] :: kC d s else match kC d s with
  | p :: ps=>(c :: p) :: ps
  | [] => [[c]]
theorem Gt (d:UInt8):kC d [] = [[]]:=rfl
theorem DF (d:UInt8) (s:By):kC d (d :: s) = [] :: kC d s:=by rw [kC,if_pos rfl]
theorem u2 {d c:UInt8} {s p:By} {ps:List By} (h:c≠d) (hs:kC d s=p :: ps):kC d (c :: s)=(c :: p) :: ps:=by rw [kC,if_neg h,hs]
theorem D0 (d:UInt8) : ∀ s:By,kC d s ≠ []
 | []=>by simp [kC]
 | c :: s=>by
  rw [kC]
  split
  ·simp
  ·split <;> simp
theorem Ht (d:UInt8) (l:By):Lib.index (d :: l) [d]=((0:Nat):Int):=by rw [Lib.index]; simp [List.isPrefixOf]
theorem xS {d b:UInt8} {l:By} {j:Nat} (h:b≠d) (hj:Lib.index l [d]=(j:Int)):Lib.index (b :: l) [d]=((j+1:Nat):Int):=by
 have hp:([d]:By).isPrefixOf (b :: l)=false:=by simp [List.isPrefixOf,Ne.symm h]
 rw [Lib.index,hp,hj]
 have : ¬ ((j:Int) == -1)=true:=fun e=>by have:=beq_iff_eq.1 e; omega
 simp [this]
theorem vu (d:UInt8) : ∀ s:By,Lib.split s [d]=kC d s
 | []=>by simp [Lib.split,Lib.count_miss,Lib.index,Lib.splitK,kC]
 | b :: l=>by
  have ih:=vu d l
  unfold Lib.split at ih ⊢
  by_cases hb:b=d
  ·subst hb
   rw [Lib.count_cons_eq,DF,Nat.add_comm,Lib.splitK,Ht]
   rw [if_neg (by simp)]
   simpa using ih
  ·rw [Lib.count_cons_ne b d l hb]
   by_cases hm:Lib.index l [d] = -1
   ·rw [Lib.count_miss hm] at ih ⊢
    rw [Lib.splitK] at ih ⊢
    exact (u2 hb ih.symm).symm
   ·have hge:=Lib.index_ge l [d]
    obtain ⟨j,hj⟩ : ∃ j:Nat,Lib.index l [d]=j:=⟨(Lib.index l [d]).toNat,by omega⟩
    have hc:=Lib.count_hit (s:=l) (sub := [d]) (by simp) hj
    generalize Lib.count (l.drop (j + [d].length)) [d]=k at hc
    rw [hc,Nat.add_comm,Lib.splitK,hj,if_neg (fun e=>by have:=beq_iff_eq.1 e; omega)] at ih
    rw [hc,Nat.add_comm,Lib.splitK,xS hb hj,if_neg (fun e=>by have:=beq_iff_eq.1 e; omega)]
    rw [u2 hb ih.symm]
    simp
theorem AE (d:UInt8) : ∀ s:By,(kC d s).length≤s.length+1 ∧ ∀ p∈kC d s,p.length≤s.length
 | []=>⟨Nat.le_refl _,fun p hp=>by
  rw [Gt,List.mem_singleton] at hp
  subst hp
  exact Nat.le_refl _⟩
 | c :: s=>by
  obtain ⟨h1,h2⟩:=AE d s
  by_cases hc:c=d
  ·subst hc
   rw [DF]
   refine ⟨by rw [List.length_cons,List.length_cons]; omega,fun p hp => ?_⟩
   rcases List.mem_cons.1 hp with rfl | hp
   ·exact Nat.zero_le _
   ·have:=h2 p hp
    rw [List.length_cons]; omega
  ·cases hx:kC d s with
   | nil=>exact absurd hx (D0 d s)
   | cons q qs =>
    rw [u2 hc hx]
    rw [hx] at h1 h2
    rw [List.length_cons] at h1
    refine ⟨by rw [List.length_cons,List.length_cons]; omega,fun p hp => ?_⟩
    rcases List.mem_cons.1 hp with rfl | hp
    ·have:=h2 q (List.mem_cons_self ..)
     rw [List.length_cons,List.length_cons]; omega
    ·have:=h2 p (List.mem_cons_of_mem _ hp)
     rw [List.length_cons]; omega
def w7 (d:UInt8):List By→By
 | [] => []
 | [p]=>p
 | p :: q :: r=>p ++ d :: w7 d (q :: r)
theorem uQ (d:UInt8) (p:By) {r:List By} (h:r ≠ []):w7 d (p :: r)=p ++ d :: w7 d r:=by
 cases r with
 | nil=>exact absurd rfl h
 | cons q r=>rfl
theorem HB {d:UInt8} {p:By} (hp : ∀ b∈p,b≠d) (s:By):kC d (p ++ d :: s)=p :: kC d s:=by
 induction p with
 | nil=>exact DF d s
 | cons c p ih=>exact u2 (hp c (List.mem_cons_self ..)) (ih fun b hb=>hp b (List.mem_cons_of_mem _ hb))
theorem E1 {d:UInt8} {p:By} (hp : ∀ b∈p,b≠d):kC d p = [p]:=by
 induction p with
 | nil=>rfl
 | cons c p ih=>exact u2 (hp c (List.mem_cons_self ..)) (ih fun b hb=>hp b (List.mem_cons_of_mem _ hb))
theorem yI {d:UInt8} : ∀ l:List By,l ≠ []→(∀ p∈l, ∀ b∈p,b≠d)→kC d (w7 d l)=l
 | [],h,_=>absurd rfl h
 | [p],_,h=>E1 (h p (List.mem_cons_self ..))
 | p :: q :: r,_,h=>by
  rw [uQ d p (by simp),HB (h p (List.mem_cons_self ..)),yI (q :: r) (by simp) fun x hx=>h x (List.mem_cons_of_mem _ hx)]
/-! ### cut once -/
theorem Ey {d:UInt8} {p:By} (hp : ∀ b∈p,b≠d) (s:By):Lib.cut (p ++ d :: s) [d]=(p,s,true):=by
 have hi:Lib.index (p ++ d :: s) [d]=(p.length:Int):=by
  induction p with
  | nil=>exact Ht d s
  | cons c p ih=>exact xS (hp c (List.mem_cons_self ..)) (ih fun b hb=>hp b (List.mem_cons_of_mem _ hb))
 unfold Lib.cut
 rw [hi,if_pos (by omega)]
 simp
theorem C4 {d:UInt8} {p:By} (hp : ∀ b∈p,b≠d):Lib.index p [d] = -1:=by
 refine Lib.index_none fun j hj => ?_
 cases h:Lib.occAt p [d] j with
 | false=>rfl
 | true =>
  have:=Lib.occAt_head (c:=d) (t := []) rfl h
  exact absurd rfl (hp d (List.mem_of_getElem? this))
theorem G9 {d:UInt8} {p:By} (hp : ∀ b∈p,b≠d):Lib.cut p [d]=(p,[],false):=by
 unfold Lib.cut
 rw [C4 hp,if_neg (by decide)]
theorem rJ (n:Nat):itoa (n:Int)=decDigits n:=by unfold itoa; rw [if_neg (by omega),Int.toNat_natCast]
theorem wF (n:Nat) : ∀ c∈itoa (n:Int),bd c=true:=by rw [rJ]; exact (pQ n).1
theorem D9 (n:Nat):itoa (n:Int) ≠ []:=by
 rw [rJ]
 obtain ⟨c,q,hc,_⟩:=Bx n
 rw [hc]; simp
end Go.Vm
/- Sorts of signs, plainly. No condition. -/
namespace Go.Vm
set_option linter.unusedVariables false
set_option linter.unusedSimpArgs false
theorem r7 (F:Nat) (r a b c:Int):dS F (r,a,b,c)=some (decide (a≤r∧r≤b∧r≠c)):=by
 unfold dS
 simp only [sd,Option.bind_some,decide_eq_true_eq]
 repeat' split
 all_goals (rw [Option.some.injEq,Bool.eq_iff_iff]; simp only [Bool.not_eq_true',decide_eq_true_eq,decide_eq_false_iff_not,Bool.false_eq_true,true_iff,false_iff]; first | omega | (simp_all; done))
theorem BO (F:Nat) (r:Int):dT F r=some (decide (0≤r∧(r<55296∨57343<r)∧r≤1114111)):=by
 unfold dT
 simp only [sd,Option.bind_some,decide_eq_true_eq,Bool.false_eq_true,if_false]
 repeat' split
 all_goals (rw [Option.some.injEq,Bool.eq_iff_iff]; simp only [Bool.not_eq_true',decide_eq_true_eq,decide_eq_false_iff_not,Bool.false_eq_true,true_iff,false_iff]; omega)
theorem DJ (F:Nat) (r:Int):jo F r=some (decide (r<32∨(127≤r∧r≤159)∨r=65533∨(55296≤r∧r≤57343)∨1114111<r)):=by
 unfold jo
 simp only [r7,BO,sd,Option.bind_some,decide_eq_true_eq,decide_eq_false_iff_not,Bool.true_eq_false,if_false]
 repeat' split
 all_goals (rw [Option.some.injEq,Bool.eq_iff_iff]; simp only [Bool.not_eq_true',decide_eq_true_eq,decide_eq_false_iff_not,Bool.false_eq_true,true_iff,false_iff]; omega)
theorem Iw (F:Nat) (r:Int):lb F r=some (decide (r=32∨r=160∨(8192≤r∧r≤8202)∨r=12288)):=by
 unfold lb
 simp only [r7,BO,sd,Option.bind_some,decide_eq_true_eq,decide_eq_false_iff_not,Bool.true_eq_false,if_false]
 repeat' split
 all_goals (rw [Option.some.injEq,Bool.eq_iff_iff]; simp only [Bool.not_eq_true',decide_eq_true_eq,decide_eq_false_iff_not,Bool.false_eq_true,true_iff,false_iff]; omega)
theorem FO (F:Nat) (r:Int):jU F r=some (decide ((65≤r∧r≤90)∨(97≤r∧r≤122)∨(192≤r∧r≤591∧r≠215∧r≠247)∨(913≤r∧r≤969∧r≠930))):=by
 unfold jU
 simp only [r7,b7,bZ,ite_self,Option.bind_some,Bool.if_true_right,Bool.if_true_left,Bool.if_false_left,Bool.if_false_right,Option.some.injEq]
 rw [Bool.eq_iff_iff]
 simp
 omega
def bA (n:Int):Int :=
 if n<32∨(127≤n∧n≤159)∨n=65533∨(55296≤n∧n≤57343)∨1114111<n then 0
 else if n=32∨n=160∨(8192≤n∧n≤8202)∨n=12288 then 1
 else if 48≤n∧n≤57 then 2
 else if (65≤n∧n≤90)∨(97≤n∧n≤122)∨(192≤n∧n≤591∧n≠215∧n≠247)∨(913≤n∧n≤969∧n≠930) then 3 else 4
theorem nz (F:Nat) (r:Int):iR F r=some (bA r):=by
 unfold iR bA
 simp only [DJ,Iw,r7,FO,Option.bind_some,decide_eq_true_eq]
 repeat' split
 all_goals first | rfl | omega
theorem nI (F:Nat) (n:Int):cP F n=some (bA n):=by
 unfold cP bA
 simp only [b7,bZ,ite_self,Option.bind_some,Option.some.injEq]
 simp only [Bool.if_true_right,Bool.if_true_left,Bool.if_false_left,Bool.if_false_right,Bool.and_eq_true,Bool.or_eq_true,Bool.not_eq_true',decide_eq_true_eq,decide_eq_false_iff_not]
 simp
 repeat' split
 all_goals first | rfl | omega
end Go.Vm
/- Phrases, plainly: names, gaps, pieces sign by sign and byte by byte. No condition. -/
namespace Go.Vm
open Go.Lib (decodeL decodeN decodeL_N decode_N decodeN_shape decodeL_le)
set_option linter.unusedVariables false
set_option linter.unusedSimpArgs false
def uo (c:UInt8):Bool:=(decide (97≤c.toNat) && decide (c.toNat≤122)) || (decide (48≤c.toNat) && decide (c.toNat≤57))
def nmP (s:By):Bool:=s.all uo && decide (1≤s.length) && decide (s.length≤12)
def bM (s:By):Nat:=match s with
 | _ :: b :: r=>if b=37∨b=98∨b=107∨b=109∨b=112 then 2 else if b=123 then
   (if (r.takeWhile (fun c=>c != 125)).length<r.length∧nmP (r.takeWhile (fun c=>c != 125))=true then (r.takeWhile (fun c=>c != 125)).length+3 else 0) else 0
 | _=>0
theorem uO (s:By):bM s≤s.length:=by
 unfold bM
 split
 ·rename_i a b r
  split
  ·simp
  ·split
   ·split
    ·rename_i h
     simp only [List.length_cons]
     omega
    ·omega
   ·omega
 ·omega
theorem lJ (s:By):bM s≠1:=by
 unfold bM
 split
 ·split
  ·decide
  ·split
   ·split <;> omega
   ·decide
 ·decide
def Ce (b:UInt8):Prop:=33≤b.toNat∧b.toNat≤126
theorem E5 (a:By) (x:UInt8) (t:By):(a ++ x :: t).take (a.length+1)=a ++ [x]:=by
 rw [List.take_append,List.take_of_length_le (by omega),show a.length+1 - a.length=1 by omega]
 rfl
theorem vT (r:By) : ∀ b∈(37 :: r:By).take (bM (37 :: r)),Ce b:=by
 unfold bM
 split
 ·rename_i a c q heq
  injection heq with h1 h2
  subst h1; subst h2
  split
  ·rename_i hc
   intro b hb
   simp only [List.take_succ_cons,List.take_zero] at hb
   rcases List.mem_cons.1 hb with rfl | hb
   ·exact ⟨by decide,by decide⟩
   ·rw [List.mem_singleton] at hb
    subst hb
    rcases hc with rfl | rfl | rfl | rfl | rfl <;> exact ⟨by decide,by decide⟩
  ·split
   ·rename_i hb123
    subst hb123
    split
    ·rename_i hk
     obtain ⟨hk,hnm⟩:=hk
     intro b hb
     have hdec:q=q.takeWhile (fun c=>c != 125) ++ q.dropWhile (fun c=>c != 125):=(List.takeWhile_append_dropWhile ..).symm
     have hne:q.dropWhile (fun c=>c != 125) ≠ []:=by
      intro hh
      rw [hh,List.append_nil] at hdec
      have:=congrArg List.length hdec
      omega
     obtain ⟨x,t,hx⟩:=List.exists_cons_of_ne_nil hne
     have hx125:x=125:=by
      have:=List.head_dropWhile_not (fun c=>c != 125) hne
      simp only [hx,List.head_cons] at this
      simpa using this
     have htk:(37 :: 123 :: q:By).take ((q.takeWhile (fun c=>c != 125)).length+3)=37 :: 123 :: (q.takeWhile (fun c=>c != 125) ++ [x]):=by
      rw [show (q.takeWhile (fun c=>c != 125)).length+3=((q.takeWhile (fun c=>c != 125)).length+1)+1+1 by omega,List.take_succ_cons,List.take_succ_cons]
      congr 2
      exact (congrArg (List.take _) (hdec.trans (by rw [hx]))).trans (E5 _ _ _)
     rw [htk] at hb
     unfold nmP at hnm
     simp only [Bool.and_eq_true] at hnm
     rcases List.mem_cons.1 hb with rfl | hb
     ·exact ⟨by decide,by decide⟩
     rcases List.mem_cons.1 hb with rfl | hb
     ·exact ⟨by decide,by decide⟩
     rcases List.mem_append.1 hb with hb | hb
     ·have:=List.all_eq_true.1 hnm.1.1 b hb
      simp [uo] at this
      unfold Ce
      omega
     ·rw [List.mem_singleton] at hb
      subst hb
      subst hx125
      exact ⟨by decide,by decide⟩
    ·intro b hb; rw [List.take_zero] at hb; cases hb
   ·intro b hb; rw [List.take_zero] at hb; cases hb
 ·intro b hb; rw [List.take_zero] at hb; cases hb
end Go.Vm
