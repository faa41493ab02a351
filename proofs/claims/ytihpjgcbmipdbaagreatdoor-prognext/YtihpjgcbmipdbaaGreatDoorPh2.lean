/- Phrases, plainly: pieces sign by sign are the pieces byte by byte. No condition. -/
import Derived.Test.YtihpjgcbmipdbaaGreatDoorPh1
namespace Go.Vm
open Go.Lib (decodeL decodeN decodeL_N decode_N decodeN_shape decodeL_le)
set_option linter.unusedVariables false
set_option linter.unusedSimpArgs false
abbrev Pc:=Bool×B8×Unit
def Bl:Nat→By→Option (List Pc)
 | 0,_=>some []
 | n+1,s=>match s with
  | []=>some []
  | c :: r=>if bA ((decodeL s).1:Int)=0 then none else if c=37 then (if bM s=0 then none else (Bl n (s.drop (bM s))).map fun l=>(true,s.take (bM s),()) :: l)
   else (Bl n (s.drop (decodeL s).2)).map fun l=>(false,s.take (decodeL s).2,()) :: l
def BZ:Nat→By→Option (List Pc)
 | 0,_=>some []
 | n+1,s=>match s with
  | []=>some []
  | c :: r=>if c=37 then (if bM s=0 then none else (BZ n (s.drop (bM s))).map fun l=>(true,s.take (bM s),()) :: l)
   else (BZ n r).map fun l=>(false,[c],()) :: l
def lG (s:By):Option (List Pc):=Bl s.length s
def oG (s:By):Option (List Pc):=BZ s.length s
def rM (s:By):Bool:=(bX s).all fun x=>decide (bA x.1≠0)
def yP (l:List Pc):List By:=(l.filter (·.1)).map (·.2.1)
def iq (val:By→By) (l:List Pc):By:=l.flatMap fun p=>if p.1=true then val p.2.1 else p.2.1
theorem p8 : ∀ (n m:Nat) (s:By),s.length≤n→s.length≤m→Bl n s=Bl m s
 | 0,0,s,h,h'=>rfl
 | 0,m+1,s,h,h'=>by
  obtain rfl:s = []:=List.length_eq_zero_iff.1 (by omega)
  rfl
 | n+1,0,s,h,h'=>by
  obtain rfl:s = []:=List.length_eq_zero_iff.1 (by omega)
  rfl
 | n+1,m+1,s,h,h'=>by
  cases s with
  | nil=>rfl
  | cons c r =>
   have hp:=bC (c :: r)
   simp only [List.length_cons] at h h'
   unfold Bl
   simp only
   split
   ·rfl
   split
   ·split
    ·rfl
    ·rename_i hg
     have h1:=lJ (c :: r)
     rw [p8 n m ((c :: r).drop (bM (c :: r))) (by simp; omega) (by simp; omega)]
   ·rw [p8 n m ((c :: r).drop (decodeL (c :: r)).2) (by simp; omega) (by simp; omega)]
theorem tg : ∀ (n m:Nat) (s:By),s.length≤n→s.length≤m→BZ n s=BZ m s
 | 0,0,s,h,h'=>rfl
 | 0,m+1,s,h,h'=>by
  obtain rfl:s = []:=List.length_eq_zero_iff.1 (by omega)
  rfl
 | n+1,0,s,h,h'=>by
  obtain rfl:s = []:=List.length_eq_zero_iff.1 (by omega)
  rfl
 | n+1,m+1,s,h,h'=>by
  cases s with
  | nil=>rfl
  | cons c r =>
   simp only [List.length_cons] at h h'
   unfold BZ
   simp only
   split
   ·split
    ·rfl
    ·rename_i hg
     have h1:=lJ (c :: r)
     rw [tg n m ((c :: r).drop (bM (c :: r))) (by simp; omega) (by simp; omega)]
   ·rw [tg n m r (by omega) (by omega)]
theorem rL:lG []=some []:=rfl
theorem r9:oG []=some []:=rfl
theorem tq (c:UInt8) (r:By):lG (c :: r)=if bA ((decodeL (c :: r)).1:Int)=0 then none else if c=37 then (if bM (c :: r)=0 then none else (lG ((c :: r).drop (bM (c :: r)))).map fun l=>(true,(c :: r).take (bM (c :: r)),()) :: l)
   else (lG ((c :: r).drop (decodeL (c :: r)).2)).map fun l=>(false,(c :: r).take (decodeL (c :: r)).2,()) :: l:=by
 have hp:=bC (c :: r)
 have h1:=lJ (c :: r)
 show Bl (r.length+1) (c :: r) = _
 unfold Bl lG
 simp only
 split
 ·rfl
 split
 ·split
  ·rfl
  ·rename_i hg
   rw [p8 r.length _ ((c :: r).drop (bM (c :: r))) (by simp; omega) (Nat.le_refl _)]
 ·rw [p8 r.length _ ((c :: r).drop (decodeL (c :: r)).2) (by simp; omega) (Nat.le_refl _)]
theorem pH (c:UInt8) (r:By):oG (c :: r)=if c=37 then (if bM (c :: r)=0 then none else (oG ((c :: r).drop (bM (c :: r)))).map fun l=>(true,(c :: r).take (bM (c :: r)),()) :: l)
   else (oG r).map fun l=>(false,[c],()) :: l:=by
 have h1:=lJ (c :: r)
 show BZ (r.length+1) (c :: r) = _
 unfold BZ oG
 simp only
 split
 ·split
  ·rfl
  ·rename_i hg
   rw [tg r.length _ ((c :: r).drop (bM (c :: r))) (by simp; omega) (Nat.le_refl _)]
 ·rfl
/-! ### signs of one byte -/
theorem r5 (c:UInt8) (h:c.toNat<128) (r:By):decodeL (c :: r)=(c.toNat,1):=by
 have:=we c.toNat (by unfold okR; omega) r
 have e:bw c.toNat = [c]:=by unfold bw; rw [if_pos h]; simp
 rw [e] at this
 exact this
theorem Gb (c:UInt8) (h:c.toNat<128) (r:By):bX (c :: r)=((c.toNat:Int),[c]) :: bX r:=by
 rw [gN (by simp),r5 c h]
 rfl
theorem AJ:rM []=true:=by unfold rM; rw [fF]; rfl
theorem tp {s:By} (h:s ≠ []):rM s=(decide (bA ((decodeL s).1:Int)≠0) && rM (s.drop (decodeL s).2)):=by
 unfold rM
 rw [gN h]
 rfl
theorem DG {b:UInt8} (h:Ce b):bA (b.toNat:Int)≠0:=by
 obtain ⟨h1,h2⟩:=h
 unfold bA
 rw [if_neg (by omega)]
 repeat' split
 all_goals decide
theorem Dy (n:Nat) : ∀ s:By,(∀ b∈s.take n,Ce b)→rM s=rM (s.drop n):=by
 induction n with
 | zero=>intro s h; rfl
 | succ n ih =>
  intro s h
  cases s with
  | nil=>rfl
  | cons c r =>
   have hc:Ce c:=h c (by simp)
   have hlt:c.toNat<128:=by have:=hc.2; omega
   rw [tp (by simp),r5 c hlt,List.drop_succ_cons]
   simp only [List.drop_succ_cons,List.drop_zero]
   rw [decide_eq_true (DG hc),Bool.true_and]
   exact ih r fun b hb=>h b (by simp only [List.take_succ_cons]; exact List.mem_cons_of_mem _ hb)
theorem Fi (c:UInt8) (r:By) (hs:bA ((decodeL (c :: r)).1:Int)≠0) (hc:c≠37) : ∀ b∈(c :: r).take (decodeL (c :: r)).2,b≠37:=by
 by_cases h:c.toNat<128
 ·rw [r5 c h]
  intro b hb
  simp only [List.take_succ_cons,List.take_zero,List.mem_singleton] at hb
  subst hb
  exact hc
 ·have hb : ¬ ((decodeL (c :: r)).1=65533∧(decodeL (c :: r)).2=1):=by
   rintro ⟨h1,_⟩
   rw [h1] at hs
   exact hs (by decide)
  rw [gV (c :: r) (by simp) hb]
  have hok:=mf (c :: r)
  have hbig : ¬ (decodeL (c :: r)).1<128:=by
   intro hlt
   have ht:=gV (c :: r) (by simp) hb
   have e:bw (decodeL (c :: r)).1 = [UInt8.ofNat (decodeL (c :: r)).1]:=by unfold bw; rw [if_pos hlt]
   rw [e] at ht
   have hp:=bC (c :: r)
   obtain ⟨k,hk⟩ : ∃ k,(decodeL (c :: r)).2=k+1:=⟨(decodeL (c :: r)).2 - 1,by omega⟩
   rw [hk,List.take_succ_cons] at ht
   injection ht with h1 _
   rw [h1] at h
   simp at h
   omega
  generalize (decodeL (c :: r)).1=D at hok hbig
  obtain ⟨o1,o2⟩:=hok
  have ne : ∀ k:Nat,128≤k→k<256→UInt8.ofNat k≠37:=by
   intro k h1 h2 hh
   have:=congrArg UInt8.toNat hh
   have e:(UInt8.ofNat k).toNat=k:=by simp; omega
   rw [e] at this
   have:(37:UInt8).toNat=37:=rfl
   omega
  intro b hb
  unfold bw at hb
  rw [if_neg hbig] at hb
  split at hb
  ·simp only [List.mem_cons,List.not_mem_nil,or_false] at hb
   rcases hb with rfl | rfl <;> exact ne _ (by omega) (by omega)
  split at hb
  ·simp only [List.mem_cons,List.not_mem_nil,or_false] at hb
   rcases hb with rfl | rfl | rfl <;> exact ne _ (by omega) (by omega)
  ·simp only [List.mem_cons,List.not_mem_nil,or_false] at hb
   rcases hb with rfl | rfl | rfl | rfl <;> exact ne _ (by omega) (by omega)
theorem H9 (n:Nat) : ∀ s:By,n≤s.length→(∀ b∈s.take n,b≠37)→oG s=(oG (s.drop n)).map fun l=>((s.take n).map fun b=>((false,[b],()):Pc)) ++ l:=by
 induction n with
 | zero =>
  intro s h hb
  rw [List.take_zero,List.drop_zero]
  cases oG s <;> rfl
 | succ n ih =>
  intro s h hb
  cases s with
  | nil=>simp at h
  | cons c r =>
   rw [pH,if_neg (hb c (by simp)),ih r (by simpa using h) (fun b hb'=>hb b (by simp only [List.take_succ_cons]; exact List.mem_cons_of_mem _ hb'))]
   rw [List.drop_succ_cons,List.take_succ_cons]
   cases oG (r.drop n) <;> rfl
theorem Cz (val:By→By) (l:By) (m:List Pc):iq val ((l.map fun b=>((false,[b],()):Pc)) ++ m)=l ++ iq val m:=by
 unfold iq
 rw [List.flatMap_append]
 congr 1
 induction l with
 | nil=>rfl
 | cons c l ih =>
  rw [List.map_cons,List.flatMap_cons,ih]
  rfl
theorem Cy (l:By) (m:List Pc):yP ((l.map fun b=>((false,[b],()):Pc)) ++ m)=yP m:=by
 unfold yP
 rw [List.filter_append]
 have:(l.map fun b=>((false,[b],()):Pc)).filter (·.1) = []:=by
  rw [List.filter_eq_nil_iff]
  intro x hx
  obtain ⟨b,_,rfl⟩:=List.mem_map.1 hx
  exact Bool.false_ne_true
 rw [this]
 rfl
theorem uD : ∀ (n:Nat) (s:By),s.length≤n→match lG s with
  | some l=>rM s=true ∧ ∃ m,oG s=some m∧yP l=yP m ∧ ∀ val,iq val l=iq val m
  | none=>rM s=false∨oG s=none
 | 0,s,h=>by
  obtain rfl:s = []:=List.length_eq_zero_iff.1 (by omega)
  exact ⟨AJ,[],rfl,rfl,fun _=>rfl⟩
 | n+1,s,h=>by
  cases s with
  | nil=>exact ⟨AJ,[],rfl,rfl,fun _=>rfl⟩
  | cons c r =>
   have hp:=bC (c :: r)
   have hle:=decodeL_le (c :: r) (by simp)
   simp only [List.length_cons] at h
   rw [tq]
   by_cases hs:bA ((decodeL (c :: r)).1:Int)=0
   ·rw [if_pos hs]
    refine .inl ?_
    rw [tp (by simp),decide_eq_false (fun hh=>hh hs),Bool.false_and]
   rw [if_neg hs]
   by_cases hc:c=37
   ·subst hc
    rw [if_pos rfl,pH,if_pos rfl]
    by_cases hg:bM (37 :: r)=0
    ·rw [if_pos hg,if_pos hg]
     exact .inr rfl
    ·rw [if_neg hg,if_neg hg]
     have ih:=uD n ((37 :: r:By).drop (bM (37 :: r))) (by rw [List.length_drop,List.length_cons]; omega)
     rw [Dy _ _ (vT r)]
     cases hx:lG ((37 :: r:By).drop (bM (37 :: r))) with
     | none =>
      rw [hx] at ih
      refine ih.imp id fun h => ?_
      rw [h]
      rfl
     | some l =>
      rw [hx] at ih
      obtain ⟨i1,m,i2,i3,i4⟩:=ih
      refine ⟨i1,_,by rw [i2]; rfl,?_,fun val => ?_⟩
      ·unfold yP at i3 ⊢
       simp only [List.filter_cons,if_true,List.map_cons]
       rw [i3]
      ·unfold iq at i4 ⊢
       rw [List.flatMap_cons,List.flatMap_cons,i4 val]
   ·rw [if_neg hc]
    have ih:=uD n ((c :: r).drop (decodeL (c :: r)).2) (by rw [List.length_drop,List.length_cons]; omega)
    have hsk:=H9 (decodeL (c :: r)).2 (c :: r) hle (Fi c r hs hc)
    rw [tp (by simp),decide_eq_true hs,Bool.true_and]
    cases hx:lG ((c :: r).drop (decodeL (c :: r)).2) with
    | none =>
     rw [hx] at ih
     refine ih.imp id fun h => ?_
     rw [hsk,h]
     rfl
    | some l =>
     rw [hx] at ih
     obtain ⟨i1,m,i2,i3,i4⟩:=ih
     refine ⟨i1,_,by rw [hsk,i2]; rfl,?_,fun val => ?_⟩
     ·rw [Cy, ← i3]
      rfl
     ·rw [Cz, ← i4 val]
      rfl
end Go.Vm
