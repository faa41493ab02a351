import Derived.Test.YtihpjgcbmipdbaaGreatDoorPj7
import Derived.Test.YtihpjgcbmipdbaaGreatDoorPj11
import Derived.Test.YtihpjgcbmipdbaaGreatDoorFadmit
import Derived.Test.YtihpjgcbmipdbaaGreatDoorPk3
import Derived.Test.YtihpjgcbmipdbaaGreatDoorFcanon
import Derived.Test.YtihpjgcbmipdbaaGreatDoorFref5
import Derived.Test.YtihpjgcbmipdbaaGreatDoorFcanonr
import Derived.Test.YtihpjgcbmipdbaaGreatDoorFlaw23
import Derived.Test.YtihpjgcbmipdbaaGreatDoorPr8
/- JSON: a value's text with a blank behind it has the same value. No condition. -/
namespace Go.Vm
open Go.Lib (decodeL decDigits itoa)
set_option linter.unusedVariables false
set_option linter.unusedSimpArgs false
theorem AJ {r:By} (h:skp r ≠ []):skp (r ++ [32])=skp r ++ [32]:=by
 unfold skp at h ⊢
 rw [List.dropWhile_append,if_neg]
 intro hh
 exact h (List.isEmpty_iff.1 hh)
theorem Lj {r:By} (h:skp r = []):skp (r ++ [32]) = []:=by
 unfold skp at h ⊢
 rw [List.dropWhile_append,if_pos (by rw [h]; rfl)]
 rfl
theorem ou {r q:By} {c:UInt8} (h:skp r=c :: q):skp (r ++ [32])=c :: (q ++ [32]):=by
 rw [AJ (by rw [h]; simp),h]
 rfl
theorem BZ {s:By} {n:Nat} (h:qh s=some n) (z:By):qh (s ++ z)=some n:=by
 obtain ⟨a,b,c,d,r,rfl⟩:=four_of' (qn h).2
 exact h
where
 four_of' {s:By} (h:4≤s.length) : ∃ a b c d r,s=a :: b :: c :: d :: r:=by
  match s,h with
  | a :: b :: c :: d :: r,_=>exact ⟨a,b,c,d,r,rfl⟩
theorem IE {n c k:Nat} {r:By} (h:sQ n r=some (c,k)) (z:By):sQ n (r ++ z)=some (c,k):=by
 unfold sQ at h
 split at h
 ·rename_i q
  obtain ⟨m,hm,h⟩:=Option.bind_eq_some_iff.1 h
  show (qh (q ++ z)).bind _ = _
  rw [BZ hm z]
  exact h
 ·cases h
theorem Jt {r:By} {c k:Nat} (h:tW r=some (c,k)) (z:By):tW (r ++ z)=some (c,k):=by
 unfold tW at h ⊢
 obtain ⟨n,hn,h⟩:=Option.bind_eq_some_iff.1 h
 rw [BZ hn z,Option.bind_some]
 have hl:=(qn hn).2
 by_cases c1:n<55296∨57343<n
 ·rw [if_pos c1] at h ⊢; exact h
 rw [if_neg c1] at h ⊢
 by_cases c2:56320≤n
 ·rw [if_pos c2] at h; cases h
 rw [if_neg c2] at h ⊢
 rw [List.drop_append_of_le_length hl]
 exact IE h z
theorem Jx {s:By} {c k:Nat} (h:qj s=some (c,k)) (z:By):qj (s ++ z)=some (c,k):=by
 cases s with
 | nil=>cases h
 | cons a r =>
  show (if a=34∨a=92∨a=47 then some (a.toNat,2) else if a=98 then some (8,2) else if a=102 then some (12,2) else if a=110 then some (10,2) else if a=114 then some (13,2) else if a=116 then some (9,2) else if a=117 then tW (r ++ z) else none)=some (c,k)
  unfold qj at h
  simp only at h
  repeat' split at h
  all_goals first | (cases h; done) | skip
  all_goals simp_all
  exact Jt h z
theorem FK (s:By) : ∀ {t r:By},txt s=some (t,r)→txt (s ++ [32])=some (t,r ++ [32]):=by
 refine FN (p:=fun s => ∀ {t r:By},txt s=some (t,r)→txt (s ++ [32])=some (t,r ++ [32])) ?_ s
 intro s ih t r h
 cases s with
 | nil=>rw [vN] at h; cases h
 | cons c q =>
  rw [List.cons_append,mD]
  rw [mD] at h
  by_cases c1:c=34
  ·rw [if_pos c1] at h ⊢
   cases h
   rfl
  rw [if_neg c1] at h ⊢
  by_cases c2:c=92
  ·rw [if_pos c2] at h ⊢
   obtain ⟨⟨x,k⟩,hx,h⟩:=Option.bind_eq_some_iff.1 h
   obtain ⟨⟨t',r'⟩,hy,he⟩:=Option.map_eq_some_iff.1 h
   obtain ⟨_,k2,k3,_⟩:=Af hx
   rw [Jx hx [32],Option.bind_some]
   simp only at hy he ⊢
   have hd:(c :: (q ++ [32])).drop k=(c :: q).drop k ++ [32]:=by
    rw [← List.cons_append,List.drop_append_of_le_length (by rw [List.length_cons]; omega)]
   rw [hd,ih k (by omega) (by simp) hy]
   cases he
   rfl
  rw [if_neg c2] at h ⊢
  by_cases c3:(decodeL (c :: q)).1<32∨((decodeL (c :: q)).1=65533∧(decodeL (c :: q)).2=1)
  ·rw [if_pos c3] at h; cases h
  rw [if_neg c3] at h
  have hv : ¬ ((decodeL (c :: q)).1=65533∧(decodeL (c :: q)).2=1):=fun hh=>c3 (.inr hh)
  have he:=gM (c :: q) (by simp) hv
  have hok:=qu (c :: q)
  have hpos:=bQ (c :: q)
  have hle:(decodeL (c :: q)).2≤(c :: q).length:=Go.Lib.decodeL_le (c :: q) (by simp)
  have hsp:c :: (q ++ [32])=cH (decodeL (c :: q)).1 ++ ((c :: q).drop (decodeL (c :: q)).2 ++ [32]):=by
   rw [← he, ← List.append_assoc,List.take_append_drop]
   rfl
  have hlen:(cH (decodeL (c :: q)).1).length=(decodeL (c :: q)).2:=by rw [← he,List.length_take]; omega
  have hdec:decodeL (c :: (q ++ [32]))=decodeL (c :: q):=by
   conv=>lhs; rw [hsp]
   rw [sw _ hok,hlen]
  rw [hdec,if_neg c3]
  obtain ⟨⟨t',r'⟩,hy,hh⟩:=Option.map_eq_some_iff.1 h
  have hd:(c :: (q ++ [32])).drop (decodeL (c :: q)).2=(c :: q).drop (decodeL (c :: q)).2 ++ [32]:=by
   rw [← List.cons_append,List.drop_append_of_le_length hle]
  have ht:(c :: (q ++ [32])).take (decodeL (c :: q)).2=(c :: q).take (decodeL (c :: q)).2:=by
   rw [← List.cons_append,List.take_append_of_le_length hle]
  rw [hd,ht,ih _ hpos (by simp) hy]
  cases hh
  rfl
theorem Nd (s:By):(s ++ [32]).takeWhile bj=s.takeWhile bj:=by
 induction s with
 | nil=>rfl
 | cons c s ih =>
  rw [List.cons_append,List.takeWhile_cons,List.takeWhile_cons,ih]
theorem Cl (s:By):cW (s ++ [32])=cW s:=by
 cases s with
 | nil=>rfl
 | cons c s =>
  show (if c=48 then [48] else ((c :: s ++ [32]).takeWhile bj).take 15) = _
  rw [Nd]
  rfl
theorem JS {s r:By} {n:Int} (h:uc s=some (n,r)):uc (s ++ [32])=some (n,r ++ [32]):=by
 cases s with
 | nil=>cases h
 | cons c q =>
  show (if c=45 then (if cW (q ++ [32]) = [] then none else some (-(lF (cW (q ++ [32])):Int),(q ++ [32]).drop (cW (q ++ [32])).length)) else if cW (c :: q ++ [32]) = [] then none else some ((lF (cW (c :: q ++ [32])):Int),(c :: q ++ [32]).drop (cW (c :: q ++ [32])).length)) = _
  unfold uc at h
  simp only at h
  rw [Cl,Cl]
  split at h
  ·rename_i hc
   rw [if_pos hc]
   split at h
   ·cases h
   ·rename_i hd
    rw [if_neg hd]
    cases h
    rw [List.drop_append_of_le_length (lg q).2]
  ·rename_i hc
   rw [if_neg hc]
   split at h
   ·cases h
   ·rename_i hd
    rw [if_neg hd]
    cases h
    rw [List.drop_append_of_le_length (lg (c :: q)).2]
def JB (V:By→Except Nat (JV×By)):Prop:=(∀ s v r,V s = .ok (v,r)→V (s ++ [32]) = .ok (v,r ++ [32]))∧V [] = .error 3
theorem xQ {s w:By} (hw : ∀ b∈w,b≠32):((s ++ [32]).take w.length=w) ↔ (s.take w.length=w):=by
 by_cases hl:w.length≤s.length
 ·rw [List.take_append_of_le_length hl]
 ·constructor
  ·intro h
   rw [List.take_of_length_le (by rw [List.length_append,List.length_singleton]; omega)] at h
   exact absurd rfl (hw 32 (by rw [← h]; simp))
  ·intro h
   have:=congrArg List.length h
   rw [List.length_take] at this
   omega
theorem FO (V:By→Except Nat (JV×By)) (hV:JB V) : ∀ (n m:Nat) (s:By) (l:List JV) (r:By),n≤m→o6 V n s = .ok (l,r)→o6 V m (s ++ [32]) = .ok (l,r ++ [32])
 | 0,m,s,l,r,hm,h=>by unfold o6 at h; cases h
 | n+1,0,s,l,r,hm,h=>by omega
 | n+1,m+1,s,l,r,hm,h=>by
  unfold o6 at h ⊢
  cases hv:V s with
  | error e=>rw [hv] at h; cases h
  | ok x =>
   obtain ⟨v,q⟩:=x
   rw [hv] at h
   rw [hV.1 _ _ _ hv]
   simp only at h ⊢
   split at h
   ·rename_i r' hr'
    rw [ou hr']
    simp only
    cases hl:o6 V n r' with
    | error e=>rw [hl] at h; cases h
    | ok y =>
     obtain ⟨l',r''⟩:=y
     rw [hl] at h
     cases h
     rw [FO V hV n m _ _ _ (by omega) hl]
   ·rename_i r' hr'
    rw [ou hr']
    cases h
    rfl
   ·cases h
theorem FC (V:By→Except Nat (JV×By)) (hV:JB V) : ∀ (n m:Nat) (acc:List Me) (s:By) (l:List Me) (r:By),n≤m→rS V n acc s = .ok (l,r)→rS V m acc (s ++ [32]) = .ok (l,r ++ [32])
 | 0,m,acc,s,l,r,hm,h=>by unfold rS at h; cases h
 | n+1,0,acc,s,l,r,hm,h=>by omega
 | n+1,m+1,acc,s,l,r,hm,h=>by
  unfold rS at h ⊢
  split at h
  ·rename_i q hq
   rw [ou hq]
   simp only
   cases ht:txt q with
   | none=>rw [ht] at h; cases h
   | some y =>
    obtain ⟨name,q2⟩:=y
    rw [ht] at h
    rw [FK q ht]
    simp only at h ⊢
    split at h
    ·cases h
    ·rename_i hany
     rw [if_neg hany]
     split at h
     ·rename_i q3 hq3
      rw [ou hq3]
      simp only
      cases hv:V q3 with
      | error e=>rw [hv] at h; cases h
      | ok x =>
       obtain ⟨v,q4⟩:=x
       rw [hv] at h
       rw [hV.1 _ _ _ hv]
       simp only at h ⊢
       split at h
       ·rename_i q5 hq5
        rw [ou hq5]
        exact FC V hV n m _ _ _ _ (by omega) h
       ·rename_i q5 hq5
        rw [ou hq5]
        cases h
        rfl
       ·cases h
     ·cases h
  ·cases h
theorem C9 (V:Option (By→Except Nat (JV×By))) (hV : ∀ W,V=some W→JB W):JB (tO V):=by
 refine ⟨?_,rfl⟩
 intro s v r h
 unfold tO at h ⊢
 cases hs:skp s with
 | nil=>rw [hs] at h; cases h
 | cons c q =>
  rw [hs] at h
  rw [ou hs]
  simp only at h ⊢
  by_cases c1:c=123
  ·rw [if_pos c1] at h ⊢
   cases V with
   | none=>cases h
   | some W =>
    simp only at h ⊢
    split at h
    ·rename_i r' hr'
     rw [ou hr']
     cases h
     rfl
    ·rename_i hne
     cases hq:rS W ((skp q).length+1) [] (skp q) with
     | error e=>rw [hq] at h; cases h
     | ok y =>
      obtain ⟨l,r'⟩:=y
      rw [hq] at h
      cases h
      have hn:skp q ≠ []:=by
       intro e
       rw [e] at hq
       unfold rS at hq
       cases hq
      rw [AJ hn]
      split
      ·rename_i q' hq'
       cases hc:skp q with
       | nil=>exact absurd hc hn
       | cons a b =>
        rw [hc] at hq'
        injection hq' with e1 _
        subst e1
        exact absurd hc (hne b)
      ·have hap:=FC W (hV W rfl) _ ((skp q ++ [32]).length+1) _ _ _ _ (by rw [List.length_append]; omega) hq
       rw [hap]
  rw [if_neg c1] at h ⊢
  by_cases c2:c=91
  ·rw [if_pos c2] at h ⊢
   cases V with
   | none=>cases h
   | some W =>
    simp only at h ⊢
    split at h
    ·rename_i r' hr'
     rw [ou hr']
     cases h
     rfl
    ·rename_i hne
     cases hq:o6 W ((skp q).length+1) (skp q) with
     | error e=>rw [hq] at h; cases h
     | ok y =>
      obtain ⟨l,r'⟩:=y
      rw [hq] at h
      cases h
      have hap:=FO W (hV W rfl) _ ((skp q ++ [32]).length+1) _ _ _ (by rw [List.length_append]; omega) hq
      have hn:skp q ≠ []:=by
       intro e
       rw [e] at hq
       unfold o6 at hq
       rw [(hV W rfl).2] at hq
       cases hq
      rw [AJ hn]
      split
      ·rename_i q' hq'
       cases hc:skp q with
       | nil=>exact absurd hc hn
       | cons a b =>
        rw [hc] at hq'
        injection hq' with e1 _
        subst e1
        exact absurd hc (hne b)
      ·rw [hap]
  rw [if_neg c2] at h ⊢
  by_cases c3:c=34
  ·rw [if_pos c3] at h ⊢
   cases ht:txt q with
   | none=>rw [ht] at h; cases h
   | some y =>
    obtain ⟨t,r'⟩:=y
    rw [ht] at h
    rw [FK q ht]
    cases h
    rfl
  rw [if_neg c3] at h ⊢
  have e1:=xQ (s:=c :: q) (w := [110,117,108,108]) (by decide)
  have e2:=xQ (s:=c :: q) (w := [116,114,117,101]) (by decide)
  have e3:=xQ (s:=c :: q) (w := [102,97,108,115,101]) (by decide)
  simp only [List.cons_append,List.length_cons,List.length_nil,Nat.zero_add,Nat.reduceAdd] at e1 e2 e3
  have ln : ∀ (w:By) (k:Nat),(c :: q).take w.length=w→k+1=w.length→k≤q.length:=by
   intro w k hw hk
   have:=congrArg List.length hw
   rw [List.length_take,List.length_cons] at this
   omega
  by_cases c4:(c :: q).take 4 = [110,117,108,108]
  ·rw [if_pos c4] at h
   rw [if_pos (e1.2 c4)]
   cases h
   rw [List.drop_append_of_le_length (ln [110,117,108,108] 3 c4 rfl)]
  rw [if_neg c4] at h
  rw [if_neg (fun hh=>c4 (e1.1 hh))]
  by_cases c5:(c :: q).take 4 = [116,114,117,101]
  ·rw [if_pos c5] at h
   rw [if_pos (e2.2 c5)]
   cases h
   rw [List.drop_append_of_le_length (ln [116,114,117,101] 3 c5 rfl)]
  rw [if_neg c5] at h
  rw [if_neg (fun hh=>c5 (e2.1 hh))]
  by_cases c6:(c :: q).take 5 = [102,97,108,115,101]
  ·rw [if_pos c6] at h
   rw [if_pos (e3.2 c6)]
   cases h
   rw [List.drop_append_of_le_length (ln [102,97,108,115,101] 4 c6 rfl)]
  rw [if_neg c6] at h
  rw [if_neg (fun hh=>c6 (e3.1 hh))]
  cases hn:uc (c :: q) with
  | none=>rw [hn] at h; cases h
  | some y =>
   obtain ⟨n,r'⟩:=y
   rw [hn] at h
   rw [← List.cons_append,JS hn]
   cases h
   rfl
theorem BO : ∀ d,JB (ko d)
 | 0=>C9 none (fun W h=>by cases h)
 | d+1=>C9 (some (ko d)) (fun W h=>by cases h; exact BO d)
theorem IX (d:Nat) (s:By):ko d (32 :: s)=ko d s:=by
 cases d with
 | zero =>
  show tO none (32 :: s)=tO none s
  unfold tO
  rw [show skp (32 :: s)=skp s from rfl]
 | succ d =>
  show tO (some (ko d)) (32 :: s)=tO (some (ko d)) s
  unfold tO
  rw [show skp (32 :: s)=skp s from rfl]
theorem Cw {s:By} {v:JV} (h:rY s = .ok v) (hl:s.length≤398):rY (32 :: (s ++ [32])) = .ok v:=by
 unfold rY at h ⊢
 rw [if_neg (by omega)] at h
 rw [if_neg (by rw [List.length_cons,List.length_append,List.length_singleton]; omega),IX]
 cases hv:ko 8 s with
 | error e=>rw [hv] at h; cases h
 | ok x =>
  obtain ⟨v',r⟩:=x
  rw [hv] at h
  rw [(BO 8).1 _ _ _ hv]
  simp only at h ⊢
  split at h
  ·rename_i hr
   rw [if_pos (Lj hr)]
   exact h
  ·cases h
end Go.Vm
/- JSON: the program's Form is the plain one. No condition but on lengths. -/
namespace Go.Vm
set_option linter.unusedVariables false
set_option linter.unusedSimpArgs false
theorem K2 (s:By) (hs:s.length≤1000):ae (fun F=>l9 F s) (jq s):=by
 unfold l9 jq
 refine ae.bind (Ma s hs) ?_
 cases h:rY s with
 | error e =>
  have:=Ae h hs
  exact ae.pos (by simpa using this) (.ret _)
 | ok v =>
  obtain ⟨h1,h2,h3⟩:=MI h
  refine ae.neg (by simp) ?_
  refine ae.bind (Oc 8 v [] h1 (by simp; omega)) ?_
  exact .ret _
end Go.Vm
/- Keys: plain. No condition. -/
namespace Go.Vm
open Go Go.Proofs
set_option linter.unusedVariables false
/-! ### keys -/
def AN (r:Int):Bool:=decide (gq r=2∨gq r=3∨r=45∨r=95∨r=46)
def yA (l:List Int):Unit ⊕ (Bool×Unit):=if l.all AN=true then .inl () else .inr (false,())
def yd (s:B8):Bool:=if s = []∨24<s.length then false else ((de s).map (·.1)).all AN
theorem Nw {n:Int} {l:List Int} (h:AN n=true):yA (n :: l)=yA l:=by
 unfold yA
 rw [List.all_cons,h,Bool.true_and]
theorem MA {n:Int} {l:List Int} (h : ¬ AN n=true):yA (n :: l) = .inr (false,()):=by
 unfold yA
 rw [List.all_cons,Bool.eq_false_iff.2 h,Bool.false_and]
 rfl
theorem C1 (F:Nat) (s:B8) (p:Nat) (hp:p<s.length):eS F ((),(s,p),())=if AN (dA s p)=true then some (.inl ((),(s,p+runeLen s p),())) else some (.inr (.inr (false,()))):=by
 unfold eS
 refine (if_pos (by simpa using hp)).trans ?_
 simp only [Bv,Option.bind_some]
 generalize dA s p=r
 unfold AN
 by_cases h2:gq r=2
 ·simp [h2]
 by_cases h3:gq r=3
 ·simp [h3]
 by_cases h45:r=45
 ·subst h45; simp [h2,h3]
 by_cases h95:r=95
 ·subst h95; simp [h2,h3]
 by_cases h46:r=46
 ·subst h46; simp [h2,h3]
 simp [h2,h3,h45,h95,h46]
theorem I2 (s:B8) (p:Nat) (hp:p≤s.length):af eS ((),(s,p),()) (yA ((de (s.drop p)).map (·.1))):=by
 suffices hh : ∀ n p,p≤s.length→s.length - p≤n→af eS ((),(s,p),()) (yA ((de (s.drop p)).map (·.1))) from hh _ p hp (Nat.le_refl _)
 intro n
 induction n with
 | zero =>
  intro p hp hn
  refine af.fin (.of fun F => ?_)
  unfold eS
  refine (if_neg (by simp; omega)).trans ?_
  rw [List.drop_eq_nil_of_le (by omega),gO]
  rfl
 | succ n ih =>
  intro p hp hn
  by_cases hlt:p<s.length
  ·have hr:=mI s p
   have hl:=lE s p
   have hpos:=Go.Lib.decodeL_le (s.drop p)
   have h1:=bQ (s.drop p)
   rw [jG (qz hlt),List.map_cons]
   by_cases hk:AN ((Go.Lib.decodeL (s.drop p)).1:Int)=true
   ·have hb:yA (((Go.Lib.decodeL (s.drop p)).1:Int) :: (de ((s.drop p).drop (Go.Lib.decodeL (s.drop p)).2)).map (·.1))=yA ((de (s.drop (p+(Go.Lib.decodeL (s.drop p)).2))).map (·.1)):=by
     rw [Nw hk,tU]
    rw [hb]
    refine af.step (.of fun F => ?_) (ih (p+(Go.Lib.decodeL (s.drop p)).2) (zX hlt) (by omega))
    rw [C1 F s p hlt,hr,hl,if_pos hk]
   ·refine af.fin (.of fun F => ?_)
    rw [C1 F s p hlt,hr,if_neg hk,MA hk]
  ·have:p=s.length:=by omega
   subst this
   refine af.fin (.of fun F => ?_)
   unfold eS
   refine (if_neg (by simp)).trans ?_
   rw [List.drop_eq_nil_of_le (by omega),gO]
   rfl
theorem CA {s:B8} (h:s = []∨24<s.length):yd s=false:=by unfold yd; rw [if_pos h]
theorem K8 {s:B8} (h : ¬ (s = []∨24<s.length)):yd s=((de s).map (·.1)).all AN:=by unfold yd; rw [if_neg h]
theorem Hk (s:B8):ae (fun F=>l7 F s) (yd s):=by
 unfold l7
 by_cases h0:s = []
 ·rw [CA (.inl h0)]
  refine ae.bind (r:=(s,true,())) (.of fun F=>if_neg (by simpa using h0)) (ae.pos rfl (.ret _))
 by_cases h8:24<s.length
 ·rw [CA (.inr h8)]
  refine ae.bind (r:=(s,true,())) (.of fun F=>(if_pos (by simpa using h0)).trans ?_) (ae.pos rfl (.ret _))
  rw [decide_eq_true (by omega)]
 rw [K8 (by rintro (h | h) <;> contradiction)]
 refine ae.bind (r:=(s,false,())) (.of fun F=>(if_pos (by simpa using h0)).trans ?_) (ae.neg (by simp) ?_)
 ·rw [decide_eq_false (by omega)]
 have hl:=I2 s 0 (by omega)
 rw [List.drop_zero] at hl
 refine ae.bind hl.run ?_
 unfold yA
 cases hb:((de s).map (·.1)).all AN
 ·exact .ret _
 ·exact .ret _
end Go.Vm
/- Requests in their form: the program's and the document's are the plain one (cut out of the texts of canon). No condition. -/
namespace Go.Vm
open Go Go.Proofs
set_option linter.unusedVariables false
set_option linter.unusedSimpArgs false
/-! ### requests -/
abbrev Rq:Type:=Int×Int×Int×B8×B8×B8×B8×Unit
def tK:Rq:=(0,0,0,[],[],[],[],())
def wC (cl se te:Int) (key me pa bo:B8):Bool:=(cL me).2 && (dz pa).2 && decide (0≤te∧te≤3∧0≤cl∧cl≤3∧0≤se∧se≤1073741824) && yd key && decide (bo.length≤80)
def rqG (cl se te:Int) (key me pa bo:B8):Rq×Bool:=if wC cl se te key me pa bo=true then ((cl,se,te,key,(cL me).1,(dz pa).1,bo,()),true) else (tK,false)
theorem Np (cl se te:Int) (key me pa bo:B8):ae (fun F=>gd F (cl,se,te,key,me,pa,bo,())) (rqG cl se te key me pa bo):=by
 obtain ⟨m,a,hm⟩ : ∃ m a,cL me=(m,a):=⟨_,_,rfl⟩
 obtain ⟨p,b,hp⟩ : ∃ p b,dz pa=(p,b):=⟨_,_,rfl⟩
 have tm:=Et me
 have tp:=xK pa
 rw [hm] at tm
 rw [hp] at tp
 obtain ⟨c1,h1⟩ : ∃ c,c=decide (0≤te∧te<4):=⟨_,rfl⟩
 obtain ⟨c2,h2⟩ : ∃ c,c=(c1 && decide (0≤cl)):=⟨_,rfl⟩
 obtain ⟨c3,h3⟩ : ∃ c,c=(c2 && decide (cl<4)):=⟨_,rfl⟩
 obtain ⟨c4,h4⟩ : ∃ c,c=(c3 && decide (0≤se)):=⟨_,rfl⟩
 obtain ⟨c5,h5⟩ : ∃ c,c=(c4 && decide (se≤1073741824)):=⟨_,rfl⟩
 obtain ⟨g1,e1⟩ : ∃ c,c=(!a || !b):=⟨_,rfl⟩
 obtain ⟨g2,e2⟩ : ∃ c,c=(g1 || !c5):=⟨_,rfl⟩
 obtain ⟨g3,e3⟩ : ∃ c,c=(g2 || !yd key):=⟨_,rfl⟩
 obtain ⟨g4,e4⟩ : ∃ c,c=(g3 || decide (80<(bo.length:Int))):=⟨_,rfl⟩
 have hok:wC cl se te key me pa bo = !g4:=by
  unfold wC
  rw [hm,hp,e4,e3,e2,e1,h5,h4,h3,h2,h1]
  simp only
  rw [Bool.eq_iff_iff]
  simp only [Bool.and_eq_true,Bool.not_eq_true',decide_eq_true_eq,Bool.or_eq_false_iff,decide_eq_false_iff_not,Bool.not_eq_false']
  cases a <;> cases b <;> cases yd key <;> simp <;> omega
 unfold gd
 refine ae.bind tm (ae.bind tp ?_)
 refine ae.bind (r:=((),(),m,a,p,b,c1,(cl,se,te,key,me,pa,bo,()),tK,())) (.of fun F => ?_) ?_
 ·by_cases h:0≤te
  ·rw [if_pos (decide_eq_true h),h1]
   have:decide (te<4)=decide (0≤te∧te<4):=by simp [h]
   rw [← this]
   rfl
  ·rw [if_neg (by simpa using h),h1]
   have:decide (0≤te∧te<4)=false:=decide_eq_false (fun x=>h x.1)
   rw [this]
   rfl
 refine ae.bind (r:=((),(),m,a,p,b,c2,(cl,se,te,key,me,pa,bo,()),tK,())) (.of fun F=>by cases c1 <;> rw [h2] <;> rfl) ?_
 refine ae.bind (r:=((),(),m,a,p,b,c3,(cl,se,te,key,me,pa,bo,()),tK,())) (.of fun F=>by cases c2 <;> rw [h3] <;> rfl) ?_
 refine ae.bind (r:=((),(),m,a,p,b,c4,(cl,se,te,key,me,pa,bo,()),tK,())) (.of fun F=>by cases c3 <;> rw [h4] <;> rfl) ?_
 refine ae.bind (r:=((),(),m,a,p,b,c5,(cl,se,te,key,me,pa,bo,()),tK,())) (.of fun F=>by cases c4 <;> rw [h5] <;> rfl) ?_
 refine ae.bind (r:=((),(),m,p,c5,g1,(cl,se,te,key,me,pa,bo,()),tK,())) (.of fun F=>by cases a <;> rw [e1] <;> rfl) ?_
 refine ae.bind (r:=((),(),m,p,g2,(cl,se,te,key,me,pa,bo,()),tK,())) (.of fun F=>by cases g1 <;> rw [e2] <;> rfl) ?_
 refine ae.bind (r:=((),(),m,p,g3,(cl,se,te,key,me,pa,bo,()),tK,())) ?_ ?_
 ·cases g2
  ·rw [e3]
   exact ae.pos rfl (ae.bind (Hk key) (.ret _))
  ·rw [e3]
   exact ae.neg (by simp) (.ret _)
 refine ae.bind (r:=((),(),m,p,g4,(cl,se,te,key,me,pa,bo,()),tK,())) (.of fun F=>by cases g3 <;> rw [e4] <;> rfl) ?_
 unfold rqG
 rw [hok,hm,hp]
 cases g4
 ·exact ae.neg (by simp) (.ret _)
 ·exact ae.pos rfl (.ret _)
end Go.Vm
/- Requests looked at first: plainly. No condition but on lengths. -/
namespace Go.Vm
open Go.Proofs
set_option linter.unusedVariables false
set_option linter.unusedSimpArgs false
/-! ### a dot behind a path -/
theorem EZ (a b:By):aT (a ++ 47 :: b)=aT a ++ aT b:=by
 induction a with
 | nil=>rw [List.nil_append,lq,DS]; rfl
 | cons c a ih =>
  by_cases hc:c=47
  ·subst hc
   rw [List.cons_append,lq,lq,ih]
   rfl
  ·cases hs:aT a with
   | nil=>exact absurd hs (by rw [uV]; exact sk 47 a)
   | cons p ps =>
    rw [hs] at ih
    rw [List.cons_append,pA hc ih,pA hc hs]
    rfl
theorem zJ : ∀ (ps qs out:List By),dI (ps ++ qs) out=(dI ps out).bind fun o=>dI qs o
 | [],qs,out=>rfl
 | p :: ps,qs,out=>by
  have ih:=zJ ps qs
  rw [List.cons_append,dI,dI]
  split
  ·rfl
  split
  ·exact ih out
  split
  ·split
   ·rfl
   ·exact ih _
  ·exact ih _
theorem Gw:iJ [46]=([46],true):=by
 have h1:gu [46]=some [46]:=l8 [46] (by decide)
 rw [jN h1,uq [46] 60 (by decide) (by decide) (zY [46] (by decide))]
 rfl
theorem GS {p:By} (h:(dz p).2=true) : ∃ t,p=47 :: t:=by
 cases p with
 | nil=>cases h
 | cons c t =>
  by_cases hc:59<t.length∨c≠47
  ·rw [iK hc] at h; cases h
  ·have:c=47:=by
    by_cases e:c=47
    ·exact e
    ·exact absurd (.inr e) hc
   exact ⟨t,by rw [this]⟩
theorem Jm {p:By} (h:(dz p).2=true) (hl:p.length≤58):dz (p ++ [47,46])=dz p:=by
 obtain ⟨t,rfl⟩:=GS h
 rw [List.length_cons] at hl
 rw [ic (by omega)] at h
 rw [List.cons_append,ic (by rw [List.length_append]; show ¬ 59<t.length+2; omega),ic (by omega),EZ,zJ]
 cases hw:dI (aT t) [] with
 | none=>rfl
 | some o =>
  have e:aT [46] = [[46]]:=by decide
  rw [Option.bind_some,e,dI,Gw,if_neg (by decide),if_pos (.inr rfl)]
  rfl
/-! ### what is judged -/
def eY (b:By):By:=if (jq b).2=0 then (jq b).1 else b
def rq4 (r:Rq) (b:By):Rq×Bool:=rqG r.1 r.2.1 r.2.2.1 r.2.2.2.1 r.2.2.2.2.1 r.2.2.2.2.2.1 b
abbrev Rq.key (r:Rq):By:=r.2.2.2.1
abbrev Rq.me (r:Rq):By:=r.2.2.2.2.1
abbrev Rq.pa (r:Rq):By:=r.2.2.2.2.2.1
abbrev Rq.bo (r:Rq):By:=r.2.2.2.2.2.2.1
def iL (l:List RlT) (m s:By):Option (List PhT):=if dM l m s<0 then none else (l[(dM l m s).toNat]?).map (·.2.2.1)
def nz (r:Rq) (l:List RlT):Rq×List PhT×Int :=
 if 80<r.bo.length then (tK,[],413) else
 if (rq4 r (eY r.bo)).2=false then (tK,[],400) else
 match iL l (rq4 r (eY r.bo)).1.me (rq4 r (eY r.bo)).1.pa with
 | none=>(tK,[],400)
 | some p=>((rq4 r (eY r.bo)).1,p,0)
theorem Ij {r:Rq} {b:By} (h:(rq4 r b).2=true):(cL r.me).2=true∧(dz r.pa).2=true∧(rq4 r b).1=(r.1,r.2.1,r.2.2.1,r.key,(cL r.me).1,(dz r.pa).1,b,()):=by
 unfold rq4 rqG at h ⊢
 split at h
 ·rename_i hk
  rw [if_pos hk]
  unfold wC at hk
  simp only [Bool.and_eq_true] at hk
  exact ⟨hk.1.1.1.1,hk.1.1.1.2,rfl⟩
 ·cases h
theorem BM {b:By} (h:(jq b).2=0) (hl:b.length≤78):jq (32 :: (b ++ [32]))=jq b:=by
 unfold jq at h ⊢
 cases ha:rY b with
 | error e =>
  rw [ha] at h
  exact absurd h (by have:=Ae ha (by omega); simpa using this)
 | ok v=>rw [Cw ha (by omega)]
def p9 (r:Rq) (b:Bool):Rq :=
 (r.1,r.2.1,r.2.2.1,r.key,(if (cL r.me).2=true then (cL r.me).1 else r.me),(if (dz r.pa).2=true then r.pa ++ [47,46] else r.pa),(if b=true then 32 :: (r.bo ++ [32]) else r.bo),())
theorem Kc (r:Rq) (l:List RlT) (b:Bool) (hp:r.pa.length≤58) (hb:r.bo.length≤78) (hf:b=true→(jq r.bo).2=0):nz (p9 r b) l=nz r l:=by
 have hbo:eY (p9 r b).bo=eY r.bo:=by
  show eY (if b=true then 32 :: (r.bo ++ [32]) else r.bo) = _
  cases b with
  | false=>rfl
  | true =>
   rw [if_pos rfl]
   unfold eY
   rw [BM (hf rfl) hb,if_pos (hf rfl),if_pos (hf rfl)]
 have hm:cL (p9 r b).me=cL r.me:=by
  show cL (if (cL r.me).2=true then (cL r.me).1 else r.me) = _
  by_cases h:(cL r.me).2=true
  ·rw [if_pos h,CL _ h, ← h]
  ·rw [if_neg h]
 have hpa:dz (p9 r b).pa=dz r.pa:=by
  show dz (if (dz r.pa).2=true then r.pa ++ [47,46] else r.pa) = _
  by_cases h:(dz r.pa).2=true
  ·rw [if_pos h,Jm h hp]
  ·rw [if_neg h]
 have hr:rq4 (p9 r b) (eY r.bo)=rq4 r (eY r.bo):=by
  unfold rq4 rqG wC
  have hm':cL (p9 r b).2.2.2.2.1=cL r.2.2.2.2.1:=hm
  have hp':dz (p9 r b).2.2.2.2.2.1=dz r.2.2.2.2.2.1:=hpa
  rw [hm',hp']
  rfl
 have hl : ¬ 80<(p9 r b).bo.length:=by
  show ¬ 80<(if b=true then 32 :: (r.bo ++ [32]) else r.bo).length
  split
  ·rw [List.length_cons,List.length_append,List.length_singleton]; omega
  ·omega
 unfold nz
 rw [if_neg hl,hbo,hr,if_neg (show ¬ 80<r.bo.length by omega)]
/-! ### the standard table -/
abbrev vG:By := [80,85,84]
theorem IY:dM lJ jB (47 :: fO)=0:=by
 have f0:ia (jB,47 :: fO,s7,()) jB (47 :: fO)=true:=by
  have:wL (aX (47 :: fO)) (aX (47 :: fO))=true:=by decide
  unfold ia oy
  simp only [this,FY,B6,Bool.and_true]
  decide
 unfold dM lJ ly
 rw [f0,if_pos rfl]
 rfl
theorem Ip:dM lJ vG (47 :: fO) = -1:=by
 have f0:ia (jB,47 :: fO,s7,()) vG (47 :: fO)=false:=by
  have:(decide (jB=vG) || decide (jB = [42]))=false:=by decide
  unfold ia
  simp only [this,Bool.false_and]
 have f1:ia (jB,47 :: (uJ ++ [47,42]),Cd,()) vG (47 :: fO)=false:=by
  have:(decide (jB=vG) || decide (jB = [42]))=false:=by decide
  unfold ia
  simp only [this,Bool.false_and]
 have f2:ia (JW,[47,42,42],CF,()) vG (47 :: fO)=false:=by
  have:(decide (JW=vG) || decide (JW = [42]))=false:=by decide
  unfold ia
  simp only [this,Bool.false_and]
 unfold dM lJ ly
 rw [f0,if_neg Bool.false_ne_true]
 unfold ly
 rw [f1,if_neg Bool.false_ne_true]
 unfold ly
 rw [f2,if_neg Bool.false_ne_true]
 rfl
end Go.Vm
