/- Acts as lines, plainly: what is cut at blanks, what has a line, and the act that has just this line. No condition. -/
import Derived.Test.YtcnigpigmhpakaaGreatDoorPj6
namespace Go.Vm
open Go.Lib (decDigits itoa)
set_option linter.unusedVariables false
set_option linter.unusedSimpArgs false
def ey:Bool→Bool→By→By→List By
 | _,_,cur,[] => [cur]
 | o,true,cur,c :: s=>ey o false (cur ++ [c]) s
 | o,false,cur,c :: s =>
  if o=true∧c=92 then ey o true (cur ++ [c]) s
  else if c=34 then ey (!o) false (cur ++ [c]) s
  else if c=32∧o=false then cur :: ey false false [] s
  else ey o false (cur ++ [c]) s
def eA:Bool→Bool→By→By→By×By
 | _,_,cur,[]=>(cur,[])
 | o,true,cur,c :: s=>eA o false (cur ++ [c]) s
 | o,false,cur,c :: s =>
  if o=true∧c=92 then eA o true (cur ++ [c]) s
  else if c=34 then eA (!o) false (cur ++ [c]) s
  else if c=32∧o=false then (cur,s)
  else eA o false (cur ++ [c]) s
def eM:List By→By
 | [] => []
 | [p]=>p
 | p :: q :: r=>p ++ 32 :: eM (q :: r)
def Clo (p:By):Prop:=(∀ cur s,ey false false cur (p ++ s)=ey false false (cur ++ p) s)∧(∀ cur s,eA false false cur (p ++ s)=eA false false (cur ++ p) s)
def OCl (p:By):Prop:=(∀ cur s,ey true false cur (p ++ s)=ey true false (cur ++ p) s)∧(∀ cur s,eA true false cur (p ++ s)=eA true false (cur ++ p) s)
theorem Clo.nil:Clo []:=⟨fun cur s=>by simp,fun cur s=>by simp⟩
theorem OCl.nil:OCl []:=⟨fun cur s=>by simp,fun cur s=>by simp⟩
theorem OCl.app {p q:By} (h:OCl p) (h':OCl q):OCl (p ++ q) :=
 ⟨fun cur s=>by rw [List.append_assoc,h.1,h'.1,List.append_assoc],fun cur s=>by rw [List.append_assoc,h.2,h'.2,List.append_assoc]⟩
theorem Clo.app {p q:By} (h:Clo p) (h':Clo q):Clo (p ++ q) :=
 ⟨fun cur s=>by rw [List.append_assoc,h.1,h'.1,List.append_assoc],fun cur s=>by rw [List.append_assoc,h.2,h'.2,List.append_assoc]⟩
theorem Clo.one {c:UInt8} (h:c≠34) (h':c≠32):Clo [c]:=by
 constructor <;> intro cur s
 ·show ey false false cur (c :: s) = _
  rw [ey,if_neg (fun x=>Bool.noConfusion x.1),if_neg h,if_neg (fun x=>h' x.1)]
 ·show eA false false cur (c :: s) = _
  rw [eA,if_neg (fun x=>Bool.noConfusion x.1),if_neg h,if_neg (fun x=>h' x.1)]
theorem Clo.all : ∀ {p:By},(∀ c∈p,c≠34∧c≠32)→Clo p
 | [],_=>Clo.nil
 | c :: p,h=>Clo.app (p := [c]) (Clo.one (h c List.mem_cons_self).1 (h c List.mem_cons_self).2) (Clo.all fun d hd=>h d (List.mem_cons_of_mem _ hd))
theorem OCl.one {c:UInt8} (h:c≠92) (h':c≠34):OCl [c]:=by
 constructor <;> intro cur s
 ·show ey true false cur (c :: s) = _
  rw [ey,if_neg (fun x=>h x.2),if_neg h',if_neg (fun x=>Bool.noConfusion x.2)]
 ·show eA true false cur (c :: s) = _
  rw [eA,if_neg (fun x=>h x.2),if_neg h',if_neg (fun x=>Bool.noConfusion x.2)]
theorem OCl.two (c:UInt8):OCl [92,c]:=by
 constructor <;> intro cur s
 ·show ey true false cur (92 :: c :: s) = _
  rw [ey,if_pos ⟨rfl,rfl⟩,ey,List.append_assoc]; rfl
 ·show eA true false cur (92 :: c :: s) = _
  rw [eA,if_pos ⟨rfl,rfl⟩,eA,List.append_assoc]; rfl
theorem wS : ∀ n:Fin 16,oF n.val≠92∧oF n.val≠34:=by decide
theorem G7 (c:UInt8):OCl (kT c):=by
 unfold kT
 split
 ·exact OCl.two c
 split
 ·exact OCl.two _
 split
 ·exact OCl.two _
 split
 ·exact OCl.two _
 split
 ·exact OCl.two _
 split
 ·exact OCl.two _
 split
 ·rename_i h
  have h1:=wS ⟨c.toNat / 16,by omega⟩
  have h2:=wS ⟨c.toNat % 16,by omega⟩
  exact OCl.app (p := [92,117]) (OCl.two _) (OCl.app (p := [48]) (OCl.one (by decide) (by decide)) (OCl.app (p := [48]) (OCl.one (by decide) (by decide)) (OCl.app (p := [_]) (OCl.one h1.1 h1.2) (OCl.one h2.1 h2.2))))
 ·rename_i h _ _ _ _ _ _
  exact OCl.one (fun e=>h (.inr e)) (fun e=>h (.inl e))
theorem zO : ∀ t:By,OCl (fS t)
 | []=>OCl.nil
 | c :: t=>OCl.app (p:=kT c) (G7 c) (zO t)
theorem IP (t:By):Clo (quo t):=by
 have h:=zO t
 constructor <;> intro cur s
 ·show ey false false cur (34 :: ((fS t ++ [34]) ++ s)) = _
  rw [ey,if_neg (fun x=>Bool.noConfusion x.1),if_pos rfl,List.append_assoc]
  show ey true false _ _ = _
  rw [h.1]
  show ey true false _ (34 :: s) = _
  rw [ey,if_neg (fun x=>absurd x.2 (by decide)),if_pos rfl]
  show ey false false _ _ = _
  simp [quo,List.append_assoc]
 ·show eA false false cur (34 :: ((fS t ++ [34]) ++ s)) = _
  rw [eA,if_neg (fun x=>Bool.noConfusion x.1),if_pos rfl,List.append_assoc]
  show eA true false _ _ = _
  rw [h.2]
  show eA true false _ (34 :: s) = _
  rw [eA,if_neg (fun x=>absurd x.2 (by decide)),if_pos rfl]
  show eA false false _ _ = _
  simp [quo,List.append_assoc]
theorem zC (n:Int):Clo (itoa n):=by
 apply Clo.all
 have hd : ∀ c:UInt8,bj c=true→c≠34∧c≠32:=by
  intro c hc
  constructor <;> (rintro rfl; exact absurd hc (by decide))
 intro c hc
 unfold itoa at hc
 split at hc
 ·rcases List.mem_cons.1 hc with rfl | hc
  ·decide
  ·exact hd c ((iM n.natAbs).1 c hc)
 ·exact hd c ((iM n.toNat).1 c hc)
theorem Kb (cur s:By):ey false false cur (32 :: s)=cur :: ey false false [] s:=by
 rw [ey,if_neg (fun x=>Bool.noConfusion x.1),if_neg (by decide),if_pos ⟨rfl,rfl⟩]
theorem JG (cur s:By):eA false false cur (32 :: s)=(cur,s):=by
 rw [eA,if_neg (fun x=>Bool.noConfusion x.1),if_neg (by decide),if_pos ⟨rfl,rfl⟩]
theorem uo : ∀ ps:List By,ps ≠ []→(∀ p∈ps,Clo p)→ey false false [] (eM ps)=ps
 | [],h,_=>absurd rfl h
 | [p],_,h=>by
  have:=(h p List.mem_cons_self).1 [] []
  rw [List.append_nil,List.nil_append] at this
  show ey false false [] p = [p]
  rw [this]; rfl
 | p :: q :: r,_,h=>by
  show ey false false [] (p ++ 32 :: eM (q :: r)) = _
  rw [(h p List.mem_cons_self).1,Kb,List.nil_append,uo (q :: r) (by simp) fun x hx=>h x (List.mem_cons_of_mem _ hx)]
def oz:Nat→By→List By
 | 0,_ => []
 | f+1,s=>if s = [] then [] else (eA false false [] s).1 :: oz f (eA false false [] s).2
theorem zP {p:By} {ps:List By} (h:Clo p):eA false false [] (eM (p :: ps))=(p,eM ps):=by
 cases ps with
 | nil =>
  have:=h.2 [] []
  rw [List.append_nil,List.nil_append] at this
  show eA false false [] p = _
  rw [this]; rfl
 | cons q r =>
  show eA false false [] (p ++ 32 :: eM (q :: r)) = _
  rw [h.2,JG,List.nil_append]
theorem Ey {p:By} {ps:List By} (h:p ≠ []):eM (p :: ps) ≠ []:=by
 cases ps with
 | nil=>exact h
 | cons q r =>
  show p ++ _ ≠ []
  intro e
  exact h (List.append_eq_nil_iff.1 e).1
theorem AQ : ∀ (f:Nat) (ps:List By),ps.length≤f→(∀ p∈ps,Clo p∧p ≠ [])→oz f (eM ps)=ps
 | 0,[],_,_=>rfl
 | 0,p :: ps,h,_=>by simp at h
 | f+1,[],_,_=>by
  show (if ([]:By) = [] then ([]:List By) else _) = []
  exact if_pos rfl
 | f+1,p :: ps,hl,h=>by
  have hp:=h p List.mem_cons_self
  unfold oz
  rw [if_neg (Ey hp.2),zP hp.1,AQ f ps (by simp at hl; omega) fun x hx=>h x (List.mem_cons_of_mem _ hx)]
structure di where
 kind:Int
 a:Int
 b:Int
 c:Int
 client:Int
 serial:Int
 tenant:Int
 key:By
 method:By
 path:By
 body:By
deriving DecidableEq
def aH:List By := [[115,101,110,100],[100,101,108,105,118,101,114],[108,111,115,101],[116,119,105,99,101],[116,105,99,107],[119,111,114,107],[99,114,97,115,104],[115,116,97,114,116],[100,105,115,107],[114,111,116],[98,97,99,107,101,110,100],[115,119,101,101,112],[115,121,110,99],[102,117,115,101]]
def bn (k:Nat):Nat:=if k=9 then 3 else if k=13 then 2 else if k=7∨k=11∨k=12 then 0 else 1
def okI (n:Int):Bool:=decide (-1000000000000000<n) && decide (n<1000000000000000)
def dB (rt:By→Bool) (t:By):Bool:=rt t && decide (t.length≤400) && decide ((quo t).length≤400)
def ew (rt:By→Bool) (x:di):Bool :=
 decide (0≤x.kind) && decide (x.kind<14) && okI x.a && okI x.b && okI x.c
  && (decide (3≤bn x.kind.toNat) || decide (x.c=0)) && (decide (2≤bn x.kind.toNat) || decide (x.b=0)) && (decide (1≤bn x.kind.toNat) || decide (x.a=0))
  && decide (x.client=0) && decide (x.serial=0)
  && (if x.kind=0 then okI x.tenant && dB rt x.key && dB rt x.method && dB rt x.path && dB rt x.body
      else decide (x.tenant=0) && decide (x.key = []) && decide (x.method = []) && decide (x.path = []) && decide (x.body = []))
def dW (x:di):List By:=([x.a,x.b,x.c].take (bn x.kind.toNat)).map itoa ++ (if x.kind=0 then [itoa x.tenant,quo x.key,quo x.method,quo x.path,quo x.body] else [])
def aT (x:di):By:=eM (aH.getD x.kind.toNat [] :: dW x)
def lu (nv:By→Int) (tv:By→By) (k:Nat) (l:List By):di :=
 {kind:=k,a:=if 1≤bn k then nv (l.getD 0 []) else 0,b:=if 2≤bn k then nv (l.getD 1 []) else 0,c:=if 3≤bn k then nv (l.getD 2 []) else 0,client:=0,serial:=0,
  tenant:=if k=0 then nv (l.getD 1 []) else 0,key:=if k=0 then tv (l.getD 2 []) else [],method:=if k=0 then tv (l.getD 3 []) else [],path:=if k=0 then tv (l.getD 4 []) else [],body:=if k=0 then tv (l.getD 5 []) else [] }
def qS (rt:By→Bool) (nv:By→Int) (tv:By→By) (s:By):Option di :=
 match ey false false [] s with
 | []=>none
 | w :: l=>match aH.findIdx? (fun x=>decide (x=w)) with
  | none=>none
  | some k=>if l.length≠bn k+(if k=0 then 5 else 0) then none else if ew rt (lu nv tv k l)=true∧aT (lu nv tv k l)=s then some (lu nv tv k l) else none
def tE (rt:By→Bool) (nv:By→Int) (tv:By→By) (s:By):Option di :=
 match aH.findIdx? (fun x=>decide (x=(eA false false [] s).1)) with
 | none=>none
 | some k=>if ew rt (lu nv tv k (oz 8 (eA false false [] s).2))=true∧aT (lu nv tv k (oz 8 (eA false false [] s).2))=s then some (lu nv tv k (oz 8 (eA false false [] s).2)) else none
theorem vR : ∀ k:Fin 14,aH.findIdx? (fun x=>decide (x=aH.getD k.val []))=some k.val:=by decide +kernel
theorem Bi : ∀ k:Fin 14, ∀ c∈aH.getD k.val [],c≠34∧c≠32:=by decide +kernel
theorem Dq (n:Int):itoa n ≠ []:=by
 obtain ⟨c,q,h,_⟩:=sy n
 rw [h]; simp
theorem Ax (x:di) : ∀ p∈dW x,Clo p∧p ≠ []:=by
 intro p hp
 unfold dW at hp
 rcases List.mem_append.1 hp with hp | hp
 ·obtain ⟨n,_,rfl⟩:=List.mem_map.1 hp
  exact ⟨zC n,Dq n⟩
 ·split at hp
  ·simp only [List.mem_cons,List.not_mem_nil,or_false] at hp
   rcases hp with rfl | rfl | rfl | rfl | rfl
   ·exact ⟨zC _,Dq _⟩
   all_goals exact ⟨IP _,by simp [quo]⟩
  ·cases hp
theorem lV (k:Nat):bn k≤3:=by
 unfold bn
 split
 ·exact Nat.le_refl _
 split
 ·omega
 split <;> omega
theorem oI (x:di):(dW x).length=bn x.kind.toNat+(if x.kind=0 then 5 else 0):=by
 have:=lV x.kind.toNat
 unfold dW
 rw [List.length_append,List.length_map,List.length_take]
 have e:([x.a,x.b,x.c]:List Int).length=3:=rfl
 rw [e,Nat.min_eq_left this]
 split <;> rfl
theorem AW {rt:By→Bool} {nv:By→Int} {tv:By→By} (hn : ∀ n,okI n=true→nv (itoa n)=n) (ht : ∀ t,dB rt t=true→tv (quo t)=t) {x:di} (h:ew rt x=true):lu nv tv x.kind.toNat (dW x)=x:=by
 unfold ew at h
 simp only [Bool.and_eq_true,Bool.or_eq_true,decide_eq_true_eq] at h
 obtain ⟨⟨⟨⟨⟨⟨⟨⟨⟨⟨h0,h14⟩,ha⟩,hb⟩,hc⟩,hc0⟩,hb0⟩,ha0⟩,hcl⟩,hse⟩,hr⟩:=h
 obtain ⟨kind,a,b,c,client,serial,tenant,key,method,path,body⟩:=x
 simp only at h0 h14 ha hb hc hc0 hb0 ha0 hcl hse hr ⊢
 obtain ⟨k,rfl⟩:=Int.eq_ofNat_of_zero_le h0
 simp only [Int.toNat_natCast] at hc0 hb0 ha0 ⊢
 subst hcl
 subst hse
 by_cases hk:k=0
 ·subst hk
  have u:bn 0=1:=rfl
  simp only [Int.natCast_eq_zero,if_true,Bool.and_eq_true] at hr
  obtain ⟨⟨⟨⟨r1,r2⟩,r3⟩,r4⟩,r5⟩:=hr
  have eb:b=0:=by omega
  have ec:c=0:=by omega
  subst eb
  subst ec
  unfold lu dW
  simp [u,hn _ ha,hn _ r1,ht _ r2,ht _ r3,ht _ r4,ht _ r5]
 ·have hk' : ¬ ((k:Int)=0):=by omega
  rw [if_neg hk'] at hr
  simp only [Bool.and_eq_true,decide_eq_true_eq] at hr
  obtain ⟨⟨⟨⟨rfl,rfl⟩,rfl⟩,rfl⟩,rfl⟩:=hr
  have hu:=lV k
  unfold lu dW
  simp only [Int.toNat_natCast,if_neg hk,if_neg hk',List.append_nil]
  obtain ⟨u,eu⟩ : ∃ u,bn k=u:=⟨_,rfl⟩
  simp only [eu]
  rw [eu] at hu
  match u,hu,eu with
  | 0,_,eu =>
   have ea:a=0:=by omega
   have eb:b=0:=by omega
   have ec:c=0:=by omega
   simp [ea,eb,ec]
  | 1,_,eu =>
   have eb:b=0:=by omega
   have ec:c=0:=by omega
   simp [hn _ ha,eb,ec]
  | 2,_,eu =>
   have ec:c=0:=by omega
   simp [hn _ ha,hn _ hb,ec]
  | 3,_,eu=>simp [hn _ ha,hn _ hb,hn _ hc]
theorem lP {rt:By→Bool} {x:di} (h:ew rt x=true):x.kind.toNat<14∧(x.kind.toNat=0 ↔ x.kind=0):=by
 unfold ew at h
 simp only [Bool.and_eq_true,Bool.or_eq_true,decide_eq_true_eq] at h
 obtain ⟨⟨⟨⟨⟨⟨⟨⟨⟨⟨h0,h14⟩,_⟩,_⟩,_⟩,_⟩,_⟩,_⟩,_⟩,_⟩,_⟩:=h
 omega
theorem sM {rt:By→Bool} {x:di} (h:ew rt x=true) : ∀ p∈aH.getD x.kind.toNat [] :: dW x,Clo p:=by
 intro p hp
 rcases List.mem_cons.1 hp with rfl | hp
 ·exact Clo.all (Bi ⟨x.kind.toNat,(lP h).1⟩)
 ·exact (Ax x p hp).1
theorem xl {rt:By→Bool} {nv:By→Int} {tv:By→By} (hn : ∀ n,okI n=true→nv (itoa n)=n) (ht : ∀ t,dB rt t=true→tv (quo t)=t) {x:di} (h:ew rt x=true):qS rt nv tv (aT x)=some x:=by
 obtain ⟨h1,h2⟩:=lP h
 have e:ey false false [] (aT x)=aH.getD x.kind.toNat [] :: dW x:=uo _ (by simp) (sM h)
 unfold qS
 rw [e]
 simp only
 rw [vR ⟨x.kind.toNat,h1⟩]
 simp only
 rw [AW hn ht h,oI,if_neg (by
  intro hne
  apply hne
  by_cases e:x.kind=0
  ·rw [if_pos e,if_pos (h2.2 e)]
  ·rw [if_neg e,if_neg (fun e'=>e (h2.1 e'))]),if_pos ⟨h,rfl⟩]
theorem DJ {rt:By→Bool} {nv:By→Int} {tv:By→By} (hn : ∀ n,okI n=true→nv (itoa n)=n) (ht : ∀ t,dB rt t=true→tv (quo t)=t) {x:di} (h:ew rt x=true):tE rt nv tv (aT x)=some x:=by
 obtain ⟨h1,h2⟩:=lP h
 have e:eA false false [] (aT x)=(aH.getD x.kind.toNat [],eM (dW x)):=zP (sM h _ List.mem_cons_self)
 have hl:(dW x).length≤8:=by
  rw [oI]
  have:=lV x.kind.toNat
  split <;> omega
 unfold tE
 rw [e]
 simp only
 rw [vR ⟨x.kind.toNat,h1⟩,AQ 8 (dW x) hl (Ax x)]
 simp only
 rw [AW hn ht h,if_pos ⟨h,rfl⟩]
theorem FK {rt:By→Bool} {nv:By→Int} {tv:By→By} {s:By} {x:di} (h:qS rt nv tv s=some x):ew rt x=true∧aT x=s:=by
 unfold qS at h
 cases hcut:ey false false [] s with
 | nil=>rw [hcut] at h; cases h
 | cons w l =>
  rw [hcut] at h
  simp only at h
  cases hf:aH.findIdx? (fun x=>decide (x=w)) with
  | none=>rw [hf] at h; cases h
  | some k =>
   rw [hf] at h
   simp only at h
   by_cases hl:l.length≠bn k+(if k=0 then 5 else 0)
   ·rw [if_pos hl] at h; cases h
   ·rw [if_neg hl] at h
    by_cases hc:ew rt (lu nv tv k l)=true∧aT (lu nv tv k l)=s
    ·rw [if_pos hc] at h
     obtain rfl:=Option.some.inj h
     exact hc
    ·rw [if_neg hc] at h; cases h
theorem Fi {rt:By→Bool} {nv:By→Int} {tv:By→By} {s:By} {x:di} (h:tE rt nv tv s=some x):ew rt x=true∧aT x=s:=by
 unfold tE at h
 cases hf:aH.findIdx? (fun x=>decide (x=(eA false false [] s).1)) with
 | none=>rw [hf] at h; cases h
 | some k =>
  rw [hf] at h
  simp only at h
  by_cases hc:ew rt (lu nv tv k (oz 8 (eA false false [] s).2))=true∧aT (lu nv tv k (oz 8 (eA false false [] s).2))=s
  ·rw [if_pos hc] at h
   obtain rfl:=Option.some.inj h
   exact hc
  ·rw [if_neg hc] at h; cases h
theorem Ig {rt:By→Bool} {nv:By→Int} {tv:By→By} (hn : ∀ n,okI n=true→nv (itoa n)=n) (ht : ∀ t,dB rt t=true→tv (quo t)=t) (s:By):qS rt nv tv s=tE rt nv tv s:=by
 cases h:qS rt nv tv s with
 | some x =>
  obtain ⟨h1,rfl⟩:=FK h
  exact (DJ hn ht h1).symm
 | none =>
  cases h':tE rt nv tv s with
  | none=>rfl
  | some x =>
   obtain ⟨h1,rfl⟩:=Fi h'
   rw [xl hn ht h1] at h
   cases h
end Go.Vm
