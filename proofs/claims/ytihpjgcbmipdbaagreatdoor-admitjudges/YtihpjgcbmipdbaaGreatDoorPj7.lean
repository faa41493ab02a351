import Derived.Test.YtihpjgcbmipdbaaGreatDoorPj4
set_option linter.unusedVariables false
set_option linter.unusedSimpArgs false
namespace Go.Vm
open Go.Lib (itoa)
def okB (O:Option (JV→Prop)):JV→Prop
 | .nil=>False
 | .null=>True
 | .bool _=>True
 | .int n=>okN n
 | .str t=>OkT t
 | .list l=>match O with
  | none=>False
  | some O => ∀ v∈l,O v
 | .obj l=>match O with
  | none=>False
  | some O=>Ris l ∧ ∀ m∈l,OkT m.1∧O m.2.1
def okV:Nat→JV→Prop
 | 0=>okB none
 | d+1=>okB (some (okV d))
def Q9 (O:Option (JV→Bool)):JV→Bool
 | .list l=>match O with
  | none=>false
  | some O=>l.all O
 | .obj l=>match O with
  | none=>false
  | some O=>l.all fun m=>O m.2.1
 | _=>true
def uk:Nat→JV→Bool
 | 0=>Q9 none
 | d+1=>Q9 (some (uk d))
theorem JM : ∀ (d:Nat) (v:JV),okV d v→uk d v=true
 | 0,v,h=>by cases v <;> first | rfl | (exact h.elim)
 | d+1,v,h=>by
  cases v <;> first | rfl | skip
  ·rename_i l
   exact List.all_eq_true.2 fun v hv=>JM d v (h v hv)
  ·rename_i l
   exact List.all_eq_true.2 fun m hm=>JM d m.2.1 (h.2 m hm).2
def Head (c:UInt8):Prop:=pz c=false∧c≠93∧c≠125∧c≠44
theorem Ai {c:UInt8} (h:c=45∨ba c=true):Head c∧c≠123∧c≠91∧c≠34∧c≠110∧c≠116∧c≠102:=by
 rcases h with rfl | h
 ·exact ⟨⟨rfl,by decide,by decide,by decide⟩,by decide,by decide,by decide,by decide,by decide,by decide⟩
 ·have hb:pz c=false:=by
   have q : ∀ k:UInt8,ba k=false→(c == k)=false:=by
    intro k hk;rw [beq_eq_false_iff_ne]
    rintro rfl
    rw [h] at hk; cases hk
   unfold pz;rw [q 32 (by decide),q 9 (by decide),q 10 (by decide),q 13 (by decide)];rfl
  refine ⟨⟨hb,?_,?_,?_⟩,?_,?_,?_,?_,?_,?_⟩ <;> (rintro rfl; exact absurd h (by decide))
theorem A8 : ∀ (d:Nat) (v:JV),okV d v → ∃ c q,dv d v=c :: q∧Head c:=by
 intro d v h;have hd:Head 110∧Head 116∧Head 102∧Head 34∧Head 91∧Head 123:=by refine ⟨?_,?_,?_,?_,?_,?_⟩ <;> exact ⟨rfl,by decide,by decide,by decide⟩
 obtain ⟨h1,h2,h3,h4,h5,h6⟩:=hd;cases v with
 | nil=>cases d <;> exact h.elim
 | null=>cases d <;> exact ⟨_,_,rfl,h1⟩
 | bool b=>cases d <;> cases b <;> first | exact ⟨_,_,rfl,h2⟩ | exact ⟨_,_,rfl,h3⟩
 | int n =>
  obtain ⟨c,q,e,hc⟩:=Dy n;cases d <;> exact ⟨c,q,e,(Ai hc).1⟩
 | str t=>cases d <;> exact ⟨_,_,rfl,h4⟩
 | list l=>cases d with
  | zero=>exact h.elim
  | succ d=>exact ⟨_,_,rfl,h5⟩
 | obj l=>cases d with
  | zero=>exact h.elim
  | succ d=>exact ⟨_,_,rfl,h6⟩
theorem gX {c:UInt8} (h:pz c=false) (q:By):skp (c :: q)=c :: q:=by unfold skp; rw [List.dropWhile_cons_of_neg (by rw [h]; decide)]
theorem KP {c:UInt8} (h:pz c=true) (q:By):skp (c :: q)=skp q:=by unfold skp; rw [List.dropWhile_cons_of_pos h]
theorem zK {c:UInt8} (h:ba c=false) (q:By):Stop (c :: q):=by
 intro x r e
 injection e with e _
 rw [← e]; exact h
theorem wL {α:Type} (f:α→By) : ∀ l:List α,(∀ v∈l,f v ≠ [])→l.length≤(bE (l.map f)).length
 | [],_=>by simp
 | [v],h=>by have:=List.length_pos_iff.2 (h v (by simp)); simp [bE]; omega
 | v :: w :: l,h=>by
  have:=wL f (w :: l) (fun v hv=>h v (List.mem_cons_of_mem _ hv));simp only [List.map_cons,bE,abr,abp] at this ⊢
  omega
theorem Dx (V:By→Except Nat (JV×By)) (f:JV→By) (g:JV→Bool) : ∀ (l:List JV) (n:Nat) (rest:By),l ≠ []→l.length≤n→(∀ v∈l, ∀ rest,Stop rest→V (f v ++ rest)=if g v=true then .ok (v,rest) else .error 10) →
  p8 V n (bE (l.map f) ++ 93 :: rest)=if l.all g=true then .ok (l,rest) else .error 10
 | [],n,rest,h,_,_=>absurd rfl h
 | v :: l,0,rest,_,h,_=>absurd h (by simp)
 | [v],n+1,rest,_,_,hV=>by
  have:=hV v (by simp) (93 :: rest) (zK rfl _);unfold p8;simp only [List.map_cons,List.map_nil,bE,this,List.all_cons,List.all_nil,Bool.and_true];cases hg:g v with
  | false=>simp
  | true=>simp only [if_true]; rw [gX rfl]; rfl
 | v :: w :: l,n+1,rest,_,hn,hV=>by
  have:=hV v (by simp) (44 :: (bE ((w :: l).map f) ++ 93 :: rest)) (zK rfl _);have ih:=Dx V f g (w :: l) n rest (by simp) (by simp at hn ⊢; omega) (fun v hv=>hV v (List.mem_cons_of_mem _ hv));unfold p8;simp only [List.map_cons,bE,List.append_assoc,List.cons_append] at this ih ⊢
  rw [this,List.all_cons];cases hg:g v with
  | false=>simp
  | true =>
   simp only [if_true,Bool.true_and];rw [gX rfl];simp only;rw [ih];cases h2:(w :: l).all g <;> simp
theorem Di (V:By→Except Nat (JV×By)) (f:JV→By) (g:JV→Bool) : ∀ (l acc:List Me) (n:Nat) (rest:By),l ≠ []→l.length≤n→Uni (acc ++ l)→(∀ m∈l,OkT m.1)→(∀ m∈l, ∀ rest,Stop rest→V (f m.2.1 ++ rest)=if g m.2.1=true then .ok (m.2.1,rest) else .error 10) →
  qi V n acc (bE (l.map fun m=>quo m.1 ++ 58 :: f m.2.1) ++ 125 :: rest)=if (l.all fun m=>g m.2.1)=true then .ok (acc ++ l,rest) else .error 10
 | [],acc,n,rest,h,_,_,_,_=>absurd rfl h
 | v :: l,acc,0,rest,_,h,_,_,_=>absurd h (by simp)
 | m :: l,acc,n+1,rest,_,hn,hu,oe,hV=>by
  have vC:(acc.any fun x=>x.1 == m.1)=false:=by
   rw [List.any_eq_false];intro x hx;have:=(List.pairwise_append.1 hu).2.2 x hx m (by simp);simpa using this
  have key : ∀ q,Stop q→qi V (n+1) acc (quo m.1 ++ 58 :: f m.2.1 ++ q)=if g m.2.1=true then (match skp q with
      | 44 :: r=>qi V n (acc ++ [(m.1,m.2.1,())]) r
      | 125 :: r => .ok (acc ++ [(m.1,m.2.1,())],r)
      | _ => .error 3) else .error 10:=by
   intro q hq;conv=>lhs; unfold qi
   unfold quo;simp only [List.cons_append,List.append_assoc,List.nil_append];rw [gX rfl];simp only;rw [Kv (oe m (by simp))];simp only [vC,abq,if_false];rw [gX rfl];simp only;rw [hV m (by simp) q hq];cases hg:g m.2.1 <;> rfl
  cases l with
  | nil =>
   simp only [List.map_cons,List.map_nil,bE];rw [key _ (zK rfl _),gX rfl];simp only [List.all_cons,List.all_nil,Bool.and_true]
  | cons w l =>
   have ih:=Di V f g (w :: l) (acc ++ [m]) n rest (by simp) (by simp at hn ⊢; omega) (by simpa using hu) (fun m hm=>oe m (List.mem_cons_of_mem _ hm)) (fun m hm=>hV m (List.mem_cons_of_mem _ hm));simp only [List.map_cons,bE] at ih ⊢
   have k2:=key (44 :: (bE ((quo w.1 ++ 58 :: f w.2.1) :: List.map (fun m=>quo m.1 ++ 58 :: f m.2.1) l) ++ 125 :: rest)) (zK rfl _);simp only [List.append_assoc,List.cons_append] at k2 ih ⊢
   rw [k2,gX rfl];simp only;rw [show ((m.1,m.2.1,()):Me)=m from rfl,ih];simp only [List.append_assoc,List.singleton_append,List.nil_append];by_cases hg:g m.2.1=true
   ·rw [if_pos hg]
    by_cases h2:((w :: l).all fun m=>g m.2.1)=true
    ·rw [if_pos h2]; exact (if_pos (Bool.and_eq_true_iff.2 ⟨hg,h2⟩)).symm
    ·rw [if_neg h2]; exact (if_neg fun hh=>h2 (Bool.and_eq_true_iff.1 hh).2).symm
   ·rw [if_neg hg]; exact (if_neg fun hh=>hg (Bool.and_eq_true_iff.1 hh).1).symm
theorem M1 : ∀ (d k:Nat) (v:JV) (rest:By),okV d v→Stop rest→hP k (dv d v ++ rest)=if uk k v=true then .ok (v,rest) else .error 10:=by
 have base : ∀ (V:Option (By→Except Nat (JV×By))) (v:JV) (b rest:By),Stop rest→((v = .null∧b = [110,117,108,108])∨(v = .bool true∧b = [116,114,117,101])∨(v = .bool false∧b = [102,97,108,115,101])∨(∃ n,okN n∧v = .int n∧b=itoa n)∨(∃ t,OkT t∧v = .str t∧b=quo t))→qG V (b ++ rest) = .ok (v,rest):=by
  intro V v b rest hr h;unfold qG;rcases h with ⟨rfl,rfl⟩ | ⟨rfl,rfl⟩ | ⟨rfl,rfl⟩ | ⟨n,hn,rfl,rfl⟩ | ⟨t,ht,rfl,rfl⟩
  ·simp only [List.cons_append,List.nil_append]
   rw [gX rfl];rfl
  ·simp only [List.cons_append,List.nil_append]
   rw [gX rfl];rfl
  ·simp only [List.cons_append,List.nil_append]
   rw [gX rfl];rfl
  ·obtain ⟨c,q,e,hc⟩:=Dy n
   obtain ⟨⟨a0,_⟩,a1,a2,a3,a4,a5,a6⟩:=Ai hc;have hp:=LJ n hn rest hr;rw [e,List.cons_append] at hp ⊢
   rw [gX a0];simp only;rw [if_neg a1,if_neg a2,if_neg a3,if_neg (by simp [a4]),if_neg (by simp [a5]),if_neg (by simp [a6]),hp]
  ·unfold quo
   simp only [List.cons_append,List.append_assoc,List.nil_append];rw [gX rfl];simp only;rw [if_neg (by decide),if_neg (by decide),if_pos trivial,Kv ht]
 intro d;induction d with
 | zero =>
  intro k v rest h hr;have xp:uk k v=true:=by cases v <;> cases k <;> first | rfl | exact h.elim
  rw [if_pos xp];have : ∀ V,qG V (dv 0 v ++ rest) = .ok (v,rest):=by
   intro V;refine base V v _ rest hr ?_;cases v with
   | nil=>exact h.elim
   | null=>exact .inl ⟨rfl,rfl⟩
   | bool b=>cases b <;> simp [dv,yi]
   | int n=>exact .inr (.inr (.inr (.inl ⟨n,h,rfl,rfl⟩)))
   | str t=>exact .inr (.inr (.inr (.inr ⟨t,h,rfl,rfl⟩)))
   | list l=>exact h.elim
   | obj l=>exact h.elim
  cases k <;> exact this _
 | succ d ih =>
  intro k v rest h hr;cases v with
  | list l =>
   have hl : ∀ v∈l,okV d v:=h
   show hP k (91 :: (bE (l.map (dv d)) ++ [93]) ++ rest) = _;simp only [List.cons_append,List.append_assoc,List.nil_append];cases k with
   | zero =>
    show qG none _ = _;unfold qG;rw [gX rfl];rfl
   | succ k =>
    show qG (some (hP k)) _ = _;unfold qG;rw [gX rfl];simp only;rw [if_neg (by decide),if_pos trivial];cases l with
    | nil=>simp [bE,gX (c:=93) rfl,uk,Q9]
    | cons v l =>
     have ⟨c,q,e,hb,S5,_⟩:=A8 d v (hl v (by simp));have hj : ∃ q',bE ((v :: l).map (dv d)) ++ 93 :: rest=c :: q':=by
      cases l with
      | nil=>exact ⟨q ++ 93 :: rest,by simp [bE,e]⟩
      | cons w l=>exact ⟨_,by simp only [List.map_cons,bE,e,List.cons_append]; rfl⟩
     obtain ⟨q',hj⟩:=hj;have hp:=Dx (hP k) (dv d) (uk k) (v :: l) ((bE ((v :: l).map (dv d)) ++ 93 :: rest).length+1) rest (by simp)
      (by have:=wL (dv d) (v :: l) (fun v hv=>by obtain ⟨c,q,e,_⟩:=A8 d v (hl v hv); rw [e]; simp); rw [abr]; omega)
      (fun v hv rest hr=>ih k v rest (hl v hv) hr)
     rw [hj] at hp ⊢
     rw [gX hb];split
     ·rename_i hh; injection hh with hh _; exact absurd hh S5
     ·rw [hp]
      show _=if (v :: l).all (uk k)=true then _ else _
      cases (v :: l).all (uk k) <;> rfl
  | obj l =>
   obtain ⟨hs,hl⟩:Ris l ∧ ∀ m∈l,OkT m.1∧okV d m.2.1:=h
   show hP k (123 :: (bE (l.map fun m=>quo m.1 ++ 58 :: dv d m.2.1) ++ [125]) ++ rest) = _;simp only [List.cons_append,List.append_assoc,List.nil_append];cases k with
   | zero =>
    show qG none _ = _;unfold qG;rw [gX rfl];rfl
   | succ k =>
    show qG (some (hP k)) _ = _;unfold qG;rw [gX rfl];simp only;rw [if_pos trivial];cases l with
    | nil=>simp [bE,gX (c:=125) rfl,uk,Q9]
    | cons m l =>
     have hj : ∃ q',bE ((m :: l).map fun m=>quo m.1 ++ 58 :: dv d m.2.1) ++ 125 :: rest=34 :: q':=by
      cases l with
      | nil=>exact ⟨_,by simp only [List.map_cons,List.map_nil,bE,quo,List.cons_append]; rfl⟩
      | cons w l=>exact ⟨_,by simp only [List.map_cons,bE,quo,List.cons_append]; rfl⟩
     obtain ⟨q',hj⟩:=hj;have hp:=Di (hP k) (dv d) (uk k) (m :: l) [] ((bE ((m :: l).map fun m=>quo m.1 ++ 58 :: dv d m.2.1) ++ 125 :: rest).length+1) rest (by simp)
      (by have:=wL (fun m:Me=>quo m.1 ++ 58 :: dv d m.2.1) (m :: l) (fun v hv=>by unfold quo; simp); rw [abr,Nat.add_assoc]; exact Nat.le_trans this (Nat.le_add_right _ _))
      (KH hs) (fun m hm=>(hl m hm).1) (fun m hm rest hr=>ih k m.2.1 rest (hl m hm).2 hr)
     rw [hj] at hp ⊢
     rw [gX rfl];split
     ·rename_i hh; injection hh with hh _; exact absurd hh (by decide)
     rw [hp];show _=if ((m :: l).all fun m=>uk k m.2.1)=true then _ else _
     cases (m :: l).all fun m=>uk k m.2.1
     ·rfl
     ·simp only [if_true,List.nil_append]
      rw [A4 hs]
  | nil=>exact h.elim
  | null =>
   have:uk k (.null)=true:=by cases k <;> rfl
   rw [if_pos this];cases k <;> exact base _ _ _ rest hr (.inl ⟨rfl,rfl⟩)
  | bool b =>
   have:uk k (.bool b)=true:=by cases k <;> rfl
   rw [if_pos this];cases k <;> cases b <;> exact base _ _ _ rest hr (by simp [dv,yi])
  | int n =>
   have:uk k (.int n)=true:=by cases k <;> rfl
   rw [if_pos this];cases k <;> exact base _ _ _ rest hr (.inr (.inr (.inr (.inl ⟨n,h,rfl,rfl⟩))))
  | str t =>
   have:uk k (.str t)=true:=by cases k <;> rfl
   rw [if_pos this];cases k <;> exact base _ _ _ rest hr (.inr (.inr (.inr (.inr ⟨t,h,rfl,rfl⟩))))
end Go.Vm
namespace Go.Vm
open Go.Lib (itoa)
theorem Oe (V:By→Except Nat (JV×By)) (f:JV→By) (O:JV→Prop) (hV : ∀ s v r,V s = .ok (v,r)→O v∧r <:+ s∧r.length<s.length∧(f v).length+r.length≤s.length) :
  ∀ (n:Nat) (s:By) (l:List JV) (r:By),p8 V n s = .ok (l,r)→(∀ v∈l,O v)∧r <:+ s∧(bE (l.map f)).length+1+r.length≤s.length
 | 0,s,l,r,h=>by cases h
 | n+1,s,l,r,h=>by
  unfold p8 at h;cases hv:V s with
  | error e=>rw [hv] at h; cases h
  | ok x =>
   obtain ⟨v,r1⟩:=x;rw [hv] at h;obtain ⟨o1,o2,o3,o4⟩:=hV s v r1 hv;simp only at h;split at h
   ·rename_i r2 hs
    have q1:=eZ r1;have q2:(44 :: r2) <:+ r1:=hs ▸ av r1;rw [hs,abp] at q1;cases hl:p8 V n r2 with
    | error e=>rw [hl] at h; cases h
    | ok y =>
     obtain ⟨l',r'⟩:=y;rw [hl] at h;cases h;obtain ⟨i1,i2,i3⟩:=Oe V f O hV n r2 l' r hl;refine ⟨fun w hw => ?_,(i2.trans (List.suffix_cons _ _)).trans (q2.trans o2),?_⟩
     ·rcases List.mem_cons.1 hw with rfl | hw
      ·exact o1
      ·exact i1 w hw
     ·cases l' with
      | nil=>simp [bE] at i3 ⊢; omega
      | cons w l'=>simp only [List.map_cons,bE,abr,abp] at i3 ⊢; omega
   ·rename_i r2 hs
    cases h;have q1:=eZ r1;have q2:(93 :: r) <:+ r1:=hs ▸ av r1;rw [hs,abp] at q1;refine ⟨fun w hw => ?_,(List.suffix_cons _ _).trans (q2.trans o2),?_⟩
    ·rw [List.mem_singleton] at hw; subst hw; exact o1
    ·simp [bE]; omega
   ·cases h
def szM (f:JV→By) (l:List Me):Nat:=(l.map fun m=>(quo m.1 ++ 58 :: f m.2.1).length+1).sum
theorem KK {α:Type} (f:α→By) : ∀ (a:α) (l:List α),(bE ((a :: l).map f)).length+1=((a :: l).map fun x=>(f x).length+1).sum
 | a,[]=>by simp [bE]
 | a,b :: l=>by
  have:=KK f b l;simp only [List.map_cons,bE,abr,abp,List.sum_cons] at this ⊢
  omega
theorem NI (V:By→Except Nat (JV×By)) (f:JV→By) (O:JV→Prop) (hV : ∀ s v r,V s = .ok (v,r)→O v∧r <:+ s∧r.length<s.length∧(f v).length+r.length≤s.length) :
  ∀ (n:Nat) (acc:List Me) (s:By) (l:List Me) (r:By),qi V n acc s = .ok (l,r)→Uni acc→(∀ m∈acc,OkT m.1∧O m.2.1)→Uni l∧l ≠ []∧(∀ m∈l,OkT m.1∧O m.2.1)∧r <:+ s∧szM f l+r.length≤szM f acc+s.length
 | 0,acc,s,l,r,h,_,_=>by cases h
 | n+1,acc,s,l,r,h,hu,ha=>by
  unfold qi at h;split at h
  ·rename_i r0 h0
   have q1:=eZ s;have q2:(34 :: r0) <:+ s:=h0 ▸ av s;rw [h0,abp] at q1;split at h
   ·cases h
   ·rename_i name r1 h1
    obtain ⟨t1,t2,t3⟩:=yf r0 h1;split at h
    ·cases h
    ·rename_i vC
     split at h
     ·rename_i r2 h2
      have q3:=eZ r1;have q4:(58 :: r2) <:+ r1:=h2 ▸ av r1;rw [h2,abp] at q3;cases hv:V r2 with
      | error e=>rw [hv] at h; cases h
      | ok x =>
       obtain ⟨v,r3⟩:=x;rw [hv] at h;obtain ⟨o1,o2,o3,o4⟩:=hV r2 v r3 hv;have vH:Uni (acc ++ [(name,v,())]):=by
        refine List.pairwise_append.2 ⟨hu,List.pairwise_singleton _ _,fun x hx y hy => ?_⟩;rw [List.mem_singleton] at hy;subst hy;intro e;apply vC;rw [List.any_eq_true];exact ⟨x,hx,by simpa using e⟩
       have QV : ∀ m∈acc ++ [(name,v,())],OkT m.1∧O m.2.1:=by
        intro m hm;rcases List.mem_append.1 hm with hm | hm
        ·exact ha m hm
        ·rw [List.mem_singleton] at hm; subst hm; exact ⟨t1,o1⟩
       have hz:szM f (acc ++ [(name,v,())])=szM f acc+((jV name).length+(f v).length+4):=by
        unfold szM quo;simp;omega
       have tr:r3 <:+ s:=o2.trans ((List.suffix_cons _ _).trans (q4.trans (t2.trans ((List.suffix_cons _ _).trans q2))));simp only at h;split at h
       ·rename_i r4 h4
        have q5:=eZ r3;have q6:(44 :: r4) <:+ r3:=h4 ▸ av r3;rw [h4,abp] at q5;obtain ⟨i1,i2,i3,i4,i5⟩:=NI V f O hV n _ r4 l r h vH QV;exact ⟨i1,i2,i3,i4.trans ((List.suffix_cons _ _).trans (q6.trans tr)),by rw [hz] at i5; omega⟩
       ·rename_i r4 h4
        cases h;have q5:=eZ r3;have q6:(125 :: r) <:+ r3:=h4 ▸ av r3;rw [h4,abp] at q5;exact ⟨vH,by simp,QV,(List.suffix_cons _ _).trans (q6.trans tr),by rw [hz]; omega⟩
       ·cases h
     ·cases h
  ·cases h
theorem Rs (f:JV→By) {l l':List Me} (h:l.Perm l'):szM f l=szM f l':=(h.map _).sum_nat
theorem vc : ∀ (d:Nat) (s:By) (v:JV) (r:By),hP d s = .ok (v,r)→okV d v∧r <:+ s∧r.length<s.length∧(dv d v).length+r.length≤s.length:=by
 have base : ∀ (V:Option (By→Except Nat (JV×By))) (L:Option (JV→By)) (O:Option (JV→Prop)) (YO:V=none∧L=none∧O=none ∨ ∃ W M Q,V=some W∧L=some M∧O=some Q ∧ ∀ s v r,W s = .ok (v,r)→Q v∧r <:+ s∧r.length<s.length∧(M v).length+r.length≤s.length) (s:By) (v:JV) (r:By),qG V s = .ok (v,r) →
   okB O v∧r <:+ s∧r.length<s.length∧(yi L v).length+r.length≤s.length:=by
  intro V L O YO s v r h;unfold qG at h;split at h
  ·cases h
  ·rename_i c t hs
   have q1:=eZ s;have q2:(c :: t) <:+ s:=hs ▸ av s;rw [hs,abp] at q1;have q3:t <:+ s:=(List.suffix_cons _ _).trans q2;by_cases c1:c=123
   ·rw [if_pos c1] at h
    rcases YO with ⟨rfl,rfl,rfl⟩ | ⟨W,M,Q,rfl,rfl,rfl,hW⟩
    ·cases h
    ·simp only at h
     split at h
     ·rename_i t' ht
      cases h;have q4:=eZ t;have q5:(125 :: r) <:+ t:=ht ▸ av t;rw [ht,abp] at q4;exact ⟨⟨.nil,fun m hm=>by cases hm⟩,(List.suffix_cons _ _).trans (q5.trans q3),by omega,by simp [yi,bE]; omega⟩
     ·cases ho:qi W ((skp t).length+1) [] (skp t) with
      | error e=>rw [ho] at h; cases h
      | ok x =>
       obtain ⟨l,r'⟩:=x;rw [ho] at h;cases h;obtain ⟨o1,o2,o3,o4,o5⟩:=NI W M Q hW _ [] _ l r ho .nil (fun m hm=>by cases hm);have q4:=eZ t;have q5:=av t;refine ⟨⟨yd l o1,fun m hm=>o3 m ((jh l).mem_iff.1 hm)⟩,o4.trans (q5.trans q3),?_,?_⟩
       ·have:=o4.length_le
        omega
       ·have p1:=Rs M (jh l)
        have p2:szM M []=0:=rfl;cases hl:bg l with
        | nil=>exact absurd ((jh l).symm.trans (by rw [hl])).eq_nil o2
        | cons m l' =>
         have p3:=KK (fun m:Me=>quo m.1 ++ 58 :: M m.2.1) m l';rw [hl] at p1;unfold szM at p1 p2 o5;show (123 :: (bE _ ++ [125])).length + _ ≤ _;rw [abp,abr,List.length_singleton];rw [← p1,p2] at o5;have p4:=Nat.le_trans (Nat.add_le_add_right (Nat.le_of_eq p3) r.length) o5;have p5 : ∀ J:Nat,J+1+r.length≤0+(skp t).length→J+1+1+r.length≤s.length:=fun J hJ=>by omega
         exact p5 _ p4
   rw [if_neg c1] at h;by_cases c2:c=91
   ·rw [if_pos c2] at h
    rcases YO with ⟨rfl,rfl,rfl⟩ | ⟨W,M,Q,rfl,rfl,rfl,hW⟩
    ·cases h
    ·simp only at h
     split at h
     ·rename_i t' ht
      cases h;have q4:=eZ t;have q5:(93 :: r) <:+ t:=ht ▸ av t;rw [ht,abp] at q4;exact ⟨(fun m hm=>by cases hm),(List.suffix_cons _ _).trans (q5.trans q3),by omega,by simp [yi,bE]; omega⟩
     ·cases ho:p8 W ((skp t).length+1) (skp t) with
      | error e=>rw [ho] at h; cases h
      | ok x =>
       obtain ⟨l,r'⟩:=x;rw [ho] at h;cases h;obtain ⟨o1,o2,o3⟩:=Oe W M Q hW _ _ l r ho;have q4:=eZ t;have q5:=av t;refine ⟨o1,o2.trans (q5.trans q3),?_,?_⟩
       ·have:=o2.length_le
        omega
       ·show (91 :: (bE _ ++ [93])).length + _ ≤ _
        rw [abp,abr,List.length_singleton];omega
   rw [if_neg c2] at h;by_cases c3:c=34
   ·rw [if_pos c3] at h
    split at h
    ·cases h
    ·rename_i tt r' ht
     cases h;obtain ⟨t1,t2,t3⟩:=yf t ht;exact ⟨t1,t2.trans q3,by omega,by simp [yi,quo]; omega⟩
   rw [if_neg c3] at h;have word : ∀ (w:By) (k:Nat) (v:JV),w.length=k+1→(c :: t).take (k+1)=w→v = .null∨(∃ b,v = .bool b)→(yi L v).length≤k+1→okB O v∧t.drop k <:+ s∧(t.drop k).length<s.length∧(yi L v).length+(t.drop k).length≤s.length:=by
    intro w k v hw ht hv hl;have:k≤t.length:=by
     have e:=congrArg List.length ht;rw [hw] at e;simp at e;omega
    refine ⟨?_,(List.drop_suffix _ _).trans q3,by simp; omega,by simp; omega⟩;rcases hv with rfl | ⟨b,rfl⟩ <;> exact trivial
   by_cases c4:(c :: t).take 4 = [110,117,108,108]
   ·rw [if_pos c4] at h
    cases h;exact word _ 3 _ rfl c4 (.inl rfl) (Nat.le_refl _)
   rw [if_neg c4] at h;by_cases c5:(c :: t).take 4 = [116,114,117,101]
   ·rw [if_pos c5] at h
    cases h;exact word _ 3 _ rfl c5 (.inr ⟨_,rfl⟩) (Nat.le_refl _)
   rw [if_neg c5] at h;by_cases c6:(c :: t).take 5 = [102,97,108,115,101]
   ·rw [if_pos c6] at h
    cases h;exact word _ 4 _ rfl c6 (.inr ⟨_,rfl⟩) (Nat.le_refl _)
   rw [if_neg c6] at h;split at h
   ·cases h
   ·rename_i n r' hn
    cases h;obtain ⟨n1,n2,n3,n4⟩:=T3 hn;simp only [abp] at n3 n4;exact ⟨n1,n2.trans q2,by omega,by show (itoa n).length + _ ≤ _; omega⟩
 intro d;induction d with
 | zero=>exact base none none none (.inl ⟨rfl,rfl,rfl⟩)
 | succ d ih=>exact base (some (hP d)) (some (dv d)) (some (okV d)) (.inr ⟨_,_,_,rfl,rfl,rfl,ih⟩)
end Go.Vm
