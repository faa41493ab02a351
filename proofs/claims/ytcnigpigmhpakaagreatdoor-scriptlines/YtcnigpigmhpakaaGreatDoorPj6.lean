/- JSON, plainly: values. What is printed is read. No condition. -/
import Derived.Test.YtcnigpigmhpakaaGreatDoorPj4
namespace Go.Vm
open Go.Lib (itoa)
set_option linter.unusedVariables false
set_option linter.unusedSimpArgs false
def okB (O:Option (JV→Prop)):JV→Prop
 | .nil=>False
 | .null=>True
 | .bool _=>True
 | .int n=>okN n
 | .str t=>OkT t
 | .list l=>match O with
  | none=>False
  | some O => ∀ v∈l,O v
 | .obj l=>match O with
  | none=>False
  | some O=>Ris l ∧ ∀ m∈l,OkT m.1∧O m.2.1
def okV:Nat→JV→Prop
 | 0=>okB none
 | d+1=>okB (some (okV d))
def Ik (O:Option (JV→Bool)):JV→Bool
 | .list l=>match O with
  | none=>false
  | some O=>l.all O
 | .obj l=>match O with
  | none=>false
  | some O=>l.all fun m=>O m.2.1
 | _=>true
def pL:Nat→JV→Bool
 | 0=>Ik none
 | d+1=>Ik (some (pL d))
theorem BH : ∀ (d:Nat) (v:JV),okV d v→pL d v=true
 | 0,v,h=>by cases v <;> first | rfl | (exact h.elim)
 | d+1,v,h=>by
  cases v <;> first | rfl | skip
  ·rename_i l
   exact List.all_eq_true.2 fun v hv=>BH d v (h v hv)
  ·rename_i l
   exact List.all_eq_true.2 fun m hm=>BH d m.2.1 (h.2 m hm).2
/-! ### heads -/
def Head (c:UInt8):Prop:=mD c=false∧c≠93∧c≠125∧c≠44
theorem vB {c:UInt8} (h:c=45∨bj c=true):Head c∧c≠123∧c≠91∧c≠34∧c≠110∧c≠116∧c≠102:=by
 rcases h with rfl | h
 ·exact ⟨⟨rfl,by decide,by decide,by decide⟩,by decide,by decide,by decide,by decide,by decide,by decide⟩
 ·have hb:mD c=false:=by
   have q : ∀ k:UInt8,bj k=false→(c == k)=false:=by
    intro k hk
    rw [beq_eq_false_iff_ne]
    rintro rfl
    rw [h] at hk; cases hk
   unfold mD
   rw [q 32 (by decide),q 9 (by decide),q 10 (by decide),q 13 (by decide)]
   rfl
  refine ⟨⟨hb,?_,?_,?_⟩,?_,?_,?_,?_,?_,?_⟩ <;> (rintro rfl; exact absurd h (by decide))
theorem Az : ∀ (d:Nat) (v:JV),okV d v → ∃ c q,gE d v=c :: q∧Head c:=by
 intro d v h
 have hd:Head 110∧Head 116∧Head 102∧Head 34∧Head 91∧Head 123:=by refine ⟨?_,?_,?_,?_,?_,?_⟩ <;> exact ⟨rfl,by decide,by decide,by decide⟩
 obtain ⟨h1,h2,h3,h4,h5,h6⟩:=hd
 cases v with
 | nil=>cases d <;> exact h.elim
 | null=>cases d <;> exact ⟨_,_,rfl,h1⟩
 | bool b=>cases d <;> cases b <;> first | exact ⟨_,_,rfl,h2⟩ | exact ⟨_,_,rfl,h3⟩
 | int n =>
  obtain ⟨c,q,e,hc⟩:=sy n
  cases d <;> exact ⟨c,q,e,(vB hc).1⟩
 | str t=>cases d <;> exact ⟨_,_,rfl,h4⟩
 | list l=>cases d with
  | zero=>exact h.elim
  | succ d=>exact ⟨_,_,rfl,h5⟩
 | obj l=>cases d with
  | zero=>exact h.elim
  | succ d=>exact ⟨_,_,rfl,h6⟩
theorem fy {c:UInt8} (h:mD c=false) (q:By):skp (c :: q)=c :: q:=by unfold skp; rw [List.dropWhile_cons_of_neg (by rw [h]; decide)]
theorem CU {c:UInt8} (h:mD c=true) (q:By):skp (c :: q)=skp q:=by unfold skp; rw [List.dropWhile_cons_of_pos h]
theorem tP {c:UInt8} (h:bj c=false) (q:By):Stop (c :: q):=by
 intro x r e
 injection e with e _
 rw [← e]; exact h
theorem u5 {α:Type} (f:α→By) : ∀ l:List α,(∀ v∈l,f v ≠ [])→l.length≤(bV (l.map f)).length
 | [],_=>by simp
 | [v],h=>by have:=List.length_pos_iff.2 (h v (by simp)); simp [bV]; omega
 | v :: w :: l,h=>by
  have:=u5 f (w :: l) (fun v hv=>h v (List.mem_cons_of_mem _ hv))
  simp only [List.map_cons,bV,List.length_append,List.length_cons] at this ⊢
  omega
theorem xg (V:By→Except Nat (JV×By)) (f:JV→By) (g:JV→Bool) : ∀ (l:List JV) (n:Nat) (rest:By),l ≠ []→l.length≤n→(∀ v∈l, ∀ rest,Stop rest→V (f v ++ rest)=if g v=true then .ok (v,rest) else .error 10) →
  nM V n (bV (l.map f) ++ 93 :: rest)=if l.all g=true then .ok (l,rest) else .error 10
 | [],n,rest,h,_,_=>absurd rfl h
 | v :: l,0,rest,_,h,_=>absurd h (by simp)
 | [v],n+1,rest,_,_,hV=>by
  have:=hV v (by simp) (93 :: rest) (tP rfl _)
  unfold nM
  simp only [List.map_cons,List.map_nil,bV,this,List.all_cons,List.all_nil,Bool.and_true]
  cases hg:g v with
  | false=>simp
  | true=>simp only [if_true]; rw [fy rfl]; rfl
 | v :: w :: l,n+1,rest,_,hn,hV=>by
  have:=hV v (by simp) (44 :: (bV ((w :: l).map f) ++ 93 :: rest)) (tP rfl _)
  have ih:=xg V f g (w :: l) n rest (by simp) (by simp at hn ⊢; omega) (fun v hv=>hV v (List.mem_cons_of_mem _ hv))
  unfold nM
  simp only [List.map_cons,bV,List.append_assoc,List.cons_append] at this ih ⊢
  rw [this,List.all_cons]
  cases hg:g v with
  | false=>simp
  | true =>
   simp only [if_true,Bool.true_and]
   rw [fy rfl]
   simp only
   rw [ih]
   cases h2:(w :: l).all g <;> simp
theorem xu (V:By→Except Nat (JV×By)) (f:JV→By) (g:JV→Bool) : ∀ (l acc:List Me) (n:Nat) (rest:By),l ≠ []→l.length≤n→Uni (acc ++ l)→(∀ m∈l,OkT m.1)→(∀ m∈l, ∀ rest,Stop rest→V (f m.2.1 ++ rest)=if g m.2.1=true then .ok (m.2.1,rest) else .error 10) →
  nz V n acc (bV (l.map fun m=>quo m.1 ++ 58 :: f m.2.1) ++ 125 :: rest)=if (l.all fun m=>g m.2.1)=true then .ok (acc ++ l,rest) else .error 10
 | [],acc,n,rest,h,_,_,_,_=>absurd rfl h
 | v :: l,acc,0,rest,_,h,_,_,_=>absurd h (by simp)
 | m :: l,acc,n+1,rest,_,hn,hu,hok,hV=>by
  have hnew:(acc.any fun x=>x.1 == m.1)=false:=by
   rw [List.any_eq_false]
   intro x hx
   have:=(List.pairwise_append.1 hu).2.2 x hx m (by simp)
   simpa using this
  have key : ∀ q,Stop q→nz V (n+1) acc (quo m.1 ++ 58 :: f m.2.1 ++ q)=if g m.2.1=true then (match skp q with
      | 44 :: r=>nz V n (acc ++ [(m.1,m.2.1,())]) r
      | 125 :: r => .ok (acc ++ [(m.1,m.2.1,())],r)
      | _ => .error 3) else .error 10:=by
   intro q hq
   conv=>lhs; unfold nz
   unfold quo
   simp only [List.cons_append,List.append_assoc,List.nil_append]
   rw [fy rfl]
   simp only
   rw [CV (hok m (by simp))]
   simp only [hnew,Bool.false_eq_true,if_false]
   rw [fy rfl]
   simp only
   rw [hV m (by simp) q hq]
   cases hg:g m.2.1 <;> rfl
  cases l with
  | nil =>
   simp only [List.map_cons,List.map_nil,bV]
   rw [key _ (tP rfl _),fy rfl]
   simp only [List.all_cons,List.all_nil,Bool.and_true]
  | cons w l =>
   have ih:=xu V f g (w :: l) (acc ++ [m]) n rest (by simp) (by simp at hn ⊢; omega) (by simpa using hu) (fun m hm=>hok m (List.mem_cons_of_mem _ hm)) (fun m hm=>hV m (List.mem_cons_of_mem _ hm))
   simp only [List.map_cons,bV] at ih ⊢
   have k2:=key (44 :: (bV ((quo w.1 ++ 58 :: f w.2.1) :: List.map (fun m=>quo m.1 ++ 58 :: f m.2.1) l) ++ 125 :: rest)) (tP rfl _)
   simp only [List.append_assoc,List.cons_append] at k2 ih ⊢
   rw [k2,fy rfl]
   simp only
   rw [show ((m.1,m.2.1,()):Me)=m from rfl,ih]
   simp only [List.append_assoc,List.singleton_append,List.nil_append]
   by_cases hg:g m.2.1=true
   ·rw [if_pos hg]
    by_cases h2:((w :: l).all fun m=>g m.2.1)=true
    ·rw [if_pos h2]; exact (if_pos (Bool.and_eq_true_iff.2 ⟨hg,h2⟩)).symm
    ·rw [if_neg h2]; exact (if_neg fun hh=>h2 (Bool.and_eq_true_iff.1 hh).2).symm
   ·rw [if_neg hg]; exact (if_neg fun hh=>hg (Bool.and_eq_true_iff.1 hh).1).symm
theorem EI : ∀ (d k:Nat) (v:JV) (rest:By),okV d v→Stop rest→fG k (gE d v ++ rest)=if pL k v=true then .ok (v,rest) else .error 10:=by
 have base : ∀ (V:Option (By→Except Nat (JV×By))) (v:JV) (b rest:By),Stop rest→((v = .null∧b = [110,117,108,108])∨(v = .bool true∧b = [116,114,117,101])∨(v = .bool false∧b = [102,97,108,115,101])∨(∃ n,okN n∧v = .int n∧b=itoa n)∨(∃ t,OkT t∧v = .str t∧b=quo t))→nL V (b ++ rest) = .ok (v,rest):=by
  intro V v b rest hr h
  unfold nL
  rcases h with ⟨rfl,rfl⟩ | ⟨rfl,rfl⟩ | ⟨rfl,rfl⟩ | ⟨n,hn,rfl,rfl⟩ | ⟨t,ht,rfl,rfl⟩
  ·simp only [List.cons_append,List.nil_append]
   rw [fy rfl]
   rfl
  ·simp only [List.cons_append,List.nil_append]
   rw [fy rfl]
   rfl
  ·simp only [List.cons_append,List.nil_append]
   rw [fy rfl]
   rfl
  ·obtain ⟨c,q,e,hc⟩:=sy n
   obtain ⟨⟨a0,_⟩,a1,a2,a3,a4,a5,a6⟩:=vB hc
   have hp:=Ef n hn rest hr
   rw [e,List.cons_append] at hp ⊢
   rw [fy a0]
   simp only
   rw [if_neg a1,if_neg a2,if_neg a3,if_neg (by simp [a4]),if_neg (by simp [a5]),if_neg (by simp [a6]),hp]
  ·unfold quo
   simp only [List.cons_append,List.append_assoc,List.nil_append]
   rw [fy rfl]
   simp only
   rw [if_neg (by decide),if_neg (by decide),if_pos trivial,CV ht]
 intro d
 induction d with
 | zero =>
  intro k v rest h hr
  have hfit:pL k v=true:=by cases v <;> cases k <;> first | rfl | exact h.elim
  rw [if_pos hfit]
  have : ∀ V,nL V (gE 0 v ++ rest) = .ok (v,rest):=by
   intro V
   refine base V v _ rest hr ?_
   cases v with
   | nil=>exact h.elim
   | null=>exact .inl ⟨rfl,rfl⟩
   | bool b=>cases b <;> simp [gE,su]
   | int n=>exact .inr (.inr (.inr (.inl ⟨n,h,rfl,rfl⟩)))
   | str t=>exact .inr (.inr (.inr (.inr ⟨t,h,rfl,rfl⟩)))
   | list l=>exact h.elim
   | obj l=>exact h.elim
  cases k <;> exact this _
 | succ d ih =>
  intro k v rest h hr
  cases v with
  | list l =>
   have hl : ∀ v∈l,okV d v:=h
   show fG k (91 :: (bV (l.map (gE d)) ++ [93]) ++ rest) = _
   simp only [List.cons_append,List.append_assoc,List.nil_append]
   cases k with
   | zero =>
    show nL none _ = _
    unfold nL
    rw [fy rfl]
    rfl
   | succ k =>
    show nL (some (fG k)) _ = _
    unfold nL
    rw [fy rfl]
    simp only
    rw [if_neg (by decide),if_pos trivial]
    cases l with
    | nil=>simp [bV,fy (c:=93) rfl,pL,Ik]
    | cons v l =>
     have ⟨c,q,e,hb,h93,_⟩:=Az d v (hl v (by simp))
     have hj : ∃ q',bV ((v :: l).map (gE d)) ++ 93 :: rest=c :: q':=by
      cases l with
      | nil=>exact ⟨q ++ 93 :: rest,by simp [bV,e]⟩
      | cons w l=>exact ⟨_,by simp only [List.map_cons,bV,e,List.cons_append]; rfl⟩
     obtain ⟨q',hj⟩:=hj
     have hp:=xg (fG k) (gE d) (pL k) (v :: l) ((bV ((v :: l).map (gE d)) ++ 93 :: rest).length+1) rest (by simp)
      (by have:=u5 (gE d) (v :: l) (fun v hv=>by obtain ⟨c,q,e,_⟩:=Az d v (hl v hv); rw [e]; simp); rw [List.length_append]; omega)
      (fun v hv rest hr=>ih k v rest (hl v hv) hr)
     rw [hj] at hp ⊢
     rw [fy hb]
     split
     ·rename_i hh; injection hh with hh _; exact absurd hh h93
     ·rw [hp]
      show _=if (v :: l).all (pL k)=true then _ else _
      cases (v :: l).all (pL k) <;> rfl
  | obj l =>
   obtain ⟨hs,hl⟩:Ris l ∧ ∀ m∈l,OkT m.1∧okV d m.2.1:=h
   show fG k (123 :: (bV (l.map fun m=>quo m.1 ++ 58 :: gE d m.2.1) ++ [125]) ++ rest) = _
   simp only [List.cons_append,List.append_assoc,List.nil_append]
   cases k with
   | zero =>
    show nL none _ = _
    unfold nL
    rw [fy rfl]
    rfl
   | succ k =>
    show nL (some (fG k)) _ = _
    unfold nL
    rw [fy rfl]
    simp only
    rw [if_pos trivial]
    cases l with
    | nil=>simp [bV,fy (c:=125) rfl,pL,Ik]
    | cons m l =>
     have hj : ∃ q',bV ((m :: l).map fun m=>quo m.1 ++ 58 :: gE d m.2.1) ++ 125 :: rest=34 :: q':=by
      cases l with
      | nil=>exact ⟨_,by simp only [List.map_cons,List.map_nil,bV,quo,List.cons_append]; rfl⟩
      | cons w l=>exact ⟨_,by simp only [List.map_cons,bV,quo,List.cons_append]; rfl⟩
     obtain ⟨q',hj⟩:=hj
     have hp:=xu (fG k) (gE d) (pL k) (m :: l) [] ((bV ((m :: l).map fun m=>quo m.1 ++ 58 :: gE d m.2.1) ++ 125 :: rest).length+1) rest (by simp)
      (by have:=u5 (fun m:Me=>quo m.1 ++ 58 :: gE d m.2.1) (m :: l) (fun v hv=>by unfold quo; simp); rw [List.length_append,Nat.add_assoc]; exact Nat.le_trans this (Nat.le_add_right _ _))
      (CX hs) (fun m hm=>(hl m hm).1) (fun m hm rest hr=>ih k m.2.1 rest (hl m hm).2 hr)
     rw [hj] at hp ⊢
     rw [fy rfl]
     split
     ·rename_i hh; injection hh with hh _; exact absurd hh (by decide)
     rw [hp]
     show _=if ((m :: l).all fun m=>pL k m.2.1)=true then _ else _
     cases (m :: l).all fun m=>pL k m.2.1
     ·rfl
     ·simp only [if_true,List.nil_append]
      rw [vd hs]
  | nil=>exact h.elim
  | null =>
   have:pL k (.null)=true:=by cases k <;> rfl
   rw [if_pos this]
   cases k <;> exact base _ _ _ rest hr (.inl ⟨rfl,rfl⟩)
  | bool b =>
   have:pL k (.bool b)=true:=by cases k <;> rfl
   rw [if_pos this]
   cases k <;> cases b <;> exact base _ _ _ rest hr (by simp [gE,su])
  | int n =>
   have:pL k (.int n)=true:=by cases k <;> rfl
   rw [if_pos this]
   cases k <;> exact base _ _ _ rest hr (.inr (.inr (.inr (.inl ⟨n,h,rfl,rfl⟩))))
  | str t =>
   have:pL k (.str t)=true:=by cases k <;> rfl
   rw [if_pos this]
   cases k <;> exact base _ _ _ rest hr (.inr (.inr (.inr (.inr ⟨t,h,rfl,rfl⟩))))
end Go.Vm
