/- JSON, plainly: what is read may be, and is printed in no more bytes. No condition. -/
import Derived.Test.YtihpjgcbmipdbaaGreatDoorPj6
namespace Go.Vm
open Go.Lib (itoa)
set_option linter.unusedVariables false
set_option linter.unusedSimpArgs false
theorem lst_ok (V : By → Except Nat (JV × By)) (f : JV → By) (O : JV → Prop) (hV : ∀ s v r, V s = .ok (v, r) → O v ∧ r <:+ s ∧ r.length < s.length ∧ (f v).length + r.length ≤ s.length) :
  ∀ (n : Nat) (s : By) (l : List JV) (r : By), lstP V n s = .ok (l, r) → (∀ v ∈ l, O v) ∧ r <:+ s ∧ (joinB (l.map f)).length + 1 + r.length ≤ s.length
 | 0, s, l, r, h => by cases h
 | n + 1, s, l, r, h => by
  unfold lstP at h
  cases hv : V s with
  | error e => rw [hv] at h; cases h
  | ok x =>
   obtain ⟨v, r1⟩ := x
   rw [hv] at h
   obtain ⟨o1, o2, o3, o4⟩ := hV s v r1 hv
   simp only at h
   split at h
   ·rename_i r2 hs
    have q1 := skp_len r1
    have q2 : (44 :: r2) <:+ r1 := hs ▸ skp_suffix r1
    rw [hs, List.length_cons] at q1
    cases hl : lstP V n r2 with
    | error e => rw [hl] at h; cases h
    | ok y =>
     obtain ⟨l', r'⟩ := y
     rw [hl] at h
     cases h
     obtain ⟨i1, i2, i3⟩ := lst_ok V f O hV n r2 l' r hl
     refine ⟨fun w hw => ?_, (i2.trans (List.suffix_cons _ _)).trans (q2.trans o2), ?_⟩
     ·rcases List.mem_cons.1 hw with rfl | hw
      ·exact o1
      ·exact i1 w hw
     ·cases l' with
      | nil => simp [joinB] at i3 ⊢; omega
      | cons w l' => simp only [List.map_cons, joinB, List.length_append, List.length_cons] at i3 ⊢; omega
   ·rename_i r2 hs
    cases h
    have q1 := skp_len r1
    have q2 : (93 :: r) <:+ r1 := hs ▸ skp_suffix r1
    rw [hs, List.length_cons] at q1
    refine ⟨fun w hw => ?_, (List.suffix_cons _ _).trans (q2.trans o2), ?_⟩
    ·rw [List.mem_singleton] at hw; subst hw; exact o1
    ·simp [joinB]; omega
   ·cases h
def szM (f : JV → By) (l : List Me) : Nat := (l.map fun m => (quo m.1 ++ 58 :: f m.2.1).length + 1).sum
theorem join_sz {α : Type} (f : α → By) : ∀ (a : α) (l : List α), (joinB ((a :: l).map f)).length + 1 = ((a :: l).map fun x => (f x).length + 1).sum
 | a, [] => by simp [joinB]
 | a, b :: l => by
  have := join_sz f b l
  simp only [List.map_cons, joinB, List.length_append, List.length_cons, List.sum_cons] at this ⊢
  omega
theorem obj_ok (V : By → Except Nat (JV × By)) (f : JV → By) (O : JV → Prop) (hV : ∀ s v r, V s = .ok (v, r) → O v ∧ r <:+ s ∧ r.length < s.length ∧ (f v).length + r.length ≤ s.length) :
  ∀ (n : Nat) (acc : List Me) (s : By) (l : List Me) (r : By), objP V n acc s = .ok (l, r) → Uni acc → (∀ m ∈ acc, OkT m.1 ∧ O m.2.1) → Uni l ∧ l ≠ [] ∧ (∀ m ∈ l, OkT m.1 ∧ O m.2.1) ∧ r <:+ s ∧ szM f l + r.length ≤ szM f acc + s.length
 | 0, acc, s, l, r, h, _, _ => by cases h
 | n + 1, acc, s, l, r, h, hu, ha => by
  unfold objP at h
  split at h
  ·rename_i r0 h0
   have q1 := skp_len s
   have q2 : (34 :: r0) <:+ s := h0 ▸ skp_suffix s
   rw [h0, List.length_cons] at q1
   split at h
   ·cases h
   ·rename_i name r1 h1
    obtain ⟨t1, t2, t3⟩ := txt_ok r0 h1
    split at h
    ·cases h
    ·rename_i hnew
     split at h
     ·rename_i r2 h2
      have q3 := skp_len r1
      have q4 : (58 :: r2) <:+ r1 := h2 ▸ skp_suffix r1
      rw [h2, List.length_cons] at q3
      cases hv : V r2 with
      | error e => rw [hv] at h; cases h
      | ok x =>
       obtain ⟨v, r3⟩ := x
       rw [hv] at h
       obtain ⟨o1, o2, o3, o4⟩ := hV r2 v r3 hv
       have hu' : Uni (acc ++ [(name, v, ())]) := by
        refine List.pairwise_append.2 ⟨hu, List.pairwise_singleton _ _, fun x hx y hy => ?_⟩
        rw [List.mem_singleton] at hy
        subst hy
        intro e
        apply hnew
        rw [List.any_eq_true]
        exact ⟨x, hx, by simpa using e⟩
       have ha' : ∀ m ∈ acc ++ [(name, v, ())], OkT m.1 ∧ O m.2.1 := by
        intro m hm
        rcases List.mem_append.1 hm with hm | hm
        ·exact ha m hm
        ·rw [List.mem_singleton] at hm; subst hm; exact ⟨t1, o1⟩
       have hz : szM f (acc ++ [(name, v, ())]) = szM f acc + ((quoL name).length + (f v).length + 4) := by
        unfold szM quo
        simp
        omega
       have hsuf : r3 <:+ s := o2.trans ((List.suffix_cons _ _).trans (q4.trans (t2.trans ((List.suffix_cons _ _).trans q2))))
       simp only at h
       split at h
       ·rename_i r4 h4
        have q5 := skp_len r3
        have q6 : (44 :: r4) <:+ r3 := h4 ▸ skp_suffix r3
        rw [h4, List.length_cons] at q5
        obtain ⟨i1, i2, i3, i4, i5⟩ := obj_ok V f O hV n _ r4 l r h hu' ha'
        exact ⟨i1, i2, i3, i4.trans ((List.suffix_cons _ _).trans (q6.trans hsuf)), by rw [hz] at i5; omega⟩
       ·rename_i r4 h4
        cases h
        have q5 := skp_len r3
        have q6 : (125 :: r) <:+ r3 := h4 ▸ skp_suffix r3
        rw [h4, List.length_cons] at q5
        exact ⟨hu', by simp, ha', (List.suffix_cons _ _).trans (q6.trans hsuf), by rw [hz]; omega⟩
       ·cases h
     ·cases h
  ·cases h
theorem perm_sz (f : JV → By) {l l' : List Me} (h : l.Perm l') : szM f l = szM f l' := (h.map _).sum_nat
theorem val_ok : ∀ (d : Nat) (s : By) (v : JV) (r : By), valP d s = .ok (v, r) → okV d v ∧ r <:+ s ∧ r.length < s.length ∧ (layP d v).length + r.length ≤ s.length := by
 have base : ∀ (V : Option (By → Except Nat (JV × By))) (L : Option (JV → By)) (O : Option (JV → Prop)) (hLO : V = none ∧ L = none ∧ O = none ∨ ∃ W M Q, V = some W ∧ L = some M ∧ O = some Q ∧ ∀ s v r, W s = .ok (v, r) → Q v ∧ r <:+ s ∧ r.length < s.length ∧ (M v).length + r.length ≤ s.length) (s : By) (v : JV) (r : By), valB V s = .ok (v, r) →
   okB O v ∧ r <:+ s ∧ r.length < s.length ∧ (layB L v).length + r.length ≤ s.length := by
  intro V L O hLO s v r h
  unfold valB at h
  split at h
  ·cases h
  ·rename_i c t hs
   have q1 := skp_len s
   have q2 : (c :: t) <:+ s := hs ▸ skp_suffix s
   rw [hs, List.length_cons] at q1
   have q3 : t <:+ s := (List.suffix_cons _ _).trans q2
   by_cases c1 : c = 123
   ·rw [if_pos c1] at h
    rcases hLO with ⟨rfl, rfl, rfl⟩ | ⟨W, M, Q, rfl, rfl, rfl, hW⟩
    ·cases h
    ·simp only at h
     split at h
     ·rename_i t' ht
      cases h
      have q4 := skp_len t
      have q5 : (125 :: r) <:+ t := ht ▸ skp_suffix t
      rw [ht, List.length_cons] at q4
      exact ⟨⟨.nil, fun m hm => by cases hm⟩, (List.suffix_cons _ _).trans (q5.trans q3), by omega, by simp [layB, joinB]; omega⟩
     ·cases ho : objP W ((skp t).length + 1) [] (skp t) with
      | error e => rw [ho] at h; cases h
      | ok x =>
       obtain ⟨l, r'⟩ := x
       rw [ho] at h
       cases h
       obtain ⟨o1, o2, o3, o4, o5⟩ := obj_ok W M Q hW _ [] _ l r ho .nil (fun m hm => by cases hm)
       have q4 := skp_len t
       have q5 := skp_suffix t
       refine ⟨⟨sortM_ris l o1, fun m hm => o3 m ((sortM_perm l).mem_iff.1 hm)⟩, o4.trans (q5.trans q3), ?_, ?_⟩
       ·have := o4.length_le
        omega
       ·have p1 := perm_sz M (sortM_perm l)
        have p2 : szM M [] = 0 := rfl
        cases hl : sortM l with
        | nil => exact absurd ((sortM_perm l).symm.trans (by rw [hl])).eq_nil o2
        | cons m l' =>
         have p3 := join_sz (fun m : Me => quo m.1 ++ 58 :: M m.2.1) m l'
         rw [hl] at p1
         unfold szM at p1 p2 o5
         show (123 :: (joinB _ ++ [125])).length + _ ≤ _
         rw [List.length_cons, List.length_append, List.length_singleton]
         rw [← p1, p2] at o5
         have p4 := Nat.le_trans (Nat.add_le_add_right (Nat.le_of_eq p3) r.length) o5
         have p5 : ∀ J : Nat, J + 1 + r.length ≤ 0 + (skp t).length → J + 1 + 1 + r.length ≤ s.length := fun J hJ => by omega
         exact p5 _ p4
   rw [if_neg c1] at h
   by_cases c2 : c = 91
   ·rw [if_pos c2] at h
    rcases hLO with ⟨rfl, rfl, rfl⟩ | ⟨W, M, Q, rfl, rfl, rfl, hW⟩
    ·cases h
    ·simp only at h
     split at h
     ·rename_i t' ht
      cases h
      have q4 := skp_len t
      have q5 : (93 :: r) <:+ t := ht ▸ skp_suffix t
      rw [ht, List.length_cons] at q4
      exact ⟨(fun m hm => by cases hm), (List.suffix_cons _ _).trans (q5.trans q3), by omega, by simp [layB, joinB]; omega⟩
     ·cases ho : lstP W ((skp t).length + 1) (skp t) with
      | error e => rw [ho] at h; cases h
      | ok x =>
       obtain ⟨l, r'⟩ := x
       rw [ho] at h
       cases h
       obtain ⟨o1, o2, o3⟩ := lst_ok W M Q hW _ _ l r ho
       have q4 := skp_len t
       have q5 := skp_suffix t
       refine ⟨o1, o2.trans (q5.trans q3), ?_, ?_⟩
       ·have := o2.length_le
        omega
       ·show (91 :: (joinB _ ++ [93])).length + _ ≤ _
        rw [List.length_cons, List.length_append, List.length_singleton]
        omega
   rw [if_neg c2] at h
   by_cases c3 : c = 34
   ·rw [if_pos c3] at h
    split at h
    ·cases h
    ·rename_i tt r' ht
     cases h
     obtain ⟨t1, t2, t3⟩ := txt_ok t ht
     exact ⟨t1, t2.trans q3, by omega, by simp [layB, quo]; omega⟩
   rw [if_neg c3] at h
   have word : ∀ (w : By) (k : Nat) (v : JV), w.length = k + 1 → (c :: t).take (k + 1) = w → v = .null ∨ (∃ b, v = .bool b) → (layB L v).length ≤ k + 1 → okB O v ∧ t.drop k <:+ s ∧ (t.drop k).length < s.length ∧ (layB L v).length + (t.drop k).length ≤ s.length := by
    intro w k v hw ht hv hl
    have : k ≤ t.length := by
     have e := congrArg List.length ht
     rw [hw] at e
     simp at e
     omega
    refine ⟨?_, (List.drop_suffix _ _).trans q3, by simp; omega, by simp; omega⟩
    rcases hv with rfl | ⟨b, rfl⟩ <;> exact trivial
   by_cases c4 : (c :: t).take 4 = [110, 117, 108, 108]
   ·rw [if_pos c4] at h
    cases h
    exact word _ 3 _ rfl c4 (.inl rfl) (Nat.le_refl _)
   rw [if_neg c4] at h
   by_cases c5 : (c :: t).take 4 = [116, 114, 117, 101]
   ·rw [if_pos c5] at h
    cases h
    exact word _ 3 _ rfl c5 (.inr ⟨_, rfl⟩) (Nat.le_refl _)
   rw [if_neg c5] at h
   by_cases c6 : (c :: t).take 5 = [102, 97, 108, 115, 101]
   ·rw [if_pos c6] at h
    cases h
    exact word _ 4 _ rfl c6 (.inr ⟨_, rfl⟩) (Nat.le_refl _)
   rw [if_neg c6] at h
   split at h
   ·cases h
   ·rename_i n r' hn
    cases h
    obtain ⟨n1, n2, n3, n4⟩ := num_ok hn
    simp only [List.length_cons] at n3 n4
    exact ⟨n1, n2.trans q2, by omega, by show (itoa n).length + _ ≤ _; omega⟩
 intro d
 induction d with
 | zero => exact base none none none (.inl ⟨rfl, rfl, rfl⟩)
 | succ d ih => exact base (some (valP d)) (some (layP d)) (some (okV d)) (.inr ⟨_, _, _, rfl, rfl, rfl, ih⟩)
end Go.Vm
