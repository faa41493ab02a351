/- JSON, plainly: values. What is printed is read. No condition. -/
import Derived.Test.YtgejjocbhonkjaaDoorPj4
namespace Go.Vm
open Go.Lib (itoa)
set_option linter.unusedVariables false
set_option linter.unusedSimpArgs false

def okB (O : Option (JV → Prop)) : JV → Prop
  | .nil => False
  | .null => True
  | .bool _ => True
  | .int n => okN n
  | .str t => OkT t
  | .list l => match O with
    | none => False
    | some O => ∀ v ∈ l, O v
  | .obj l => match O with
    | none => False
    | some O => Ris l ∧ ∀ m ∈ l, OkT m.1 ∧ O m.2.1
/-- A value that a text may be, of at most so many open. -/
def okV : Nat → JV → Prop
  | 0 => okB none
  | d + 1 => okB (some (okV d))
def fitB (O : Option (JV → Bool)) : JV → Bool
  | .list l => match O with
    | none => false
    | some O => l.all O
  | .obj l => match O with
    | none => false
    | some O => l.all fun m => O m.2.1
  | _ => true
/-- Are at most so many open? -/
def fitV : Nat → JV → Bool
  | 0 => fitB none
  | d + 1 => fitB (some (fitV d))

theorem ok_fit : ∀ (d : Nat) (v : JV), okV d v → fitV d v = true
  | 0, v, h => by cases v <;> first | rfl | (exact h.elim)
  | d + 1, v, h => by
    cases v <;> first | rfl | skip
    · rename_i l
      exact List.all_eq_true.2 fun v hv => ok_fit d v (h v hv)
    · rename_i l
      exact List.all_eq_true.2 fun m hm => ok_fit d m.2.1 (h.2 m hm).2

/-! ### heads -/
def Head (c : UInt8) : Prop := isBl c = false ∧ c ≠ 93 ∧ c ≠ 125 ∧ c ≠ 44
theorem dig_head {c : UInt8} (h : c = 45 ∨ isDig c = true) : Head c ∧ c ≠ 123 ∧ c ≠ 91 ∧ c ≠ 34 ∧ c ≠ 110 ∧ c ≠ 116 ∧ c ≠ 102 := by
  rcases h with rfl | h
  · exact ⟨⟨rfl, by decide, by decide, by decide⟩, by decide, by decide, by decide, by decide, by decide, by decide⟩
  · have hb : isBl c = false := by
      have q : ∀ k : UInt8, isDig k = false → (c == k) = false := by
        intro k hk
        rw [beq_eq_false_iff_ne]
        rintro rfl
        rw [h] at hk; cases hk
      unfold isBl
      rw [q 32 (by decide), q 9 (by decide), q 10 (by decide), q 13 (by decide)]
      rfl
    refine ⟨⟨hb, ?_, ?_, ?_⟩, ?_, ?_, ?_, ?_, ?_, ?_⟩ <;> (rintro rfl; exact absurd h (by decide))
theorem lay_head : ∀ (d : Nat) (v : JV), okV d v → ∃ c q, layP d v = c :: q ∧ Head c := by
  intro d v h
  have hd : Head 110 ∧ Head 116 ∧ Head 102 ∧ Head 34 ∧ Head 91 ∧ Head 123 := by refine ⟨?_, ?_, ?_, ?_, ?_, ?_⟩ <;> exact ⟨rfl, by decide, by decide, by decide⟩
  obtain ⟨h1, h2, h3, h4, h5, h6⟩ := hd
  cases v with
  | nil => cases d <;> exact h.elim
  | null => cases d <;> exact ⟨_, _, rfl, h1⟩
  | bool b => cases d <;> cases b <;> first | exact ⟨_, _, rfl, h2⟩ | exact ⟨_, _, rfl, h3⟩
  | int n =>
    obtain ⟨c, q, e, hc⟩ := itoa_head n
    cases d <;> exact ⟨c, q, e, (dig_head hc).1⟩
  | str t => cases d <;> exact ⟨_, _, rfl, h4⟩
  | list l => cases d with
    | zero => exact h.elim
    | succ d => exact ⟨_, _, rfl, h5⟩
  | obj l => cases d with
    | zero => exact h.elim
    | succ d => exact ⟨_, _, rfl, h6⟩

theorem skp_of {c : UInt8} (h : isBl c = false) (q : By) : skp (c :: q) = c :: q := by unfold skp; rw [List.dropWhile_cons_of_neg (by rw [h]; decide)]
theorem skp_of' {c : UInt8} (h : isBl c = true) (q : By) : skp (c :: q) = skp q := by unfold skp; rw [List.dropWhile_cons_of_pos h]
theorem stop_of {c : UInt8} (h : isDig c = false) (q : By) : Stop (c :: q) := by
  intro x r e
  injection e with e _
  rw [← e]; exact h
theorem join_len {α : Type} (f : α → By) : ∀ l : List α, (∀ v ∈ l, f v ≠ []) → l.length ≤ (joinB (l.map f)).length
  | [], _ => by simp
  | [v], h => by have := List.length_pos_iff.2 (h v (by simp)); simp [joinB]; omega
  | v :: w :: l, h => by
    have := join_len f (w :: l) (fun v hv => h v (List.mem_cons_of_mem _ hv))
    simp only [List.map_cons, joinB, List.length_append, List.length_cons] at this ⊢
    omega

theorem lst_print (V : By → Except Nat (JV × By)) (f : JV → By) (g : JV → Bool) : ∀ (l : List JV) (n : Nat) (rest : By), l ≠ [] → l.length ≤ n → (∀ v ∈ l, ∀ rest, Stop rest → V (f v ++ rest) = if g v = true then .ok (v, rest) else .error 10) →
    lstP V n (joinB (l.map f) ++ 93 :: rest) = if l.all g = true then .ok (l, rest) else .error 10
  | [], n, rest, h, _, _ => absurd rfl h
  | v :: l, 0, rest, _, h, _ => absurd h (by simp)
  | [v], n + 1, rest, _, _, hV => by
    have := hV v (by simp) (93 :: rest) (stop_of rfl _)
    unfold lstP
    simp only [List.map_cons, List.map_nil, joinB, this, List.all_cons, List.all_nil, Bool.and_true]
    cases hg : g v with
    | false => simp
    | true => simp only [if_true]; rw [skp_of rfl]; rfl
  | v :: w :: l, n + 1, rest, _, hn, hV => by
    have := hV v (by simp) (44 :: (joinB ((w :: l).map f) ++ 93 :: rest)) (stop_of rfl _)
    have ih := lst_print V f g (w :: l) n rest (by simp) (by simp at hn ⊢; omega) (fun v hv => hV v (List.mem_cons_of_mem _ hv))
    unfold lstP
    simp only [List.map_cons, joinB, List.append_assoc, List.cons_append] at this ih ⊢
    rw [this, List.all_cons]
    cases hg : g v with
    | false => simp
    | true =>
      simp only [if_true, Bool.true_and]
      rw [skp_of rfl]
      simp only
      rw [ih]
      cases h2 : (w :: l).all g <;> simp

theorem obj_print (V : By → Except Nat (JV × By)) (f : JV → By) (g : JV → Bool) : ∀ (l acc : List Me) (n : Nat) (rest : By), l ≠ [] → l.length ≤ n → Uni (acc ++ l) → (∀ m ∈ l, OkT m.1) → (∀ m ∈ l, ∀ rest, Stop rest → V (f m.2.1 ++ rest) = if g m.2.1 = true then .ok (m.2.1, rest) else .error 10) →
    objP V n acc (joinB (l.map fun m => quo m.1 ++ 58 :: f m.2.1) ++ 125 :: rest) = if (l.all fun m => g m.2.1) = true then .ok (acc ++ l, rest) else .error 10
  | [], acc, n, rest, h, _, _, _, _ => absurd rfl h
  | v :: l, acc, 0, rest, _, h, _, _, _ => absurd h (by simp)
  | m :: l, acc, n + 1, rest, _, hn, hu, hok, hV => by
    have hnew : (acc.any fun x => x.1 == m.1) = false := by
      rw [List.any_eq_false]
      intro x hx
      have := (List.pairwise_append.1 hu).2.2 x hx m (by simp)
      simpa using this
    have key : ∀ q, Stop q → objP V (n + 1) acc (quo m.1 ++ 58 :: f m.2.1 ++ q) = if g m.2.1 = true then (match skp q with
            | 44 :: r => objP V n (acc ++ [(m.1, m.2.1, ())]) r
            | 125 :: r => .ok (acc ++ [(m.1, m.2.1, ())], r)
            | _ => .error 3) else .error 10 := by
      intro q hq
      conv => lhs; unfold objP
      unfold quo
      simp only [List.cons_append, List.append_assoc, List.nil_append]
      rw [skp_of rfl]
      simp only
      rw [txt_quo (hok m (by simp))]
      simp only [hnew, Bool.false_eq_true, if_false]
      rw [skp_of rfl]
      simp only
      rw [hV m (by simp) q hq]
      cases hg : g m.2.1 <;> rfl
    cases l with
    | nil =>
      simp only [List.map_cons, List.map_nil, joinB]
      rw [key _ (stop_of rfl _), skp_of rfl]
      simp only [List.all_cons, List.all_nil, Bool.and_true]
    | cons w l =>
      have ih := obj_print V f g (w :: l) (acc ++ [m]) n rest (by simp) (by simp at hn ⊢; omega) (by simpa using hu) (fun m hm => hok m (List.mem_cons_of_mem _ hm)) (fun m hm => hV m (List.mem_cons_of_mem _ hm))
      simp only [List.map_cons, joinB] at ih ⊢
      have k2 := key (44 :: (joinB ((quo w.1 ++ 58 :: f w.2.1) :: List.map (fun m => quo m.1 ++ 58 :: f m.2.1) l) ++ 125 :: rest)) (stop_of rfl _)
      simp only [List.append_assoc, List.cons_append] at k2 ih ⊢
      rw [k2, skp_of rfl]
      simp only
      rw [show ((m.1, m.2.1, ()) : Me) = m from rfl, ih]
      simp only [List.append_assoc, List.singleton_append, List.nil_append]
      by_cases hg : g m.2.1 = true
      · rw [if_pos hg]
        by_cases h2 : ((w :: l).all fun m => g m.2.1) = true
        · rw [if_pos h2]; exact (if_pos (Bool.and_eq_true_iff.2 ⟨hg, h2⟩)).symm
        · rw [if_neg h2]; exact (if_neg fun hh => h2 (Bool.and_eq_true_iff.1 hh).2).symm
      · rw [if_neg hg]; exact (if_neg fun hh => hg (Bool.and_eq_true_iff.1 hh).1).symm

/-- What is printed is read, if no more are open. -/
theorem val_print : ∀ (d k : Nat) (v : JV) (rest : By), okV d v → Stop rest → valP k (layP d v ++ rest) = if fitV k v = true then .ok (v, rest) else .error 10 := by
  have base : ∀ (V : Option (By → Except Nat (JV × By))) (v : JV) (b rest : By), Stop rest → ((v = .null ∧ b = [110, 117, 108, 108]) ∨ (v = .bool true ∧ b = [116, 114, 117, 101]) ∨ (v = .bool false ∧ b = [102, 97, 108, 115, 101]) ∨ (∃ n, okN n ∧ v = .int n ∧ b = itoa n) ∨ (∃ t, OkT t ∧ v = .str t ∧ b = quo t)) → valB V (b ++ rest) = .ok (v, rest) := by
    intro V v b rest hr h
    unfold valB
    rcases h with ⟨rfl, rfl⟩ | ⟨rfl, rfl⟩ | ⟨rfl, rfl⟩ | ⟨n, hn, rfl, rfl⟩ | ⟨t, ht, rfl, rfl⟩
    · simp only [List.cons_append, List.nil_append]
      rw [skp_of rfl]
      rfl
    · simp only [List.cons_append, List.nil_append]
      rw [skp_of rfl]
      rfl
    · simp only [List.cons_append, List.nil_append]
      rw [skp_of rfl]
      rfl
    · obtain ⟨c, q, e, hc⟩ := itoa_head n
      obtain ⟨⟨a0, _⟩, a1, a2, a3, a4, a5, a6⟩ := dig_head hc
      have hp := num_print n hn rest hr
      rw [e, List.cons_append] at hp ⊢
      rw [skp_of a0]
      simp only
      rw [if_neg a1, if_neg a2, if_neg a3, if_neg (by simp [a4]), if_neg (by simp [a5]), if_neg (by simp [a6]), hp]
    · unfold quo
      simp only [List.cons_append, List.append_assoc, List.nil_append]
      rw [skp_of rfl]
      simp only
      rw [if_neg (by decide), if_neg (by decide), if_pos trivial, txt_quo ht]
  intro d
  induction d with
  | zero =>
    intro k v rest h hr
    have hfit : fitV k v = true := by cases v <;> cases k <;> first | rfl | exact h.elim
    rw [if_pos hfit]
    have : ∀ V, valB V (layP 0 v ++ rest) = .ok (v, rest) := by
      intro V
      refine base V v _ rest hr ?_
      cases v with
      | nil => exact h.elim
      | null => exact .inl ⟨rfl, rfl⟩
      | bool b => cases b <;> simp [layP, layB]
      | int n => exact .inr (.inr (.inr (.inl ⟨n, h, rfl, rfl⟩)))
      | str t => exact .inr (.inr (.inr (.inr ⟨t, h, rfl, rfl⟩)))
      | list l => exact h.elim
      | obj l => exact h.elim
    cases k <;> exact this _
  | succ d ih =>
    intro k v rest h hr
    cases v with
    | list l =>
      have hl : ∀ v ∈ l, okV d v := h
      show valP k (91 :: (joinB (l.map (layP d)) ++ [93]) ++ rest) = _
      simp only [List.cons_append, List.append_assoc, List.nil_append]
      cases k with
      | zero =>
        show valB none _ = _
        unfold valB
        rw [skp_of rfl]
        rfl
      | succ k =>
        show valB (some (valP k)) _ = _
        unfold valB
        rw [skp_of rfl]
        simp only
        rw [if_neg (by decide), if_pos trivial]
        cases l with
        | nil => simp [joinB, skp_of (c := 93) rfl, fitV, fitB]
        | cons v l =>
          have ⟨c, q, e, hb, h93, _⟩ := lay_head d v (hl v (by simp))
          have hj : ∃ q', joinB ((v :: l).map (layP d)) ++ 93 :: rest = c :: q' := by
            cases l with
            | nil => exact ⟨q ++ 93 :: rest, by simp [joinB, e]⟩
            | cons w l => exact ⟨_, by simp only [List.map_cons, joinB, e, List.cons_append]; rfl⟩
          obtain ⟨q', hj⟩ := hj
          have hp := lst_print (valP k) (layP d) (fitV k) (v :: l) ((joinB ((v :: l).map (layP d)) ++ 93 :: rest).length + 1) rest (by simp)
            (by have := join_len (layP d) (v :: l) (fun v hv => by obtain ⟨c, q, e, _⟩ := lay_head d v (hl v hv); rw [e]; simp); rw [List.length_append]; omega)
            (fun v hv rest hr => ih k v rest (hl v hv) hr)
          rw [hj] at hp ⊢
          rw [skp_of hb]
          split
          · rename_i hh; injection hh with hh _; exact absurd hh h93
          · rw [hp]
            show _ = if (v :: l).all (fitV k) = true then _ else _
            cases (v :: l).all (fitV k) <;> rfl
    | obj l =>
      obtain ⟨hs, hl⟩ : Ris l ∧ ∀ m ∈ l, OkT m.1 ∧ okV d m.2.1 := h
      show valP k (123 :: (joinB (l.map fun m => quo m.1 ++ 58 :: layP d m.2.1) ++ [125]) ++ rest) = _
      simp only [List.cons_append, List.append_assoc, List.nil_append]
      cases k with
      | zero =>
        show valB none _ = _
        unfold valB
        rw [skp_of rfl]
        rfl
      | succ k =>
        show valB (some (valP k)) _ = _
        unfold valB
        rw [skp_of rfl]
        simp only
        rw [if_pos trivial]
        cases l with
        | nil => simp [joinB, skp_of (c := 125) rfl, fitV, fitB]
        | cons m l =>
          have hj : ∃ q', joinB ((m :: l).map fun m => quo m.1 ++ 58 :: layP d m.2.1) ++ 125 :: rest = 34 :: q' := by
            cases l with
            | nil => exact ⟨_, by simp only [List.map_cons, List.map_nil, joinB, quo, List.cons_append]; rfl⟩
            | cons w l => exact ⟨_, by simp only [List.map_cons, joinB, quo, List.cons_append]; rfl⟩
          obtain ⟨q', hj⟩ := hj
          have hp := obj_print (valP k) (layP d) (fitV k) (m :: l) [] ((joinB ((m :: l).map fun m => quo m.1 ++ 58 :: layP d m.2.1) ++ 125 :: rest).length + 1) rest (by simp)
            (by have := join_len (fun m : Me => quo m.1 ++ 58 :: layP d m.2.1) (m :: l) (fun v hv => by unfold quo; simp); rw [List.length_append, Nat.add_assoc]; exact Nat.le_trans this (Nat.le_add_right _ _))
            (ris_uni hs) (fun m hm => (hl m hm).1) (fun m hm rest hr => ih k m.2.1 rest (hl m hm).2 hr)
          rw [hj] at hp ⊢
          rw [skp_of rfl]
          split
          · rename_i hh; injection hh with hh _; exact absurd hh (by decide)
          rw [hp]
          show _ = if ((m :: l).all fun m => fitV k m.2.1) = true then _ else _
          cases (m :: l).all fun m => fitV k m.2.1
          · rfl
          · simp only [if_true, List.nil_append]
            rw [sortM_ris_self hs]
    | nil => exact h.elim
    | null =>
      have : fitV k (.null) = true := by cases k <;> rfl
      rw [if_pos this]
      cases k <;> exact base _ _ _ rest hr (.inl ⟨rfl, rfl⟩)
    | bool b =>
      have : fitV k (.bool b) = true := by cases k <;> rfl
      rw [if_pos this]
      cases k <;> cases b <;> exact base _ _ _ rest hr (by simp [layP, layB])
    | int n =>
      have : fitV k (.int n) = true := by cases k <;> rfl
      rw [if_pos this]
      cases k <;> exact base _ _ _ rest hr (.inr (.inr (.inr (.inl ⟨n, h, rfl, rfl⟩))))
    | str t =>
      have : fitV k (.str t) = true := by cases k <;> rfl
      rw [if_pos this]
      cases k <;> exact base _ _ _ rest hr (.inr (.inr (.inr (.inr ⟨t, h, rfl, rfl⟩))))
end Go.Vm
