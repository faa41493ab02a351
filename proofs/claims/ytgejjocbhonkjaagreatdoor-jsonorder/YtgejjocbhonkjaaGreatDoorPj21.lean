/- JSON: the law of order. -/
import Derived.Test.YtgejjocbhonkjaaGreatDoorPj20
namespace Go.Vm
open Go.Proofs
open Go.Lib (decodeL decDigits itoa)
set_option linter.unusedVariables false
set_option linter.unusedSimpArgs false

/-! ### faults are small -/
theorem lst_err (V : By → Except Nat (JV × By)) (hV : ∀ s e, V s = .error e → e ≤ 10) : ∀ n s e, lstP V n s = .error e → e ≤ 10
  | 0, s, e, h => by unfold lstP at h; cases h; decide
  | n + 1, s, e, h => by
    unfold lstP at h
    cases hv : V s with
    | error e' => rw [hv] at h; simp only at h; cases h; exact hV _ _ hv
    | ok w =>
      obtain ⟨v, r⟩ := w
      rw [hv] at h
      simp only at h
      split at h
      · rename_i r' _
        cases hl : lstP V n r' with
        | error e' => rw [hl] at h; simp only at h; cases h; exact lst_err V hV n _ _ hl
        | ok w => rw [hl] at h; cases h
      · cases h
      · cases h; decide
theorem mem_err (V : By → Except Nat (JV × By)) (hV : ∀ s e, V s = .error e → e ≤ 10) (acc : List Me) (s : By) (e : Nat) (h : memP V acc s = .error e) : e ≤ 10 := by
  unfold memP at h
  split at h
  · split at h
    · cases h; decide
    · split at h
      · cases h; decide
      · split at h
        · rename_i r2 _
          cases hv : V r2 with
          | error e' => rw [hv] at h; simp only at h; cases h; exact hV _ _ hv
          | ok w => rw [hv] at h; cases h
        · cases h; decide
  · cases h; decide
theorem obj_err (V : By → Except Nat (JV × By)) (hV : ∀ s e, V s = .error e → e ≤ 10) : ∀ n acc s e, objP V n acc s = .error e → e ≤ 10
  | 0, acc, s, e, h => by unfold objP at h; cases h; decide
  | n + 1, acc, s, e, h => by
    rw [objP_mem] at h
    cases hm : memP V acc s with
    | error e' => rw [hm] at h; simp only at h; cases h; exact mem_err V hV _ _ _ hm
    | ok w =>
      obtain ⟨m, r⟩ := w
      rw [hm] at h
      simp only at h
      split at h
      · exact obj_err V hV n _ _ _ h
      · cases h
      · cases h; decide
theorem valB_err (V : Option (By → Except Nat (JV × By))) (hV : ∀ W, V = some W → ∀ s e, W s = .error e → e ≤ 10) (s : By) (e : Nat) (h : valB V s = .error e) : e ≤ 10 := by
  unfold valB at h
  cases hsk : skp s with
  | nil => rw [hsk] at h; cases h; decide
  | cons c r =>
    rw [hsk] at h
    simp only at h
    split at h
    · cases V with
      | none => simp only at h; cases h; decide
      | some W =>
        simp only at h
        split at h
        · cases h
        · cases ho : objP W ((skp r).length + 1) [] (skp r) with
          | error e' => rw [ho] at h; simp only at h; cases h; exact obj_err W (hV W rfl) _ _ _ _ ho
          | ok w => rw [ho] at h; cases h
    · split at h
      · cases V with
        | none => simp only at h; cases h; decide
        | some W =>
          simp only at h
          split at h
          · cases h
          · cases ho : lstP W ((skp r).length + 1) (skp r) with
            | error e' => rw [ho] at h; simp only at h; cases h; exact lst_err W (hV W rfl) _ _ _ ho
            | ok w => rw [ho] at h; cases h
      · split at h
        · cases ht : txt r with
          | none => rw [ht] at h; simp only at h; cases h; decide
          | some w => rw [ht] at h; cases h
        · split at h
          · cases h
          · split at h
            · cases h
            · split at h
              · cases h
              · cases hn : numP (c :: r) with
                | none => rw [hn] at h; simp only at h; cases h; decide
                | some w => rw [hn] at h; cases h
theorem val_err : ∀ d s e, valP d s = .error e → e ≤ 10
  | 0, s, e, h => valB_err none (fun W hW => by cases hW) s e h
  | d + 1, s, e, h => valB_err (some (valP d)) (fun W hW => by injection hW with hW; subst hW; exact val_err d) s e h
theorem all_err10 {s : By} {e : Nat} (h : allP s = .error e) : e ≤ 10 := by
  unfold allP at h
  split at h
  · cases h; decide
  · cases hv : valP 8 s with
    | error e' => rw [hv] at h; simp only at h; cases h; exact val_err 8 s _ hv
    | ok w =>
      obtain ⟨v, r⟩ := w
      rw [hv] at h
      simp only at h
      split at h
      · cases h
      · cases h; decide

/-! ### two members, in two orders -/
theorem valP_sp (d : Nat) (s : By) : valP d (32 :: s) = valP d s := by
  have : ∀ V, valB V (32 :: s) = valB V s := by
    intro V
    unfold valB
    rw [skp_of' (c := 32) rfl]
  cases d with
  | zero => exact this none
  | succ d => exact this (some (valP d))
theorem mem_one (V : By → Except Nat (JV × By)) (acc : List Me) (c : UInt8) (hc : c = 120 ∨ c = 121) (ha : acc.any (fun m => m.1 == [c]) = false) (r x : By) (hr : skp r = 58 :: x) : memP V acc (34 :: c :: 34 :: r) = match V x with
    | .error e => .error e
    | .ok (v, q) => .ok (([c], v, ()), q) := by
  have ht : txt (c :: 34 :: r) = some ([c], r) := by
    rcases hc with rfl | rfl
    · exact txt_quo (t := [120]) (OkT.cons 120 [] (by unfold okR; decide) OkT.nil) r
    · exact txt_quo (t := [121]) (OkT.cons 121 [] (by unfold okR; decide) OkT.nil) r
  unfold memP
  rw [skp_of (c := 34) rfl]
  simp only [ht, ha, Bool.false_eq_true, if_false, hr]
  cases V x <;> rfl
theorem two_t (a b : JV) (ha : okV 8 a) (hb : okV 8 b) (c1 c2 : UInt8) (h12 : c1 = 120 ∧ c2 = 121 ∨ c1 = 121 ∧ c2 = 120) (r1 r2 x1 x2 : By) (hr1 : skp r1 = 58 :: x1) (hx1 : valP 7 x1 = valP 7 (layP 8 a ++ 44 :: 34 :: c2 :: 34 :: r2))
    (hr2 : skp r2 = 58 :: x2) (hx2 : valP 7 x2 = valP 7 (layP 8 b ++ [125])) (n : Nat) :
    objP (valP 7) (n + 2) [] (34 :: c1 :: 34 :: r1) = if (fitV 7 a && fitV 7 b) = true then .ok ([([c1], a, ()), ([c2], b, ())], []) else .error 10 := by
  have hc1 : c1 = 120 ∨ c1 = 121 := h12.elim (fun h => .inl h.1) (fun h => .inr h.1)
  have hc2 : c2 = 120 ∨ c2 = 121 := h12.elim (fun h => .inr h.2) (fun h => .inl h.2)
  have hne : ([([c1], a, ())] : List Me).any (fun m => m.1 == [c2]) = false := by rcases h12 with ⟨rfl, rfl⟩ | ⟨rfl, rfl⟩ <;> rfl
  have p1 := val_print 8 7 a (44 :: 34 :: c2 :: 34 :: r2) ha (stop_of (by decide) _)
  have p2 := val_print 8 7 b [125] hb (stop_of (by decide) _)
  rw [objP_mem, mem_one (valP 7) [] c1 hc1 rfl r1 x1 hr1, hx1, p1]
  by_cases fa : fitV 7 a = true
  · rw [if_pos fa]
    simp only
    rw [skp_of (c := 44) (by decide)]
    simp only [List.nil_append]
    rw [objP_mem, mem_one (valP 7) [([c1], a, ())] c2 hc2 hne r2 x2 hr2, hx2, p2]
    by_cases fb : fitV 7 b = true
    · rw [if_pos fb]
      simp only
      rw [skp_of (c := 125) (by decide), fa, fb]
      rfl
    · rw [if_neg fb]
      simp only
      rw [fa, Bool.true_and, if_neg fb]
  · rw [if_neg fa]
    simp only
    have : ¬ (fitV 7 a && fitV 7 b) = true := by simp [fa]
    rw [if_neg this]
theorem two_all (a b : JV) (ha : okV 8 a) (hb : okV 8 b) (c1 c2 : UInt8) (h12 : c1 = 120 ∧ c2 = 121 ∨ c1 = 121 ∧ c2 = 120) (r1 r2 x1 x2 : By) (hr1 : skp r1 = 58 :: x1) (hx1 : valP 7 x1 = valP 7 (layP 8 a ++ 44 :: 34 :: c2 :: 34 :: r2))
    (hr2 : skp r2 = 58 :: x2) (hx2 : valP 7 x2 = valP 7 (layP 8 b ++ [125])) :
    allP (123 :: 34 :: c1 :: 34 :: r1) = if 400 < (123 :: 34 :: c1 :: 34 :: r1 : By).length then .error 5 else if (fitV 7 a && fitV 7 b) = true then .ok (.obj (sortM [([c1], a, ()), ([c2], b, ())])) else .error 10 := by
  unfold allP
  split
  · rfl
  · have h8 : valP 8 (123 :: 34 :: c1 :: 34 :: r1) = match objP (valP 7) ((34 :: c1 :: 34 :: r1 : By).length + 1) [] (34 :: c1 :: 34 :: r1) with
        | .error e => .error e
        | .ok (l, r) => .ok (.obj (sortM l), r) := by
      show valB (some (valP 7)) _ = _
      unfold valB
      rw [skp_of (c := 123) (by decide)]
      simp only [if_true]
      rw [skp_of (c := 34) (by decide)]
      rfl
    have e2 : (34 :: c1 :: 34 :: r1 : By).length + 1 = (r1.length + 2) + 2 := by simp
    rw [h8, e2, two_t a b ha hb c1 c2 h12 r1 r2 x1 x2 hr1 hx1 hr2 hx2]
    by_cases hf : (fitV 7 a && fitV 7 b) = true
    · rw [if_pos hf, if_pos hf]
      rfl
    · rw [if_neg hf, if_neg hf]
theorem two_form (a b : JV) (ha : okV 8 a) (hb : okV 8 b) :
    formP ([123, 34, 120, 34, 58] ++ layP 8 a ++ [44, 34, 121, 34, 58, 32] ++ layP 8 b ++ [125]) = formP ([123, 34, 121, 34, 32, 58] ++ layP 8 b ++ [44, 34, 120, 34, 58] ++ layP 8 a ++ [125]) := by
  have e1 : [123, 34, 120, 34, 58] ++ layP 8 a ++ [44, 34, 121, 34, 58, 32] ++ layP 8 b ++ [125] = 123 :: 34 :: 120 :: 34 :: (58 :: (layP 8 a ++ 44 :: 34 :: 121 :: 34 :: (58 :: 32 :: (layP 8 b ++ [125])))) := by simp
  have e2 : [123, 34, 121, 34, 32, 58] ++ layP 8 b ++ [44, 34, 120, 34, 58] ++ layP 8 a ++ [125] = 123 :: 34 :: 121 :: 34 :: (32 :: 58 :: (layP 8 b ++ 44 :: 34 :: 120 :: 34 :: (58 :: (layP 8 a ++ [125])))) := by simp
  have s1 : ∀ x : By, skp (58 :: x) = 58 :: x := fun x => skp_of (c := 58) (by decide) x
  have s2 : ∀ x : By, skp (32 :: 58 :: x) = 58 :: x := fun x => (skp_of' (c := 32) (by decide) _).trans (s1 x)
  have t1 := two_all a b ha hb 120 121 (.inl ⟨rfl, rfl⟩) (58 :: (layP 8 a ++ 44 :: 34 :: 121 :: 34 :: (58 :: 32 :: (layP 8 b ++ [125])))) (58 :: 32 :: (layP 8 b ++ [125])) _ _ (s1 _) rfl (s1 _) (valP_sp 7 _)
  have t2 := two_all b a hb ha 121 120 (.inr ⟨rfl, rfl⟩) (32 :: 58 :: (layP 8 b ++ 44 :: 34 :: 120 :: 34 :: (58 :: (layP 8 a ++ [125])))) (58 :: (layP 8 a ++ [125])) _ _ (s2 _) rfl (s1 _) rfl
  have hl : (123 :: 34 :: 120 :: 34 :: (58 :: (layP 8 a ++ 44 :: 34 :: 121 :: 34 :: (58 :: 32 :: (layP 8 b ++ [125])))) : By).length = (123 :: 34 :: 121 :: 34 :: (32 :: 58 :: (layP 8 b ++ 44 :: 34 :: 120 :: 34 :: (58 :: (layP 8 a ++ [125])))) : By).length := by
    simp only [List.length_cons, List.length_append, List.length_nil]
    omega
  obtain ⟨q1, _⟩ := sortM_two ([120], a, ()) ([121], b, ()) rfl
  obtain ⟨_, q2⟩ := sortM_two ([120], a, ()) ([121], b, ()) rfl
  rw [e1, e2]
  unfold formP
  rw [t1, t2, hl, q1, q2, Bool.and_comm (fitV 7 b)]
theorem jsonOrder_t (x y : By) : Tends (fun F => M_conciergelaw09_JsonOrder F (x, y)) true := by
  unfold M_conciergelaw09_JsonOrder
  refine Tends.bind awake9_t ?_
  refine Tends.neg (by decide) ?_
  by_cases hl : 200 < x.length ∨ 200 < y.length
  · refine Tends.bind (r := ((x, y, true, ()) : By × By × Bool × Unit)) ?_ (Tends.pos rfl (.ret _))
    by_cases h1 : 200 < x.length
    · have h1' : (200 : Int) < (x.length : Int) := by omega
      exact Tends.neg (by rw [decide_eq_true h1']; decide) (.ret _)
    · have h1' : ¬ (200 : Int) < (x.length : Int) := by omega
      have h2' : (200 : Int) < (y.length : Int) := by have := hl.resolve_left h1; omega
      refine Tends.pos (decide_eq_false h1') (.of fun F => ?_)
      rw [decide_eq_true h2']
  have h1 : ¬ (200 : Int) < (x.length : Int) := fun h => hl (.inl (by omega))
  have h2 : ¬ (200 : Int) < (y.length : Int) := fun h => hl (.inr (by omega))
  refine Tends.bind (r := ((x, y, false, ()) : By × By × Bool × Unit)) (Tends.pos (decide_eq_false h1) (.of fun F => by rw [decide_eq_false h2])) ?_
  refine Tends.neg Bool.false_ne_true ?_
  have fx := form_t x (by omega)
  have fy := form_t y (by omega)
  refine Tends.bind fx ?_
  refine Tends.bind fy ?_
  have bad : (formP x).2 ≠ 0 ∨ (formP y).2 ≠ 0 → Tends (fun F => (M_conciergeref09_Fault F x).bind fun v5 => (M_conciergeref09_Fault F y).bind fun v6 => some !decide (IntKind.i64.wrap (v5 + v6) = 0)) true := by
    intro hb
    have b : ∀ z : By, z.length ≤ 1000 → ∃ e : Nat, (ofP z).2 = (e : Int) ∧ (formP z).2 = (e : Int) ∧ e ≤ 10 := by
      intro z hz
      cases h : allP z with
      | ok v => exact ⟨0, by rw [ofP_ok h]; rfl, by rw [formP_ok h]; rfl, by decide⟩
      | error e => exact ⟨e, by rw [ofP_err h], by rw [formP_err h], all_err10 h⟩
    obtain ⟨e, a1, a2, a3⟩ := b x (by omega)
    obtain ⟨e', b1, b2, b3⟩ := b y (by omega)
    have f1 := fault9_t x (by omega)
    have f2 := fault9_t y (by omega)
    rw [a1] at f1
    rw [b1] at f2
    rw [a2, b2] at hb
    refine Tends.bind f1 (Tends.bind f2 (.of fun F => ?_))
    have : ¬ IntKind.i64.wrap ((e : Int) + (e' : Int)) = 0 := by rw [wrap64 _ (by omega) (by omega)]; omega
    rw [decide_eq_false this]
    rfl
  by_cases b1 : (formP x).2 = 0
  · by_cases b2 : (formP y).2 = 0
    · refine Tends.bind (r := ((x, y, (formP x).1, (formP y).1, false, ()) : By × By × By × By × Bool × Unit)) (Tends.pos (by simp [b1]) (.of fun F => by simp [b2])) ?_
      refine Tends.neg Bool.false_ne_true ?_
      -- both are right
      have ok : ∀ z : By, z.length ≤ 1000 → (formP z).2 = 0 → ∃ v, okV 8 v ∧ (formP z).1 = layP 8 v ∧ (layP 8 v).length ≤ z.length := by
        intro z hz h0
        cases h : allP z with
        | ok v =>
          obtain ⟨o1, o2, o3⟩ := all_ok h
          exact ⟨v, o1, by rw [formP_ok h], o2⟩
        | error e =>
          rw [formP_err h] at h0
          exact absurd h0 (by have := all_err h hz; simpa using this)
      obtain ⟨a, oa, fa, la⟩ := ok x (by omega) b1
      obtain ⟨b, ob, fb, lb⟩ := ok y (by omega) b2
      rw [fa, fb]
      have g1 := form_t ([123, 34, 120, 34, 58] ++ layP 8 a ++ [44, 34, 121, 34, 58, 32] ++ layP 8 b ++ [125]) (by simp only [List.length_cons, List.length_append, List.length_nil]; omega)
      have g2 := form_t ([123, 34, 121, 34, 32, 58] ++ layP 8 b ++ [44, 34, 120, 34, 58] ++ layP 8 a ++ [125]) (by simp only [List.length_cons, List.length_append, List.length_nil]; omega)
      rw [← two_form a b oa ob] at g2
      generalize formP ([123, 34, 120, 34, 58] ++ layP 8 a ++ [44, 34, 121, 34, 58, 32] ++ layP 8 b ++ [125]) = G at g1 g2
      refine Tends.bind (r := ((layP 8 a, layP 8 b, G.1, G.2, ()) : By × By × By × Int × Unit)) ?_ ?_
      · refine Tends.pos (by rw [decide_eq_true_eq]; simp only [List.length_cons, List.length_append, List.length_nil]; omega) ?_
        refine Tends.pos (by rw [decide_eq_true_eq]; simp only [List.length_cons, List.length_append, List.length_nil]; omega) ?_
        refine Tends.pos (by rw [decide_eq_true_eq]; simp only [List.length_cons, List.length_append, List.length_nil]; omega) ?_
        refine Tends.pos (by rw [decide_eq_true_eq]; simp only [List.length_cons, List.length_append, List.length_nil]; omega) ?_
        exact Tends.bind g1 (.ret _)
      refine Tends.bind (r := ((G.1, G.2, G.1, G.2, ()) : By × Int × By × Int × Unit)) ?_ ?_
      · refine Tends.pos (by rw [decide_eq_true_eq]; simp only [List.length_cons, List.length_append, List.length_nil]; omega) ?_
        refine Tends.pos (by rw [decide_eq_true_eq]; simp only [List.length_cons, List.length_append, List.length_nil]; omega) ?_
        refine Tends.pos (by rw [decide_eq_true_eq]; simp only [List.length_cons, List.length_append, List.length_nil]; omega) ?_
        refine Tends.pos (by rw [decide_eq_true_eq]; simp only [List.length_cons, List.length_append, List.length_nil]; omega) ?_
        exact Tends.bind g2 (.ret _)
      refine Tends.bind (r := ((true, ()) : Bool × Unit)) (Tends.pos (by simp) (.of fun F => by simp)) (.ret _)
    · refine Tends.bind (r := ((x, y, (formP x).1, (formP y).1, true, ()) : By × By × By × By × Bool × Unit)) (Tends.pos (by simp [b1]) (.of fun F => by simp [b2])) ?_
      exact Tends.pos rfl (bad (.inr b2))
  · refine Tends.bind (r := ((x, y, (formP x).1, (formP y).1, true, ()) : By × By × By × By × Bool × Unit)) (Tends.neg (by simp [b1]) (.ret _)) ?_
    exact Tends.pos rfl (bad (.inl b1))
theorem pure_conciergelaw09_JsonOrder (x y : By) : ∃ F, M_conciergelaw09_JsonOrder F (x, y) = some true := (jsonOrder_t x y).ex
end Go.Vm
