import Derived.Test.YtocgjbdimjlfhaaGreatDoorFlaw22
import Derived.Test.YtocgjbdimjlfhaaGreatDoorPu3
import Derived.Test.YtocgjbdimjlfhaaGreatDoorPg1
/- Phrases: the document's names, gaps and checks are the plain ones; the wake; the law of checks. No condition but on lengths. -/
namespace Go.Vm
open Go.Proofs
open Go.Lib (decodeL decodeN decodeL_N decode_N decodeN_shape decodeL_le)
set_option linter.unusedVariables false
set_option linter.unusedSimpArgs false
/-! ### names and gaps -/
theorem name22_loop (x : By) (hx : x.length ≤ 1000000) : ∀ (n i : Nat), i + n = x.length → TendsL M_conciergeref22_Name_l0 (x, (i : Int), ()) (if (x.drop i).all isNm = true then .inl (x, ()) else .inr (false, ()))
  | 0, i, h => by
    refine TendsL.fin (.of fun F => ?_)
    unfold M_conciergeref22_Name_l0
    rw [if_neg (by rw [decide_eq_true_eq]; simp only; omega), List.drop_eq_nil_of_le (by omega)]
    rfl
  | n + 1, i, h => by
    have hi : i < x.length := by omega
    have hx0 : idx x (i : Int) = some x[i] := idx_at _ _ _ (List.getElem?_eq_getElem hi)
    have hw : IntKind.i64.wrap ((i : Int) + 1) = ((i + 1 : Nat) : Int) := by rw [wrap64 _ (by omega) (by omega)]; omega
    rw [List.drop_eq_getElem_cons hi, List.all_cons]
    have ih := name22_loop x hx n (i + 1) (by omega)
    generalize x[i] = c at *
    have body : ∀ F, M_conciergeref22_Name_l0 F (x, (i : Int), ()) = some (if isNm c = true then .inl (x, ((i + 1 : Nat) : Int), ()) else .inr (.inr (false, ()))) := by
      intro F
      unfold M_conciergeref22_Name_l0
      rw [if_pos (by rw [decide_eq_true_eq]; simp only; omega)]
      simp only [hx0, Option.bind_some]
      unfold isNm
      by_cases a1 : 97 ≤ c.toNat
      · have a1' : (97 : Int) ≤ (c.toNat : Int) := by omega
        by_cases a2 : c.toNat ≤ 122
        · have a2' : (c.toNat : Int) ≤ 122 := by omega
          simp only [a1', a2', a1, a2, decide_true, if_true, Option.bind_some, Bool.true_eq_false, if_false, Bool.and_self, Bool.true_or, Bool.not_true, Bool.false_eq_true, hw]
        · have a2' : ¬ (c.toNat : Int) ≤ 122 := by omega
          have a3 : (48 : Int) ≤ (c.toNat : Int) := by omega
          have a4 : ¬ (c.toNat : Int) ≤ 57 := by omega
          have a5 : ¬ c.toNat ≤ 57 := by omega
          simp only [a1', a2', a1, a2, a3, a4, a5, hx0, decide_true, decide_false, if_true, Option.bind_some, Bool.and_false, Bool.or_false, Bool.not_false, Bool.false_eq_true, if_false]
      · have a1' : ¬ (97 : Int) ≤ (c.toNat : Int) := by omega
        by_cases a3 : 48 ≤ c.toNat
        · have a3' : (48 : Int) ≤ (c.toNat : Int) := by omega
          by_cases a4 : c.toNat ≤ 57
          · have a4' : (c.toNat : Int) ≤ 57 := by omega
            simp only [a1', a1, a3', a3, a4', a4, hx0, decide_true, decide_false, if_true, Option.bind_some, Bool.false_and, Bool.and_self, Bool.or_true, Bool.not_true, Bool.false_eq_true, if_false, hw]
          · have a4' : ¬ (c.toNat : Int) ≤ 57 := by omega
            simp only [a1', a1, a3', a3, a4', a4, hx0, decide_true, decide_false, if_true, Option.bind_some, Bool.false_and, Bool.and_false, Bool.or_false, Bool.not_false, Bool.false_eq_true, if_false]
        · have a3' : ¬ (48 : Int) ≤ (c.toNat : Int) := by omega
          simp only [a1', a1, a3', a3, hx0, decide_true, decide_false, if_true, Option.bind_some, Bool.false_and, Bool.or_false, Bool.not_false, Bool.false_eq_true, if_false]
    by_cases hc : isNm c = true
    · rw [hc, Bool.true_and]
      exact TendsL.step (.of fun F => (body F).trans (by rw [if_pos hc])) ih
    · have hc' : isNm c = false := by simpa using hc
      rw [hc', Bool.false_and]
      exact TendsL.fin (.of fun F => (body F).trans (by rw [if_neg hc]; rfl))
theorem name22_t (x : By) (hx : x.length ≤ 1000000) : Tends (fun F => M_conciergeref22_Name F x) (nmP x) := by
  unfold M_conciergeref22_Name nmP
  have h := name22_loop x hx x.length 0 (by omega)
  rw [List.drop_zero] at h
  refine Tends.bind h.run ?_
  by_cases ha : x.all isNm = true
  · rw [if_pos ha, ha, Bool.true_and]
    simp only [sumC_inl]
    by_cases h1 : 1 ≤ x.length
    · have h1' : (1 : Int) ≤ (x.length : Int) := by omega
      refine .of fun F => ?_
      rw [if_pos (decide_eq_true h1'), decide_eq_true h1, Bool.true_and]
      simp only [Option.bind_some]
      congr 1
      rw [Bool.eq_iff_iff, decide_eq_true_eq, decide_eq_true_eq]
      omega
    · have h1' : ¬ (1 : Int) ≤ (x.length : Int) := by omega
      refine .of fun F => ?_
      rw [if_neg (by rw [decide_eq_true_eq]; exact h1'), decide_eq_false h1]
      rfl
  · have ha' : x.all isNm = false := by simpa using ha
    rw [if_neg ha, ha']
    exact .of fun F => rfl
theorem gap22_loop (x : By) (hx : x.length ≤ 1000000) : ∀ (n i : Nat), i + n = x.length → TendsL M_conciergeref22_gap_l0 (x, (i : Int), ()) (x, ((i + ((x.drop i).takeWhile (fun c => c != 125)).length : Nat) : Int), ())
  | 0, i, h => by
    refine TendsL.fin (.of fun F => ?_)
    unfold M_conciergeref22_gap_l0
    rw [if_neg (by rw [decide_eq_true_eq]; simp only; omega), List.drop_eq_nil_of_le (by omega)]
    rfl
  | n + 1, i, h => by
    have hi : i < x.length := by omega
    have hx0 : idx x (i : Int) = some x[i] := idx_at _ _ _ (List.getElem?_eq_getElem hi)
    have hw : IntKind.i64.wrap ((i : Int) + 1) = ((i + 1 : Nat) : Int) := by rw [wrap64 _ (by omega) (by omega)]; omega
    have ih := gap22_loop x hx n (i + 1) (by omega)
    rw [List.drop_eq_getElem_cons hi]
    generalize x[i] = c at *
    have n125 : ((c.toNat : Int) = 125) = (c = 125) := nvB c 125
    by_cases hc : c = 125
    · rw [List.takeWhile_cons_of_neg (by simpa using hc)]
      refine TendsL.fin (.of fun F => ?_)
      unfold M_conciergeref22_gap_l0
      rw [if_pos (by rw [decide_eq_true_eq]; simp only; omega)]
      simp only [hx0, Option.bind_some, n125, decide_eq_true hc]
      rfl
    · rw [List.takeWhile_cons_of_pos (by simpa using hc), List.length_cons, show i + (((x.drop (i + 1)).takeWhile (fun c => c != 125)).length + 1) = i + 1 + ((x.drop (i + 1)).takeWhile (fun c => c != 125)).length by omega]
      refine TendsL.step (.of fun F => ?_) ih
      unfold M_conciergeref22_gap_l0
      rw [if_pos (by rw [decide_eq_true_eq]; simp only; omega)]
      simp only [hx0, Option.bind_some, n125, decide_eq_false hc, Bool.not_false, if_true, hw]
theorem gap22_t (a : UInt8) (r : By) (hr : r.length ≤ 1000) : Tends (fun F => M_conciergeref22_gap F (a :: r)) (gapN (a :: r) : Int) := by
  unfold M_conciergeref22_gap
  cases r with
  | nil => exact Tends.pos rfl (.ret _)
  | cons b q =>
    have h2 : ¬ (((a :: b :: q : By).length : Nat) : Int) < 2 := by simp; omega
    have hi : idx (a :: b :: q : By) 1 = some b := idx_at _ 1 _ rfl
    have n37 : ((b.toNat : Int) = 37) = (b = 37) := nvB b 37
    have n98 : ((b.toNat : Int) = 98) = (b = 98) := nvB b 98
    have n107 : ((b.toNat : Int) = 107) = (b = 107) := nvB b 107
    have n109 : ((b.toNat : Int) = 109) = (b = 109) := nvB b 109
    have n112 : ((b.toNat : Int) = 112) = (b = 112) := nvB b 112
    have n123 : ((b.toNat : Int) = 123) = (b = 123) := nvB b 123
    refine Tends.neg (by rw [decide_eq_true_eq]; exact h2) ?_
    simp only [hi, Option.bind_some, n37, n98, n107, n109, n112, n123]
    unfold gapN
    simp only
    have step : ∀ (p q' : Prop) [Decidable p] [Decidable q'], (if decide p = false then some ((a :: b :: q : By), decide q', ()) else some ((a :: b :: q : By), true, ()) : Option (By × Bool × Unit)) = some ((a :: b :: q : By), decide (p ∨ q'), ()) := by
      intro p q' _ _
      by_cases hp : p
      · rw [decide_eq_true hp, if_neg (by decide), decide_eq_true (.inl hp)]
      · rw [decide_eq_false hp, if_pos rfl]
        by_cases hq : q'
        · rw [decide_eq_true hq, decide_eq_true (.inr hq)]
        · rw [decide_eq_false hq, decide_eq_false (fun hh => hh.elim hp hq)]
    simp only [step, Option.bind_some, hi, n107, n109, n112]
    by_cases hc : b = 37 ∨ b = 98 ∨ b = 107 ∨ b = 109 ∨ b = 112
    · have hc' : (((b = 37 ∨ b = 98) ∨ b = 107) ∨ b = 109) ∨ b = 112 := by
        rcases hc with h | h | h | h | h <;> simp [h]
      rw [if_pos hc]
      exact Tends.pos (decide_eq_true hc') (.ret _)
    · have hc' : ¬ ((((b = 37 ∨ b = 98) ∨ b = 107) ∨ b = 109) ∨ b = 112) := by
        rintro ((((h | h) | h) | h) | h) <;> exact hc (by simp [h])
      rw [if_neg hc]
      refine Tends.neg (by rw [decide_eq_true_eq]; exact hc') ?_
      by_cases hb : b = 123
      · rw [if_pos hb]
        refine Tends.neg (by simp only [n123, decide_eq_true hb]; decide) ?_
        simp only [List.length_cons] at hr
        have hl := gap22_loop (a :: b :: q) (by simp; omega) (q.length) 2 (by simp; omega)
        rw [show (a :: b :: q : By).drop 2 = q from rfl] at hl
        have h2' : (((2 : Nat) : Nat) : Int) = 2 := rfl
        refine Tends.bind hl.run ?_
        have htl : (q.takeWhile (fun c => c != 125)).length ≤ q.length := (List.takeWhile_prefix _).length_le
        by_cases hk : (q.takeWhile (fun c => c != 125)).length < q.length
        · have hne : ¬ (((2 + (q.takeWhile (fun c => c != 125)).length : Nat) : Int) = ((a :: b :: q : By).length : Int)) := by simp only [List.length_cons]; omega
          have hs : sub (a :: b :: q : By) 2 ((2 + (q.takeWhile (fun c => c != 125)).length : Nat) : Int) = some (q.takeWhile (fun c => c != 125)) := by
            have := sub_nat (a :: b :: q : By) 2 (2 + (q.takeWhile (fun c => c != 125)).length) (by omega) (by simp only [List.length_cons]; omega)
            refine (this : _ = _).trans ?_
            rw [show (a :: b :: q : By).drop 2 = q from rfl, Nat.add_sub_cancel_left]
            congr 1
            conv => rhs; rw [← List.take_length (l := q.takeWhile (fun c => c != 125))]
            exact (congrArg (List.take _) (List.takeWhile_append_dropWhile (p := fun c => c != 125) (l := q)).symm).trans (List.take_append_of_le_length (Nat.le_refl _))
          have hn := name22_t (q.takeWhile (fun c => c != 125)) (by omega)
          refine Tends.bind (r := ((((2 + (q.takeWhile (fun c => c != 125)).length : Nat) : Int), !(nmP (q.takeWhile (fun c => c != 125))), ()) : Int × Bool × Unit)) (Tends.pos (decide_eq_false hne) (Tends.bind (.of fun F => hs) (Tends.bind hn (.ret _)))) ?_
          by_cases hnm : nmP (q.takeWhile (fun c => c != 125)) = true
          · have hg : (if (q.takeWhile (fun c => c != 125)).length < q.length ∧ nmP (q.takeWhile (fun c => c != 125)) = true then (q.takeWhile (fun c => c != 125)).length + 3 else 0) = (q.takeWhile (fun c => c != 125)).length + 3 := if_pos ⟨hk, hnm⟩
            rw [hg, hnm]
            refine Tends.neg (by show ¬ (!true) = true; decide) (.of fun F => ?_)
            simp only
            rw [wrap64 _ (by omega) (by omega)]
            congr 1
            omega
          · have hnm' : nmP (q.takeWhile (fun c => c != 125)) = false := by simpa using hnm
            have hg : (if (q.takeWhile (fun c => c != 125)).length < q.length ∧ nmP (q.takeWhile (fun c => c != 125)) = true then (q.takeWhile (fun c => c != 125)).length + 3 else 0) = 0 := if_neg (fun hh => hnm hh.2)
            rw [hg, hnm']
            exact Tends.pos rfl (.ret _)
        · have he : (((2 + (q.takeWhile (fun c => c != 125)).length : Nat) : Int) = ((a :: b :: q : By).length : Int)) := by simp only [List.length_cons]; omega
          have hg : (if (q.takeWhile (fun c => c != 125)).length < q.length ∧ nmP (q.takeWhile (fun c => c != 125)) = true then (q.takeWhile (fun c => c != 125)).length + 3 else 0) = 0 := if_neg (fun hh => hk hh.1)
          rw [hg]
          refine Tends.bind (r := ((((2 + (q.takeWhile (fun c => c != 125)).length : Nat) : Int), true, ()) : Int × Bool × Unit)) (Tends.neg (by rw [decide_eq_true he]; decide) (.ret _)) ?_
          exact Tends.pos rfl (.ret _)
      · rw [if_neg hb]
        exact Tends.pos (by simp only [n123, decide_eq_false hb]; rfl) (.ret _)
/-! ### checks -/
theorem sorts22_loop (s : By) (l : List Int) (hl : l.length ≤ 1000000) : ∀ (n i : Nat), i + n = l.length → TendsL M_conciergeref22_Check_l0 (s, l, (i : Int), ()) (if (l.drop i).all (fun x => decide (sortI x ≠ 0)) = true then .inl (s, ()) else .inr (false, ()))
  | 0, i, h => by
    refine TendsL.fin (.of fun F => ?_)
    unfold M_conciergeref22_Check_l0
    rw [if_neg (by rw [decide_eq_true_eq]; simp only; omega), List.drop_eq_nil_of_le (by omega)]
    rfl
  | n + 1, i, h => by
    have hi : i < l.length := by omega
    have hx0 : idx l (i : Int) = some l[i] := idx_at _ _ _ (List.getElem?_eq_getElem hi)
    have hw : IntKind.i64.wrap ((i : Int) + 1) = ((i + 1 : Nat) : Int) := by rw [wrap64 _ (by omega) (by omega)]; omega
    have ih := sorts22_loop s l hl n (i + 1) (by omega)
    rw [List.drop_eq_getElem_cons hi, List.all_cons]
    generalize l[i] = c at *
    by_cases h0 : sortI c = 0
    · rw [decide_eq_false (fun hh => hh h0), Bool.false_and]
      refine TendsL.fin (.of fun F => ?_)
      unfold M_conciergeref22_Check_l0
      rw [if_pos (by rw [decide_eq_true_eq]; simp only; omega)]
      simp only [hx0, Option.bind_some, refSort_eq, decide_eq_true h0]
      rfl
    · rw [decide_eq_true h0, Bool.true_and]
      refine TendsL.step (.of fun F => ?_) ih
      unfold M_conciergeref22_Check_l0
      rw [if_pos (by rw [decide_eq_true_eq]; simp only; omega)]
      simp only [hx0, Option.bind_some, refSort_eq, decide_eq_false h0, Bool.false_eq_true, if_false, hw]
theorem toks22_loop (s : By) (hs : s.length ≤ 1000) : ∀ (n p : Nat), s.length - p ≤ n → p ≤ s.length → TendsL M_conciergeref22_Check_l1 (s, (p : Int), ()) (match tokP (s.drop p) with
    | some _ => .inl (s, ())
    | none => .inr (false, ())) := by
  intro n
  induction n with
  | zero =>
    intro p hn hp
    refine TendsL.fin (.of fun F => ?_)
    unfold M_conciergeref22_Check_l1
    rw [if_neg (by rw [decide_eq_true_eq]; simp only; omega), List.drop_eq_nil_of_le (by omega), tokP_nil]
  | succ n ih =>
    intro p hn hp
    by_cases hlt : p < s.length
    case neg =>
      refine TendsL.fin (.of fun F => ?_)
      unfold M_conciergeref22_Check_l1
      rw [if_neg (by rw [decide_eq_true_eq]; simp only; omega), List.drop_eq_nil_of_le (by omega), tokP_nil]
    have hd : s.drop p = s[p] :: s.drop (p + 1) := List.drop_eq_getElem_cons hlt
    have hx0 : idx s (p : Int) = some s[p] := idx_at _ _ _ (List.getElem?_eq_getElem hlt)
    have hse := sub_to_end s p (by omega)
    have hlen : (s.drop p).length = s.length - p := List.length_drop
    have hw1 : IntKind.i64.wrap ((p : Int) + 1) = ((p + 1 : Nat) : Int) := by rw [wrap64 _ (by omega) (by omega)]; omega
    have ih1 := ih (p + 1) (by omega) (by omega)
    have hdd : ∀ m, (s.drop p).drop m = s.drop (p + m) := fun m => List.drop_drop
    rw [hd] at hse hlen hdd ⊢
    rw [tokP_cons]
    generalize hr : s.drop (p + 1) = r at *
    generalize s[p] = c at *
    have n37 : ((c.toNat : Int) = 37) = (c = 37) := nvB c 37
    by_cases h37 : c = 37
    · rw [if_pos h37]
      have hgle := gapN_le (c :: r)
      have h1 := gapN_one (c :: r)
      have hgt := gap22_t c r (by simp only [List.length_cons] at hlen; omega)
      have hbody : ∀ z, Tends (fun F => (if decide ((gapN (c :: r) : Int) = 0) = true then some (Sum.inr (Sum.inr (false, ()))) else some (Sum.inl (s, IntKind.i64.wrap ((p : Int) + (gapN (c :: r) : Int)), ())) : Option ((By × Int × Unit) ⊕ (By × Unit ⊕ Bool × Unit)))) z → Tends (fun F => M_conciergeref22_Check_l1 F (s, (p : Int), ())) z := by
        intro z hz
        unfold M_conciergeref22_Check_l1
        refine Tends.pos (by rw [decide_eq_true_eq]; simp only; omega) ?_
        refine Tends.bind (.of fun F => hx0) ?_
        refine Tends.neg (by simp only [n37, decide_eq_true h37]; decide) ?_
        refine Tends.bind (.of fun F => hse) ?_
        exact Tends.bind hgt hz
      by_cases hg : gapN (c :: r) = 0
      · rw [if_pos hg]
        exact TendsL.fin (hbody _ (Tends.pos (by rw [decide_eq_true_eq]; omega) (.ret _)))
      · rw [if_neg hg]
        have hw : IntKind.i64.wrap ((p : Int) + (gapN (c :: r) : Int)) = ((p + gapN (c :: r) : Nat) : Int) := by rw [wrap64 _ (by omega) (by omega)]; omega
        have ihg := ih (p + gapN (c :: r)) (by omega) (by omega)
        rw [← hdd] at ihg
        refine TendsL.step (hbody (.inl (s, ((p + gapN (c :: r) : Nat) : Int), ())) (Tends.neg (by rw [decide_eq_true_eq]; omega) (.of fun F => by rw [hw]))) ?_
        cases hx : tokP ((c :: r).drop (gapN (c :: r))) with
        | none => rw [hx] at ihg; exact ihg
        | some l => rw [hx] at ihg; exact ihg
    · rw [if_neg h37]
      refine TendsL.step (x' := (s, ((p + 1 : Nat) : Int), ())) (.of fun F => ?_) ?_
      · unfold M_conciergeref22_Check_l1
        rw [if_pos (by rw [decide_eq_true_eq]; simp only; omega)]
        simp only [hx0, Option.bind_some, n37, decide_eq_false h37, Bool.not_false, if_true, hw1]
      · cases hx : tokP r with
        | none => rw [hx] at ih1; exact ih1
        | some l => rw [hx] at ih1; exact ih1
theorem allS_map (s : By) : allS s = ((signs s).map (·.1)).all (fun x => decide (sortI x ≠ 0)) := by unfold allS; rw [List.all_map]; rfl
def checkT (s : By) : Bool := decide (s.length ≤ 60) && (cutP s).isSome
theorem check_tok (s : By) : (allS s && (tokP s).isSome) = (cutP s).isSome := by
  have h := cut_tok s.length s (Nat.le_refl _)
  cases hc : cutP s with
  | none =>
    rw [hc] at h
    rcases h with h | h
    · rw [h]; rfl
    · rw [h]; simp
  | some l =>
    rw [hc] at h
    obtain ⟨h1, m, h2, _⟩ := h
    rw [h1, h2]
    rfl
theorem check22_t (s : By) (hs : s.length ≤ 1000) : Tends (fun F => M_conciergeref22_Check F s) (checkT s) := by
  unfold M_conciergeref22_Check
  have hsl := signs_len s
  refine Tends.bind (signs_tends s (by omega)) ?_
  have h0 := sorts22_loop s ((signs s).map (·.1)) (by rw [List.length_map]; omega) ((signs s).map (·.1)).length 0 (by omega)
  rw [List.drop_zero, ← allS_map] at h0
  refine Tends.bind h0.run ?_
  have hct := check_tok s
  unfold checkT
  rw [← hct]
  by_cases ha : allS s = true
  · rw [if_pos ha, ha, Bool.true_and]
    simp only [sumC_inl]
    have h1 := toks22_loop s hs s.length 0 (by omega) (by omega)
    rw [List.drop_zero] at h1
    refine Tends.bind h1.run ?_
    cases tokP s with
    | none => exact .of fun F => by simp [sumC_inr]
    | some m =>
      refine .of fun F => ?_
      simp only [sumC_inl, Option.isSome_some, Bool.and_true]
      congr 1
      rw [Bool.eq_iff_iff, decide_eq_true_eq, decide_eq_true_eq]
      omega
  · have ha' : allS s = false := by simpa using ha
    rw [if_neg ha, ha', Bool.false_and, Bool.and_false]
    exact .of fun F => rfl
theorem check_v (s : By) (hs : s.length ≤ 1000) : Tends (fun F => M_phrase_Check F s) (checkT s) := by
  unfold M_phrase_Check
  refine Tends.bind (cut_t s hs) (.of fun F => ?_)
  unfold cutT checkT
  by_cases h6 : 60 < s.length
  · rw [if_pos h6, decide_eq_false (by omega)]; rfl
  · rw [if_neg h6, decide_eq_true (by omega)]
    cases cutP s <;> rfl
end Go.Vm
/- Programs: numbers, phases, their texts, what reads them: plainly. No condition. -/
namespace Go.Vm
open Go.Lib (decDigits itoa decNat decFrom digitVal)
set_option linter.unusedVariables false
set_option linter.unusedSimpArgs false
/-! ### numbers -/
theorem decNat_digs {l : By} (h : ∀ c ∈ l, isDig c = true) (hne : l ≠ []) : decNat l = some (valD l) := by
  have main : ∀ (l : By) (n : Nat), (∀ c ∈ l, isDig c = true) → decFrom n l = some (l.foldl (fun n c => n * 10 + (c.toNat - 48)) n) := by
    intro l
    induction l with
    | nil => intro n _; rfl
    | cons c l ih =>
      intro n hd
      have hc := hd c (List.mem_cons_self ..)
      have hv : digitVal c = some (c.toNat - 48) := by
        unfold digitVal
        simp [isDig] at hc
        rw [if_pos ⟨hc.1, hc.2⟩]
      unfold decFrom
      rw [hv]
      exact ih _ (fun x hx => hd x (List.mem_cons_of_mem _ hx))
  unfold decNat valD
  rw [main l 0 h]
  cases l with
  | nil => exact absurd rfl hne
  | cons c l => rfl
theorem atoi_itoa (n : Nat) (h : n < 100000000000000000) : Lib.atoiAll (itoa (n : Int)) = .ok (n : Int) := by
  have hl : (itoa (n : Int)).length ≤ 18 := Nat.le_trans (itoa_len n 17 (by decide) (by omega)).1 (by decide)
  have hd := itoa_dig n
  have hne := itoa_ne n
  rw [Lib.atoiAll_short _ hl]
  have hv : valD (itoa (n : Int)) = n := by rw [itoa_nat]; exact (dec_facts n).2.1
  have hdn := decNat_digs hd hne
  rw [hv] at hdn
  cases hc : itoa (n : Int) with
  | nil => exact absurd hc hne
  | cons c q =>
    rw [hc] at hdn hd
    have h0 := hd c (List.mem_cons_self ..)
    have h45 : (c == 45) = false := by
      cases hh : c == 45 with
      | false => rfl
      | true => rw [beq_iff_eq] at hh; subst hh; exact absurd h0 (by decide)
    have h43 : (c == 43) = false := by
      cases hh : c == 43 with
      | false => rfl
      | true => rw [beq_iff_eq] at hh; subst hh; exact absurd h0 (by decide)
    show Lib.NumEnd.ofOption (if (c == 45) = true then (decNat q).map (fun (m : Nat) => -(m : Int)) else if (c == 43) = true then (decNat q).map (fun (m : Nat) => (m : Int)) else (decNat (c :: q)).map (fun (m : Nat) => (m : Int))) = _
    rw [h45, h43, hdn]
    rfl
def numG (s : By) : Int := match Lib.atoiAll s with
  | .ok n => if n < 1 ∨ itoa n ≠ s then 0 else n
  | _ => 0
theorem numG_itoa (n : Nat) (h1 : 1 ≤ n) (h : n ≤ 1073741824) : numG (itoa (n : Int)) = n := by
  unfold numG
  rw [atoi_itoa n (by omega)]
  simp only
  rw [if_neg]
  rintro (h | h)
  · omega
  · exact h rfl
theorem numG_of {s : By} (h : numG s ≠ 0) : 1 ≤ numG s ∧ itoa (numG s) = s := by
  unfold numG at h ⊢
  split at h
  · rename_i n _
    split at h
    · exact absurd rfl h
    · rename_i hc
      rw [if_neg hc]
      refine ⟨?_, ?_⟩
      · refine Classical.byContradiction fun hh => hc (.inl (by omega))
      · exact Classical.byContradiction fun hh => hc (.inr hh)
  · exact absurd rfl h
def rnumG (acc : Nat) : By → Nat
  | [] => acc
  | c :: r => if isDig c = true ∧ acc ≤ 1073741824 then rnumG (acc * 10 + (c.toNat - 48)) r else 0
theorem fold_ge : ∀ (l : By) (acc : Nat), acc ≤ l.foldl (fun n c => n * 10 + (c.toNat - 48)) acc
  | [], acc => Nat.le_refl _
  | c :: l, acc => by
    have := fold_ge l (acc * 10 + (c.toNat - 48))
    rw [List.foldl_cons]
    omega
theorem rnumG_val : ∀ (l : By) (acc : Nat), (∀ c ∈ l, isDig c = true) → l.foldl (fun n c => n * 10 + (c.toNat - 48)) acc ≤ 1073741824 → rnumG acc l = l.foldl (fun n c => n * 10 + (c.toNat - 48)) acc
  | [], acc, h, hv => rfl
  | c :: l, acc, h, hv => by
    rw [List.foldl_cons] at hv
    have := fold_ge l (acc * 10 + (c.toNat - 48))
    unfold rnumG
    rw [if_pos ⟨h c (List.mem_cons_self ..), by omega⟩, List.foldl_cons]
    exact rnumG_val l _ (fun x hx => h x (List.mem_cons_of_mem _ hx)) hv
theorem rnumG_itoa (n : Nat) (h : n ≤ 1073741824) : rnumG 0 (itoa (n : Int)) = n := by
  have hv : valD (itoa (n : Int)) = n := by rw [itoa_nat]; exact (dec_facts n).2.1
  have := rnumG_val (itoa (n : Int)) 0 (itoa_dig n) (by show valD (itoa (n : Int)) ≤ _; omega)
  rw [this]
  exact hv
/-! ### phases -/
abbrev PhT := Int × By × Int × By × Unit
def textG (s : By) : Bool := s.all (fun c => c != 59) && checkT s
def rightG (p : PhT) : Bool :=
  if p.1 = 1 then decide (1 ≤ p.2.2.1) && decide (p.2.2.1 ≤ 80) && decide (p.2.1 = []) && decide (p.2.2.2.1 = [])
  else if p.1 = 2 then decide (1 ≤ p.2.2.1) && decide (p.2.2.1 ≤ 1073741824) && nmP p.2.1 && decide (p.2.2.2.1 = [])
  else if p.1 = 3 then decide (p.2.2.1 = 0) && nmP p.2.1 && textG p.2.2.2.1
  else if p.1 = 4 then (decide (p.2.2.1 = 200) || decide (p.2.2.1 = 201)) && decide (p.2.1 = []) && textG p.2.2.2.1
  else false
def mayL : List PhT → Bool
  | [] => true
  | p :: r => rightG p && (decide (p.1 = 4) == decide (r = [])) && mayL r
def mayG (l : List PhT) : Bool := decide (1 ≤ l.length) && decide (l.length ≤ 5) && mayL l
abbrev wOnly : By := [111, 110, 108, 121]
abbrev wNeed : By := [110, 101, 101, 100]
abbrev wCall : By := [99, 97, 108, 108]
abbrev wEnd : By := [101, 110, 100]
def tailG (s : By) : By := if s = [] then [] else 32 :: s
def phText (p : PhT) : By :=
  if p.1 = 1 then wOnly ++ 32 :: itoa p.2.2.1
  else if p.1 = 2 then wNeed ++ 32 :: (p.2.1 ++ 32 :: itoa p.2.2.1)
  else if p.1 = 3 then wCall ++ 32 :: (p.2.1 ++ tailG p.2.2.2.1)
  else wEnd ++ 32 :: (itoa p.2.2.1 ++ tailG p.2.2.2.1)
abbrev z23 : PhT := (0, [], 0, [], ())
def readG (s : By) : PhT := if (Lib.cut s [32]).2.2 = false then z23
  else if (Lib.cut s [32]).1 = wOnly then (1, [], numG (Lib.cut s [32]).2.1, [], ())
  else if (Lib.cut (Lib.cut s [32]).2.1 [32]).2.1 = [] ∧ (Lib.cut (Lib.cut s [32]).2.1 [32]).1 ≠ (Lib.cut s [32]).2.1 then z23
  else if (Lib.cut s [32]).1 = wNeed then (2, (Lib.cut (Lib.cut s [32]).2.1 [32]).1, numG (Lib.cut (Lib.cut s [32]).2.1 [32]).2.1, [], ())
  else if (Lib.cut s [32]).1 = wCall then (3, (Lib.cut (Lib.cut s [32]).2.1 [32]).1, 0, (Lib.cut (Lib.cut s [32]).2.1 [32]).2.1, ())
  else if (Lib.cut s [32]).1 = wEnd then (4, [], numG (Lib.cut (Lib.cut s [32]).2.1 [32]).1, (Lib.cut (Lib.cut s [32]).2.1 [32]).2.1, ())
  else z23
def rwordG (s : By) : By × By := ((Lib.cut s [32]).1, (Lib.cut s [32]).2.1)
def rreadG (s : By) : PhT :=
  if (rwordG s).1 = wOnly then (1, [], (rnumG 0 (rwordG s).2 : Int), [], ())
  else if (rwordG s).1 = wNeed then (2, (rwordG (rwordG s).2).1, (rnumG 0 (rwordG (rwordG s).2).2 : Int), [], ())
  else if (rwordG s).1 = wCall then (3, (rwordG (rwordG s).2).1, 0, (rwordG (rwordG s).2).2, ())
  else if (rwordG s).1 = wEnd then (4, [], (rnumG 0 (rwordG (rwordG s).2).1 : Int), (rwordG (rwordG s).2).2, ())
  else z23
theorem nm_bytes {s : By} (h : nmP s = true) : ∀ b ∈ s, b ≠ 32 ∧ b ≠ 59 := by
  unfold nmP at h
  simp only [Bool.and_eq_true] at h
  intro b hb
  have := List.all_eq_true.1 h.1.1 b hb
  constructor <;> rintro rfl <;> exact absurd this (by decide)
theorem dig_bytes (n : Nat) : ∀ b ∈ itoa (n : Int), b ≠ 32 ∧ b ≠ 59 := by
  intro b hb
  have := itoa_dig n b hb
  constructor <;> rintro rfl <;> exact absurd this (by decide)
theorem cut_tail {p : By} (hp : ∀ b ∈ p, b ≠ 32) (t : By) : (Lib.cut (p ++ tailG t) [32]).1 = p ∧ (Lib.cut (p ++ tailG t) [32]).2.1 = t := by
  unfold tailG
  by_cases ht : t = []
  · rw [if_pos ht, List.append_nil, cut_miss hp, ht]
    exact ⟨rfl, rfl⟩
  · rw [if_neg ht, cut_hit hp]
    exact ⟨rfl, rfl⟩
theorem cutW {p : By} (hp : ∀ b ∈ p, b ≠ 32) (s : By) : Lib.cut (p ++ 32 :: s) [32] = (p, s, true) := cut_hit hp s
theorem kw_only : ∀ b ∈ wOnly, b ≠ 32 := by decide
theorem kw_need : ∀ b ∈ wNeed, b ≠ 32 := by decide
theorem kw_call : ∀ b ∈ wCall, b ≠ 32 := by decide
theorem kw_end : ∀ b ∈ wEnd, b ≠ 32 := by decide
theorem right_cases {p : PhT} (h : rightG p = true) :
    (∃ n : Nat, p = (1, [], (n : Int), [], ()) ∧ 1 ≤ n ∧ n ≤ 80) ∨ (∃ (nm : By) (n : Nat), p = (2, nm, (n : Int), [], ()) ∧ nmP nm = true ∧ 1 ≤ n ∧ n ≤ 1073741824) ∨
    (∃ nm t, p = (3, nm, 0, t, ()) ∧ nmP nm = true ∧ textG t = true) ∨ ∃ (n : Nat) (t : By), p = (4, [], (n : Int), t, ()) ∧ (n = 200 ∨ n = 201) ∧ textG t = true := by
  obtain ⟨k, nm, n, t, u⟩ := p
  unfold rightG at h
  simp only at h
  split at h
  · rename_i hk
    subst hk
    simp only [Bool.and_eq_true, decide_eq_true_eq] at h
    obtain ⟨⟨⟨h1, h2⟩, rfl⟩, rfl⟩ := h
    exact .inl ⟨n.toNat, by rw [show ((n.toNat : Nat) : Int) = n by omega], by omega, by omega⟩
  split at h
  · rename_i hk
    subst hk
    simp only [Bool.and_eq_true, decide_eq_true_eq] at h
    obtain ⟨⟨⟨h1, h2⟩, h3⟩, rfl⟩ := h
    exact .inr (.inl ⟨nm, n.toNat, by rw [show ((n.toNat : Nat) : Int) = n by omega], h3, by omega, by omega⟩)
  split at h
  · rename_i hk
    subst hk
    simp only [Bool.and_eq_true, decide_eq_true_eq] at h
    obtain ⟨⟨rfl, h2⟩, h3⟩ := h
    exact .inr (.inr (.inl ⟨nm, t, rfl, h2, h3⟩))
  split at h
  · rename_i hk
    subst hk
    simp only [Bool.and_eq_true, Bool.or_eq_true, decide_eq_true_eq] at h
    obtain ⟨⟨h1, rfl⟩, h3⟩ := h
    exact .inr (.inr (.inr ⟨n.toNat, t, by rw [show ((n.toNat : Nat) : Int) = n by omega], by omega, h3⟩))
  · cases h
theorem read_text (p : PhT) (h : rightG p = true) : readG (phText p) = p ∧ rreadG (phText p) = p := by
  rcases right_cases h with ⟨n, rfl, h1, h2⟩ | ⟨nm, n, rfl, h3, h1, h2⟩ | ⟨nm, t, rfl, h2, h3⟩ | ⟨n, t, rfl, h1, h3⟩
  · have e : phText (1, [], (n : Int), [], ()) = wOnly ++ 32 :: itoa (n : Int) := rfl
    rw [e]
    unfold readG rreadG rwordG
    rw [cutW kw_only]
    simp only
    rw [if_neg (by decide), if_pos trivial, if_pos trivial, numG_itoa n h1 (by omega), rnumG_itoa n (by omega)]
    exact ⟨rfl, rfl⟩
  · have e : phText (2, nm, (n : Int), [], ()) = wNeed ++ 32 :: (nm ++ 32 :: itoa (n : Int)) := rfl
    rw [e]
    unfold readG rreadG rwordG
    rw [cutW kw_need]
    simp only
    rw [cutW fun b hb => (nm_bytes h3 b hb).1]
    simp only
    rw [if_neg (by decide), if_neg (by decide), if_neg (fun hh => itoa_ne n hh.1), if_pos trivial, if_neg (by decide), if_pos trivial, numG_itoa n h1 h2, rnumG_itoa n h2]
    exact ⟨rfl, rfl⟩
  · have e : phText (3, nm, 0, t, ()) = wCall ++ 32 :: (nm ++ tailG t) := rfl
    obtain ⟨c1, c2⟩ := cut_tail (fun b hb => (nm_bytes h2 b hb).1) t
    rw [e]
    unfold readG rreadG rwordG
    rw [cutW kw_call]
    simp only [c1, c2]
    rw [if_neg (by decide), if_neg (by decide), if_neg, if_neg (by decide), if_pos trivial, if_neg (by decide), if_neg (by decide), if_pos trivial]
    · exact ⟨rfl, rfl⟩
    · rintro ⟨rfl, hh⟩
      exact hh (by unfold tailG; simp)
  · have e : phText (4, [], (n : Int), t, ()) = wEnd ++ 32 :: (itoa (n : Int) ++ tailG t) := rfl
    obtain ⟨c1, c2⟩ := cut_tail (fun b hb => (dig_bytes n b hb).1) t
    rw [e]
    unfold readG rreadG rwordG
    rw [cutW kw_end]
    simp only [c1, c2]
    rw [if_neg (by decide), if_neg (by decide), if_neg, if_neg (by decide), if_neg (by decide), if_pos trivial, if_neg (by decide), if_neg (by decide), if_neg (by decide), if_pos trivial, numG_itoa n (by omega) (by omega), rnumG_itoa n (by omega)]
    · exact ⟨rfl, rfl⟩
    · rintro ⟨rfl, hh⟩
      exact hh (by unfold tailG; simp)
theorem text_read (s : By) (h : rightG (readG s) = true) : phText (readG s) = s := by
  have z : rightG z23 ≠ true := by decide
  rcases cut_cases 32 s with ⟨kind, rest, hs, hk, hc⟩ | ⟨_, hc⟩
  case inr =>
    have : readG s = z23 := by unfold readG; rw [hc]; exact if_pos rfl
    rw [this] at h
    exact absurd h z
  unfold readG at h ⊢
  rw [hc] at h ⊢
  simp only at h ⊢
  rw [if_neg (by decide)] at h ⊢
  by_cases k1 : kind = wOnly
  · rw [if_pos k1] at h ⊢
    have hn : numG rest ≠ 0 := by
      intro hh
      rw [hh] at h
      exact absurd h (by decide)
    show wOnly ++ 32 :: itoa (numG rest) = s
    rw [(numG_of hn).2, hs, k1]
  rw [if_neg k1] at h ⊢
  rcases cut_cases 32 rest with ⟨one, behind, hr, ho, hc2⟩ | ⟨_, hc2⟩
  · rw [hc2] at h ⊢
    simp only at h ⊢
    by_cases hb : behind = []
    · rw [if_pos ⟨hb, by
        intro hh
        have := congrArg List.length (hh.trans hr)
        simp at this⟩] at h
      exact absurd h z
    rw [if_neg (fun hh => hb hh.1)] at h ⊢
    by_cases k2 : kind = wNeed
    · rw [if_pos k2] at h ⊢
      have hn : numG behind ≠ 0 := by
        intro hh
        rw [hh] at h
        unfold rightG at h
        simp at h
      show wNeed ++ 32 :: (one ++ 32 :: itoa (numG behind)) = s
      rw [(numG_of hn).2, hs, k2, hr]
    rw [if_neg k2] at h ⊢
    by_cases k3 : kind = wCall
    · rw [if_pos k3] at h ⊢
      show wCall ++ 32 :: (one ++ tailG behind) = s
      unfold tailG
      rw [if_neg hb, hs, k3, hr]
    rw [if_neg k3] at h ⊢
    by_cases k4 : kind = wEnd
    · rw [if_pos k4] at h ⊢
      have hn : numG one ≠ 0 := by
        intro hh
        rw [hh] at h
        unfold rightG at h
        simp at h
      show wEnd ++ 32 :: (itoa (numG one) ++ tailG behind) = s
      unfold tailG
      rw [if_neg hb, (numG_of hn).2, hs, k4, hr]
    · rw [if_neg k4] at h
      exact absurd h z
  · rw [hc2] at h ⊢
    simp only at h ⊢
    rw [if_neg (fun hh => hh.2 rfl)] at h ⊢
    by_cases k2 : kind = wNeed
    · rw [if_pos k2] at h
      have : numG [] = 0 := by unfold numG; rfl
      rw [this] at h
      unfold rightG at h
      simp at h
    rw [if_neg k2] at h ⊢
    by_cases k3 : kind = wCall
    · rw [if_pos k3] at h ⊢
      show wCall ++ 32 :: (rest ++ tailG []) = s
      unfold tailG
      rw [if_pos rfl, List.append_nil, hs, k3]
    rw [if_neg k3] at h ⊢
    by_cases k4 : kind = wEnd
    · rw [if_pos k4] at h ⊢
      have hn : numG rest ≠ 0 := by
        intro hh
        rw [hh] at h
        unfold rightG at h
        simp at h
      show wEnd ++ 32 :: (itoa (numG rest) ++ tailG []) = s
      unfold tailG
      rw [if_pos rfl, List.append_nil, (numG_of hn).2, hs, k4]
    · rw [if_neg k4] at h
      exact absurd h z
end Go.Vm
/- Programs: printed and parsed, plainly; the document's parser on a printed one. No condition. -/
namespace Go.Vm
open Go.Lib (decDigits itoa)
set_option linter.unusedVariables false
set_option linter.unusedSimpArgs false
def printG (l : List PhT) : By := Lib.join (l.map phText) [59, 32]
def restG : List By → Option (List PhT)
  | [] => some []
  | x :: r => match x with
    | 32 :: t => (restG r).map (readG t :: ·)
    | _ => none
def parsG (s : By) : Option (List PhT) := match splC 59 s with
  | x :: r => (restG r).map (readG x :: ·)
  | [] => none
theorem join_tail (x : By) : ∀ r : List By, joinD 59 (x :: r.map (fun t => 32 :: t)) = x ++ Lib.joinTail [59, 32] r
  | [] => by show x = x ++ []; rw [List.append_nil]
  | t :: r => by
    rw [List.map_cons, joinD_cons 59 x (by simp), join_tail (32 :: t) r]
    show x ++ 59 :: ((32 :: t) ++ Lib.joinTail [59, 32] r) = x ++ ((59 :: 32 :: t) ++ Lib.joinTail [59, 32] r)
    rfl
theorem printG_cons (p : PhT) (r : List PhT) : printG (p :: r) = phText p ++ Lib.joinTail [59, 32] (r.map phText) := by
  unfold printG
  rw [List.map_cons, Lib.join_cons]
theorem tailG_no {d : UInt8} (hd : d ≠ 32) {t : By} (h : ∀ b ∈ t, b ≠ d) : ∀ b ∈ tailG t, b ≠ d := by
  unfold tailG
  split
  · exact fun b hb => by cases hb
  · intro b hb
    rcases List.mem_cons.1 hb with rfl | hb
    · exact fun e => hd e.symm
    · exact h b hb
theorem textG_no {t : By} (h : textG t = true) : ∀ b ∈ t, b ≠ 59 := by
  unfold textG at h
  rw [Bool.and_eq_true] at h
  intro b hb
  have := List.all_eq_true.1 h.1 b hb
  simpa using this
theorem app_no {d : UInt8} {a b : By} (ha : ∀ x ∈ a, x ≠ d) (hb : ∀ x ∈ b, x ≠ d) : ∀ x ∈ a ++ b, x ≠ d := fun x hx => (List.mem_append.1 hx).elim (ha x) (hb x)
theorem cons_no {d c : UInt8} {b : By} (hc : c ≠ d) (hb : ∀ x ∈ b, x ≠ d) : ∀ x ∈ c :: b, x ≠ d := fun x hx => (List.mem_cons.1 hx).elim (fun e => e ▸ hc) (hb x)
theorem text_no {p : PhT} (h : rightG p = true) : ∀ b ∈ phText p, b ≠ 59 := by
  rcases right_cases h with ⟨n, rfl, h1, h2⟩ | ⟨nm, n, rfl, h3, h1, h2⟩ | ⟨nm, t, rfl, h2, h3⟩ | ⟨n, t, rfl, h1, h3⟩
  · exact app_no (a := wOnly) (by decide) (cons_no (by decide) fun b hb => (dig_bytes n b hb).2)
  · exact app_no (a := wNeed) (by decide) (cons_no (by decide) (app_no (fun b hb => (nm_bytes h3 b hb).2) (cons_no (by decide) fun b hb => (dig_bytes n b hb).2)))
  · exact app_no (a := wCall) (by decide) (cons_no (by decide) (app_no (fun b hb => (nm_bytes h2 b hb).2) (tailG_no (by decide) (textG_no h3))))
  · exact app_no (a := wEnd) (by decide) (cons_no (by decide) (app_no (fun b hb => (dig_bytes n b hb).2) (tailG_no (by decide) (textG_no h3))))
theorem text_ne (p : PhT) : phText p ≠ [] := by
  unfold phText
  repeat' split
  all_goals simp
theorem mayL_right : ∀ l : List PhT, mayL l = true → ∀ p ∈ l, rightG p = true
  | [], h, p, hp => by cases hp
  | q :: l, h, p, hp => by
    unfold mayL at h
    rw [Bool.and_eq_true, Bool.and_eq_true] at h
    rcases List.mem_cons.1 hp with rfl | hp
    · exact h.1.1
    · exact mayL_right l h.2 p hp
theorem may_right {l : List PhT} (h : mayG l = true) : (∀ p ∈ l, rightG p = true) ∧ 1 ≤ l.length ∧ l.length ≤ 5 := by
  unfold mayG at h
  simp only [Bool.and_eq_true, decide_eq_true_eq] at h
  exact ⟨mayL_right l h.2, h.1.1, h.1.2⟩
theorem rest_text : ∀ r : List PhT, (∀ p ∈ r, rightG p = true) → restG (r.map fun p => 32 :: phText p) = some r
  | [], h => rfl
  | p :: r, h => by
    rw [List.map_cons]
    show (restG (r.map fun p => 32 :: phText p)).map (readG (phText p) :: ·) = _
    rw [rest_text r fun q hq => h q (List.mem_cons_of_mem _ hq), (read_text p (h p (List.mem_cons_self ..))).1]
    rfl
theorem pars_print (l : List PhT) (h : mayG l = true) : parsG (printG l) = some l := by
  obtain ⟨h1, h2, h3⟩ := may_right h
  cases l with
  | nil => simp at h2
  | cons p r =>
    have e : printG (p :: r) = joinD 59 (phText p :: r.map fun p => 32 :: phText p) := by
      rw [printG_cons, ← join_tail, List.map_map]
      rfl
    have hs : splC 59 (joinD 59 (phText p :: r.map fun p => 32 :: phText p)) = phText p :: r.map fun p => 32 :: phText p := by
      refine splC_join _ (by simp) fun x hx => ?_
      rcases List.mem_cons.1 hx with rfl | hx
      · exact text_no (h1 p (List.mem_cons_self ..))
      · obtain ⟨q, hq, rfl⟩ := List.mem_map.1 hx
        exact cons_no (by decide) (text_no (h1 q (List.mem_cons_of_mem _ hq)))
    unfold parsG
    rw [e, hs]
    show (restG (r.map fun p => 32 :: phText p)).map (readG (phText p) :: ·) = _
    rw [rest_text r fun q hq => h1 q (List.mem_cons_of_mem _ hq), (read_text p (h1 p (List.mem_cons_self ..))).1]
    rfl
theorem rest_back : ∀ (xs : List By) (l : List PhT), restG xs = some l → (∀ p ∈ l, rightG p = true) → xs = l.map fun p => 32 :: phText p
  | [], l, h, _ => by
    cases h
    rfl
  | x :: xs, l, h, hr => by
    unfold restG at h
    split at h
    · rename_i t
      obtain ⟨l', h1, rfl⟩ := Option.map_eq_some_iff.1 h
      have h2 := hr (readG t) (List.mem_cons_self ..)
      rw [List.map_cons, text_read t h2, ← rest_back xs l' h1 fun p hp => hr p (List.mem_cons_of_mem _ hp)]
    · cases h
theorem print_pars (s : By) (l : List PhT) (h : parsG s = some l) (hm : mayG l = true) : printG l = s := by
  obtain ⟨h1, _, _⟩ := may_right hm
  have hj := join_splC 59 s
  unfold parsG at h
  cases hs : splC 59 s with
  | nil => exact absurd hs (splC_ne 59 s)
  | cons x xs =>
    rw [hs] at h hj
    obtain ⟨l', h2, rfl⟩ := Option.map_eq_some_iff.1 h
    have h3 := h1 (readG x) (List.mem_cons_self ..)
    rw [printG_cons, text_read x h3, ← join_tail, List.map_map]
    have := rest_back xs l' h2 fun p hp => h1 p (List.mem_cons_of_mem _ hp)
    rw [this] at hj
    exact hj
def parseT (s : By) : List PhT × Int := match parsG s with
  | some l => if mayG l = true then (l, 0) else ([], 3)
  | none => ([], 3)
theorem parseT_print (l : List PhT) (h : mayG l = true) : parseT (printG l) = (l, 0) := by
  unfold parseT
  rw [pars_print l h]
  exact if_pos h
theorem parseT_cases (s : By) : (∃ l, mayG l = true ∧ s = printG l ∧ parseT s = (l, 0)) ∨ ((∀ l, mayG l = true → s ≠ printG l) ∧ parseT s = ([], 3)) := by
  by_cases h : ∃ l, mayG l = true ∧ s = printG l
  · obtain ⟨l, h1, rfl⟩ := h
    exact .inl ⟨l, h1, rfl, parseT_print l h1⟩
  · refine .inr ⟨fun l h1 h2 => h ⟨l, h1, h2⟩, ?_⟩
    unfold parseT
    cases hp : parsG s with
    | none => rfl
    | some l =>
      by_cases hm : mayG l = true
      · exact absurd ⟨l, hm, (print_pars s l hp hm).symm⟩ h
      · exact if_neg hm
/-! ### the document's parser -/
def rloop (s : By) : Nat → Nat → Nat → List PhT → Option (List PhT)
  | 0, i, a, out => some out
  | n + 1, i, a, out => if 6 ≤ out.length then some out
    else if i = s.length ∨ s[i]? = some 59 then (if i < a then none else if s.length < i + 2 then some (out ++ [rreadG ((s.drop a).take (i - a))]) else rloop s n (i + 1) (i + 2) (out ++ [rreadG ((s.drop a).take (i - a))]))
    else rloop s n (i + 1) a out
def rparsG (s : By) : Option (List PhT) := rloop s (s.length + 1) 0 0 []
theorem rloop_skip (s : By) (a : Nat) (out : List PhT) (ho : out.length < 6) : ∀ (k i n : Nat), i + k ≤ s.length → (∀ j, i ≤ j → j < i + k → s[j]? ≠ some 59) → rloop s (n + k) i a out = rloop s n (i + k) a out
  | 0, i, n, h, hb => rfl
  | k + 1, i, n, h, hb => by
    have := rloop_skip s a out ho k (i + 1) n (by omega) fun j h1 h2 => hb j (by omega) (by omega)
    rw [show n + (k + 1) = (n + k) + 1 by omega, rloop, if_neg (by omega), if_neg, this, show i + 1 + k = i + (k + 1) by omega]
    rintro (h1 | h1)
    · omega
    · exact hb i (Nat.le_refl _) (by omega) h1
theorem rloop_print : ∀ (r : List PhT) (p : PhT) (pre : By) (out : List PhT), (∀ q ∈ p :: r, rightG q = true) → out.length + r.length ≤ 4 →
    rloop (pre ++ (phText p ++ Lib.joinTail [59, 32] (r.map phText))) ((pre ++ (phText p ++ Lib.joinTail [59, 32] (r.map phText))).length + 1 - pre.length) pre.length pre.length out = some (out ++ p :: r)
  | [], p, pre, out, hr, ho => by
    have hp := hr p (List.mem_cons_self ..)
    have e : pre ++ (phText p ++ Lib.joinTail [59, 32] (([] : List PhT).map phText)) = pre ++ phText p := by
      show pre ++ (phText p ++ []) = _
      rw [List.append_nil]
    rw [e]
    have hl : (pre ++ phText p).length = pre.length + (phText p).length := List.length_append
    have hsk := rloop_skip (pre ++ phText p) pre.length out (by simp only [List.length_nil] at ho; omega) (phText p).length pre.length 1 (by omega) (by
      intro j h1 h2 h3
      rw [List.getElem?_append_right h1] at h3
      exact text_no hp 59 (List.mem_of_getElem? h3) rfl)
    rw [show (pre ++ phText p).length + 1 - pre.length = 1 + (phText p).length by omega, hsk, rloop, if_neg (by simp only [List.length_nil] at ho; omega), if_pos (.inl (by omega)), if_neg (by omega), if_pos (by omega), List.drop_left, Nat.add_sub_cancel_left, List.take_length, (read_text p hp).2]
  | q :: r, p, pre, out, hr, ho => by
    have hp := hr p (List.mem_cons_self ..)
    simp only [List.length_cons] at ho
    have e : Lib.joinTail [59, 32] ((q :: r).map phText) = 59 :: 32 :: (phText q ++ Lib.joinTail [59, 32] (r.map phText)) := by
      rw [List.map_cons]
      rfl
    rw [e]
    have ih := rloop_print r q (pre ++ phText p ++ [59, 32]) (out ++ [p]) (fun x hx => hr x (List.mem_cons_of_mem _ hx)) (by rw [List.length_append, List.length_singleton]; omega)
    have e2 : pre ++ phText p ++ [59, 32] ++ (phText q ++ Lib.joinTail [59, 32] (r.map phText)) = pre ++ (phText p ++ 59 :: 32 :: (phText q ++ Lib.joinTail [59, 32] (r.map phText))) := by simp [List.append_assoc]
    rw [e2] at ih
    have hpl : (pre ++ phText p ++ [59, 32]).length = pre.length + (phText p).length + 2 := by rw [List.length_append, List.length_append]; rfl
    rw [hpl] at ih
    have hq := List.length_pos_iff.2 (text_ne q)
    have hsl : (pre ++ (phText p ++ 59 :: 32 :: (phText q ++ Lib.joinTail [59, 32] (r.map phText)))).length = pre.length + (phText p).length + 2 + (phText q ++ Lib.joinTail [59, 32] (r.map phText)).length := by
      simp only [List.length_append, List.length_cons]; omega
    have hql : 1 ≤ (phText q ++ Lib.joinTail [59, 32] (r.map phText)).length := by rw [List.length_append]; omega
    generalize hS : pre ++ (phText p ++ 59 :: 32 :: (phText q ++ Lib.joinTail [59, 32] (r.map phText))) = S at *
    have hat : ∀ j, S[pre.length + j]? = (phText p ++ 59 :: 32 :: (phText q ++ Lib.joinTail [59, 32] (r.map phText)))[j]? := by
      intro j
      rw [← hS, List.getElem?_append_right (by omega), Nat.add_sub_cancel_left]
    generalize (phText q ++ Lib.joinTail [59, 32] (r.map phText)) = T at *
    have h59 : S[pre.length + (phText p).length]? = some 59 := by rw [hat, List.getElem?_append_right (Nat.le_refl _), Nat.sub_self]; rfl
    have h32 : S[pre.length + (phText p).length + 1]? = some 32 := by rw [Nat.add_assoc, hat, List.getElem?_append_right (by omega), Nat.add_sub_cancel_left]; rfl
    have hsk := rloop_skip S pre.length out (by omega) (phText p).length pre.length (T.length + 3) (by omega) (by
      intro j h1 h2 h3
      rw [show j = pre.length + (j - pre.length) by omega, hat, List.getElem?_append_left (by omega)] at h3
      exact text_no hp 59 (List.mem_of_getElem? h3) rfl)
    have htk : (S.drop pre.length).take (phText p).length = phText p := by rw [← hS, List.drop_left, List.take_left]
    rw [show S.length + 1 - pre.length = T.length + 3 + (phText p).length by omega, hsk, rloop, if_neg (by omega), if_pos (.inr h59), if_neg (by omega), if_neg (by omega), Nat.add_sub_cancel_left, htk, (read_text p hp).2]
    rw [show T.length + 2 = (T.length + 1) + 1 by omega, rloop, if_neg (by rw [List.length_append, List.length_singleton]; omega), if_neg]
    · rw [show S.length + 1 - (pre.length + (phText p).length + 2) = T.length + 1 by omega, List.append_assoc] at ih
      exact ih
    · rintro (h | h)
      · omega
      · rw [h32] at h
        injection h with h
        exact absurd h (by decide)
theorem rpars_print (l : List PhT) (h : mayG l = true) : rparsG (printG l) = some l := by
  obtain ⟨h1, h2, h3⟩ := may_right h
  cases l with
  | nil => simp at h2
  | cons p r =>
    have := rloop_print r p [] [] h1 (by simp only [List.length_nil, List.length_cons] at h3 ⊢; omega)
    simp only [List.nil_append, List.length_nil, Nat.sub_zero] at this
    unfold rparsG
    rw [printG_cons]
    exact this
end Go.Vm
