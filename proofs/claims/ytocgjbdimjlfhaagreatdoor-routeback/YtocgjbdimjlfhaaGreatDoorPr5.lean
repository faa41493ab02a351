import Derived.Test.YtocgjbdimjlfhaaGreatDoorFref24
import Derived.Test.YtocgjbdimjlfhaaGreatDoorPr3
import Derived.Test.YtocgjbdimjlfhaaGreatDoorPg7
/- Tables: the document's functions are the plain ones. No condition but on lengths. -/
namespace Go.Vm
open Go.Proofs
set_option linter.unusedVariables false
set_option linter.unusedSimpArgs false
/-! ### parts -/
def conF (c : By) : List By → List By
  | [] => []
  | p :: ps => (c ++ p) :: ps
theorem conF_nil (l : List By) : conF [] l = l := by cases l <;> rfl
theorem rparts_loop (s : By) (hs : s.length ≤ 1000) : ∀ (n i a : Nat) (out : List By), i + n = s.length + 1 → 1 ≤ n → a ≤ i → out.length ≤ i → TendsL M_conciergeref24_Parts_l0 (s, (), (a : Int), (i : Int), out, ()) ((), out ++ conF ((s.drop a).take (i - a)) (splC 47 (s.drop i)), ())
  | 0, i, a, out, h, h1, ha, ho => by omega
  | n + 1, i, a, out, h, h1, ha, ho => by
    have hw : IntKind.i64.wrap ((i : Int) + 1) = ((i + 1 : Nat) : Int) := by rw [wrap64 _ (by omega) (by omega)]; omega
    have hsb : sub s (a : Int) (i : Int) = some ((s.drop a).take (i - a)) := sub_nat s a i (by omega) (by omega)
    by_cases hl : i = s.length
    · have hd : s.drop i = [] := List.drop_eq_nil_of_le (by omega)
      rw [hd, splC_nil]
      have e : conF ((s.drop a).take (i - a)) [[]] = [(s.drop a).take (i - a)] := by show [(s.drop a).take (i - a) ++ []] = _; rw [List.append_nil]
      rw [e]
      refine TendsL.step (x' := (s, (), ((i + 1 : Nat) : Int), ((i + 1 : Nat) : Int), out ++ [(s.drop a).take (i - a)], ())) (.of fun F => ?_) (TendsL.fin (.of fun F => ?_))
      · unfold M_conciergeref24_Parts_l0
        rw [if_pos (by rw [decide_eq_true_eq]; simp only; omega), if_neg (by rw [decide_eq_true (by simp only; omega)]; exact Bool.noConfusion), Option.bind_some]
        simp only [if_true, hsb, Option.bind_some]
        rw [if_pos (by rw [decide_eq_true_eq]; simp only [List.length_singleton]; omega)]
        simp only [Option.bind_some, hw]
      · unfold M_conciergeref24_Parts_l0
        rw [if_neg (by rw [decide_eq_true_eq]; simp only; omega)]
    have hi : i < s.length := by omega
    have hx : idx s (i : Int) = some s[i] := idx_at _ _ _ (List.getElem?_eq_getElem hi)
    have n47 : ((s[i].toNat : Int) = 47) = (s[i] = 47) := nvB s[i] 47
    have htk : (s.drop a).take (i + 1 - a) = (s.drop a).take (i - a) ++ [s[i]] := by
      rw [show i + 1 - a = (i - a) + 1 by omega, List.take_add_one]
      congr 1
      rw [List.getElem?_drop, show a + (i - a) = i by omega, List.getElem?_eq_getElem hi]
      rfl
    rw [List.drop_eq_getElem_cons hi]
    have ih := fun a out => rparts_loop s hs n (i + 1) a out (by omega) (by omega)
    by_cases hc : s[i] = 47
    · have e : conF ((s.drop a).take (i - a)) (splC 47 (s[i] :: s.drop (i + 1))) = (s.drop a).take (i - a) :: splC 47 (s.drop (i + 1)) := by
        rw [hc, splC_s]
        show ((s.drop a).take (i - a) ++ []) :: _ = _
        rw [List.append_nil]
      rw [e]
      have ih2 := ih (i + 1) (out ++ [(s.drop a).take (i - a)]) (Nat.le_refl _) (by rw [List.length_append, List.length_singleton]; omega)
      rw [Nat.sub_self, List.take_zero, conF_nil, List.append_assoc] at ih2
      refine TendsL.step (.of fun F => ?_) ih2
      unfold M_conciergeref24_Parts_l0
      rw [if_pos (by rw [decide_eq_true_eq]; simp only; omega), if_pos (decide_eq_false (by simp only; omega))]
      simp only [hx, Option.bind_some, n47, decide_eq_true hc, if_true, hsb]
      rw [if_pos (by rw [decide_eq_true_eq]; simp only [List.length_singleton]; omega)]
      simp only [Option.bind_some, hw]
    · have e : conF ((s.drop a).take (i - a)) (splC 47 (s[i] :: s.drop (i + 1))) = conF ((s.drop a).take (i + 1 - a)) (splC 47 (s.drop (i + 1))) := by
        cases hx2 : splC 47 (s.drop (i + 1)) with
        | nil => exact absurd hx2 (splC_ne 47 _)
        | cons p ps =>
          rw [splC_c hc hx2, htk]
          show ((s.drop a).take (i - a) ++ s[i] :: p) :: ps = ((s.drop a).take (i - a) ++ [s[i]] ++ p) :: ps
          rw [List.append_assoc]
          rfl
      rw [e]
      refine TendsL.step (.of fun F => ?_) (ih a out (by omega) (by omega))
      unfold M_conciergeref24_Parts_l0
      rw [if_pos (by rw [decide_eq_true_eq]; simp only; omega), if_pos (decide_eq_false (by simp only; omega))]
      simp only [hx, Option.bind_some, n47, decide_eq_false hc, Bool.false_eq_true, if_false, hw]
theorem rparts_t (t : By) (h : t.length ≤ 900) : Tends (fun F => M_conciergeref24_Parts F (47 :: t)) (partsG (47 :: t)) := by
  have e : partsG (47 :: t) = if t = [] then [] else splC 47 t := by unfold partsG; simp
  unfold M_conciergeref24_Parts
  rw [e]
  by_cases ht : t = []
  · rw [if_pos ht]
    exact Tends.pos (by rw [decide_eq_true_eq, ht]) (.ret _)
  · rw [if_neg ht]
    refine Tends.neg (by rw [decide_eq_true_eq]; intro hh; injection hh with _ hh; exact ht hh) ?_
    have hpos := List.length_pos_iff.2 ht
    have hl := rparts_loop (47 :: t) (by rw [List.length_cons]; omega) (t.length + 1) 1 1 [] (by rw [List.length_cons]; omega) (by omega) (Nat.le_refl _) (Nat.zero_le _)
    rw [Nat.sub_self, List.take_zero, conF_nil, List.nil_append] at hl
    exact Tends.bind hl.run (.ret _)
theorem rform_t (x : By) : Tends (fun F => M_conciergeref24_form F x) (formG x) := by
  unfold M_conciergeref24_form formG
  refine Tends.bind (rpath_tends5 x) (.of fun F => ?_)
  cases (pathF x).2 <;> simp
theorem rpat_loop (l : List By) (hl : l.length ≤ 1000000) (hx : ∀ x ∈ l, x.length ≤ 1000000) : ∀ (n i : Nat), i + n = l.length → TendsL M_conciergeref24_Pattern_l0 (l, (i : Int), ()) (if patL (l.drop i) = true then .inl () else .inr (false, ()))
  | 0, i, h => by
    refine TendsL.fin (.of fun F => ?_)
    unfold M_conciergeref24_Pattern_l0
    rw [if_neg (by rw [decide_eq_true_eq]; simp only; omega), List.drop_eq_nil_of_le (by omega)]
    rfl
  | n + 1, i, h => by
    have hi : i < l.length := by omega
    have hx0 : idx l (i : Int) = some l[i] := idx_at _ _ _ (List.getElem?_eq_getElem hi)
    have hw : IntKind.i64.wrap ((i : Int) + 1) = ((i + 1 : Nat) : Int) := by rw [wrap64 _ (by omega) (by omega)]; omega
    have hw1 : IntKind.i64.wrap ((l.length : Int) - 1) = ((l.length - 1 : Nat) : Int) := by rw [wrap64 _ (by omega) (by omega)]; omega
    have ih := rpat_loop l hl hx n (i + 1) (by omega)
    have hxl := hx l[i] (List.getElem_mem hi)
    have hd : (l.drop (i + 1) = []) ↔ i = l.length - 1 := by rw [List.drop_eq_nil_iff]; omega
    rw [List.drop_eq_getElem_cons hi]
    generalize l[i] = x at *
    have hk : decide ((i : Int) = ((l.length - 1 : Nat) : Int)) = decide (l.drop (i + 1) = []) := by
      rw [Bool.eq_iff_iff, decide_eq_true_eq, decide_eq_true_eq, hd]; omega
    have e : patL (x :: l.drop (i + 1)) = ((decide (x = [42]) || (decide (x = [42, 42]) && decide (l.drop (i + 1) = [])) || (decide (x ≠ []) && formG (47 :: x))) && patL (l.drop (i + 1))) := rfl
    rw [e]
    generalize hB : (decide (x = [42]) || (decide (x = [42, 42]) && decide (l.drop (i + 1) = [])) || (decide (x ≠ []) && formG (47 :: x))) = B
    have hbody : Tends (fun F => M_conciergeref24_Pattern_l0 F (l, (i : Int), ())) (if B = true then .inl (l, ((i + 1 : Nat) : Int), ()) else .inr (.inr (false, ()))) := by
      unfold M_conciergeref24_Pattern_l0
      refine Tends.pos (by rw [decide_eq_true_eq]; simp only; omega) ?_
      refine Tends.bind (r := (if B = true then .inl (l, (i : Int), ()) else .inr (false, ()) : (List By × Int × Unit) ⊕ (Bool × Unit))) ?_ ?_
      · refine Tends.bind (r := ((l, (i : Int), decide (x = [42]) || (decide (x = [42, 42]) && decide (l.drop (i + 1) = [])), ()) : List By × Int × Bool × Unit)) (Tends.bind (.of fun F => hx0) (.of fun F => ?_)) ?_
        · by_cases c1 : x = [42]
          · rw [if_neg (by rw [decide_eq_true c1]; exact Bool.noConfusion), decide_eq_true c1]
            rfl
          · rw [if_pos (decide_eq_false c1), decide_eq_false c1, Bool.false_or]
            simp only [hx0, Option.bind_some]
            by_cases c2 : x = [42, 42]
            · rw [if_pos (decide_eq_true c2), hw1, hk, decide_eq_true c2, Bool.true_and]
            · rw [if_neg (by rw [decide_eq_true_eq]; exact c2), decide_eq_false c2, Bool.false_and]
        cases hc2 : (decide (x = [42]) || (decide (x = [42, 42]) && decide (l.drop (i + 1) = []))) with
        | true =>
          have : B = true := by rw [← hB, hc2]; rfl
          rw [if_pos this]
          exact Tends.pos rfl (.ret _)
        | false =>
          rw [hc2, Bool.false_or] at hB
          refine Tends.neg Bool.false_ne_true ?_
          refine Tends.bind (r := ((l, (i : Int), !B, ()) : List By × Int × Bool × Unit)) (Tends.bind (.of fun F => hx0) ?_) ?_
          · by_cases c3 : x = []
            · have : B = false := by rw [← hB, decide_eq_false (fun hh => hh c3)]; rfl
              rw [this]
              exact Tends.neg (by rw [decide_eq_true c3]; exact Bool.noConfusion) (.ret _)
            · have hBf : B = formG (47 :: x) := by rw [← hB, decide_eq_true c3, Bool.true_and]
              rw [hBf]
              refine Tends.pos (decide_eq_false c3) (Tends.bind (.of fun F => hx0) (Tends.pos (by rw [decide_eq_true_eq]; simp only [List.length_singleton]; omega) ?_))
              exact Tends.bind (rform_t (47 :: x)) (.ret _)
          · cases B with
            | true => exact Tends.neg Bool.false_ne_true (.ret _)
            | false => exact Tends.pos rfl (.ret _)
      · cases B with
        | true => exact .of fun F => by simp only [if_true, sumC_inl, hw]
        | false => exact .of fun F => rfl
    cases B with
    | true =>
      rw [if_pos rfl] at hbody
      rw [Bool.true_and]
      exact TendsL.step hbody ih
    | false =>
      rw [if_neg Bool.false_ne_true] at hbody
      rw [Bool.false_and, if_neg Bool.false_ne_true]
      exact TendsL.fin hbody
theorem rpattern_t (x : By) (h : x.length ≤ 900) : Tends (fun F => M_conciergeref24_Pattern F x) (patG x) := by
  unfold M_conciergeref24_Pattern patG
  cases x with
  | nil =>
    exact Tends.bind (r := (([], true, ()) : By × Bool × Unit)) (.of fun F => rfl) (Tends.bind (r := (([], true, ()) : By × Bool × Unit)) (.of fun F => rfl) (Tends.pos rfl (.ret _)))
  | cons c t =>
    have hne : decide ((c :: t : By) ≠ []) = true := decide_eq_true (by simp)
    rw [hne, Bool.true_and]
    refine Tends.bind (r := ((c :: t, !decide ((c :: t).length ≤ 60), ()) : By × Bool × Unit)) (.of fun F => ?_) ?_
    · rw [if_pos (decide_eq_false (by simp only [List.length_cons]; omega))]
      by_cases h6 : (c :: t).length ≤ 60
      · rw [decide_eq_true h6, decide_eq_false (by omega)]; rfl
      · rw [decide_eq_false h6, decide_eq_true (by omega)]; rfl
    have hi : idx (c :: t : By) 0 = some c := idx_at _ 0 _ rfl
    have n47 : ((c.toNat : Int) = 47) = (c = 47) := nvB c 47
    have hh : decide ((c :: t : By).head? = some 47) = decide (c = 47) := by rw [Bool.eq_iff_iff]; simp
    rw [hh]
    refine Tends.bind (r := ((c :: t, !(decide ((c :: t).length ≤ 60) && decide (c = 47)), ()) : By × Bool × Unit)) (.of fun F => ?_) ?_
    · cases h6 : decide ((c :: t).length ≤ 60) with
      | true =>
        rw [if_pos (show (!true) = false from rfl)]
        simp only [hi, Option.bind_some, n47, Bool.true_and]
      | false => rfl
    cases h7 : (decide ((c :: t).length ≤ 60) && decide (c = 47)) with
    | false =>
      rw [Bool.false_and]
      exact Tends.pos rfl (.ret _)
    | true =>
      rw [Bool.true_and]
      rw [Bool.and_eq_true, decide_eq_true_eq, decide_eq_true_eq] at h7
      obtain ⟨_, rfl⟩ := h7
      refine Tends.neg Bool.false_ne_true ?_
      rw [List.length_cons] at h
      refine Tends.bind (rparts_t t (by omega)) ?_
      obtain ⟨h1, h2⟩ := parts_len (47 :: t) (by rw [List.length_cons]; omega)
      have hl := rpat_loop (partsG (47 :: t)) (by omega) (fun p hp => by have := h2 p hp; omega) (partsG (47 :: t)).length 0 (by omega)
      rw [List.drop_zero] at hl
      refine Tends.bind hl.run ?_
      cases patL (partsG (47 :: t)) <;> exact .ret _
/-! ### what fits -/
def fitsQ (a0 b0 : List By) : List By → List By → List By × List By × Unit ⊕ Bool × Unit
  | [], b => .inl (a0, b0, ())
  | _ :: _, [] => .inr (false, ())
  | x :: l, y :: b => if x = [42, 42] then .inr (true, ()) else if x = [42] ∨ x = y then fitsQ a0 b0 l b else .inr (false, ())
theorem fitsQ_val (a0 b0 : List By) : ∀ (l b : List By), (a0.length : Int) - l.length = (b0.length : Int) - b.length → sumC (fitsQ a0 b0 l b) (fun v => decide ((v.1.length : Int) = (v.2.1.length : Int))) (fun v => v.1) = fitsL l b
  | [], b, h => by
    show decide ((a0.length : Int) = (b0.length : Int)) = decide (b = [])
    rw [Bool.eq_iff_iff, decide_eq_true_eq, decide_eq_true_eq]
    simp only [List.length_nil] at h
    constructor
    · intro hh
      exact List.length_eq_zero_iff.1 (by omega)
    · rintro rfl
      simp only [List.length_nil] at h
      omega
  | _ :: _, [], h => rfl
  | x :: l, y :: b, h => by
    unfold fitsQ fitsL
    by_cases c1 : x = [42, 42]
    · rw [if_pos c1, if_pos c1]; rfl
    rw [if_neg c1, if_neg c1]
    by_cases c2 : x = [42] ∨ x = y
    · rw [if_pos c2, if_pos c2]
      simp only [List.length_cons] at h
      exact fitsQ_val a0 b0 l b (by omega)
    · rw [if_neg c2, if_neg c2]; rfl
theorem rfits_loop (a b : List By) (ha : a.length ≤ 1000000) (hb : b.length ≤ 1000000) : ∀ (n i : Nat), i + n = a.length → i ≤ b.length → TendsL M_conciergeref24_Fits_l0 (a, b, (i : Int), ()) (fitsQ a b (a.drop i) (b.drop i))
  | 0, i, h, hib => by
    refine TendsL.fin (.of fun F => ?_)
    unfold M_conciergeref24_Fits_l0
    rw [if_neg (by rw [decide_eq_true_eq]; simp only; omega), List.drop_eq_nil_of_le (by omega : a.length ≤ i)]
    rfl
  | n + 1, i, h, hib => by
    have hi : i < a.length := by omega
    have hx0 : idx a (i : Int) = some a[i] := idx_at _ _ _ (List.getElem?_eq_getElem hi)
    have hw : IntKind.i64.wrap ((i : Int) + 1) = ((i + 1 : Nat) : Int) := by rw [wrap64 _ (by omega) (by omega)]; omega
    rw [List.drop_eq_getElem_cons hi]
    have ih := rfits_loop a b ha hb n (i + 1) (by omega)
    generalize a[i] = x at *
    by_cases hlt : i < b.length
    · have hy0 : idx b (i : Int) = some b[i] := idx_at _ _ _ (List.getElem?_eq_getElem hlt)
      rw [List.drop_eq_getElem_cons hlt]
      generalize b[i] = y at *
      unfold fitsQ
      by_cases c1 : x = [42, 42]
      · rw [if_pos c1]
        refine TendsL.fin (.of fun F => ?_)
        unfold M_conciergeref24_Fits_l0
        rw [if_pos (by rw [decide_eq_true_eq]; simp only; omega)]
        simp only [hx0, Option.bind_some]
        rw [if_pos (decide_eq_true c1), decide_eq_true (by omega)]
      rw [if_neg c1]
      have hc : ∀ F : Nat, (if decide ((b.length : Int) ≤ (i : Int)) = false then (idx a (i : Int)).bind fun v7 => if (!decide (v7 = [42])) = true then (idx a (i : Int)).bind fun v8 => (idx b (i : Int)).bind fun v9 => some (a, b, (i : Int), !decide (v8 = v9), ()) else some (a, b, (i : Int), false, ()) else some (a, b, (i : Int), true, ()) : Option (List By × List By × Int × Bool × Unit)) = some (a, b, (i : Int), !decide (x = [42] ∨ x = y), ()) := by
        intro F
        rw [if_pos (decide_eq_false (by omega)), hx0, Option.bind_some]
        by_cases c2 : x = [42]
        · rw [if_neg (by rw [decide_eq_true c2]; decide), decide_eq_true (.inl c2)]; rfl
        · rw [if_pos (by rw [decide_eq_false c2]; rfl), Option.bind_some, hy0, Option.bind_some]
          by_cases c3 : x = y
          · rw [decide_eq_true c3, decide_eq_true (.inr c3)]
          · rw [decide_eq_false c3, decide_eq_false (by rintro (hh | hh); exact c2 hh; exact c3 hh)]
      by_cases c2 : x = [42] ∨ x = y
      · rw [if_pos c2]
        refine TendsL.step ?_ (ih (by omega))
        unfold M_conciergeref24_Fits_l0
        refine Tends.pos (by rw [decide_eq_true_eq]; simp only; omega) (Tends.bind (.of fun F => hx0) (Tends.neg (by rw [decide_eq_true_eq]; exact c1) (Tends.bind (.of hc) (Tends.neg (by rw [decide_eq_true c2]; exact Bool.false_ne_true) (.of fun F => ?_)))))
        simp only [hw]
      · rw [if_neg c2]
        refine TendsL.fin ?_
        unfold M_conciergeref24_Fits_l0
        exact Tends.pos (by rw [decide_eq_true_eq]; simp only; omega) (Tends.bind (.of fun F => hx0) (Tends.neg (by rw [decide_eq_true_eq]; exact c1) (Tends.bind (.of hc) (Tends.pos (by rw [decide_eq_false c2]; rfl) (.ret _)))))
    · rw [List.drop_eq_nil_of_le (by omega : b.length ≤ i)]
      show TendsL _ _ (Sum.inr (false, ()))
      refine TendsL.fin (.of fun F => ?_)
      unfold M_conciergeref24_Fits_l0
      rw [if_pos (by rw [decide_eq_true_eq]; simp only; omega)]
      simp only [hx0, Option.bind_some]
      by_cases c1 : x = [42, 42]
      · rw [if_pos (decide_eq_true c1), decide_eq_false (by omega)]
      · rw [if_neg (by rw [decide_eq_true_eq]; exact c1), if_neg (by rw [decide_eq_true (by omega)]; exact Bool.noConfusion)]
        rfl
theorem form_head {s : By} (h : formG s = true) : ∃ t, s = 47 :: t := by
  unfold formG at h
  rw [Bool.and_eq_true] at h
  cases s with
  | nil => exact absurd h.1 Bool.false_ne_true
  | cons c t =>
    by_cases hc : c = 47
    · exact ⟨t, by rw [hc]⟩
    · rw [pathF_out (.inr hc)] at h
      exact absurd h.1 Bool.false_ne_true
theorem pat_head {s : By} (h : patG s = true) : ∃ t, s = 47 :: t := by
  unfold patG at h
  simp only [Bool.and_eq_true, decide_eq_true_eq] at h
  cases s with
  | nil => exact absurd rfl h.1.1.1
  | cons c t =>
    have : c = 47 := by simpa using h.1.2
    exact ⟨t, by rw [this]⟩
theorem rfits_t (p s : By) (hp : p.length ≤ 900) (hs : s.length ≤ 900) : Tends (fun F => M_conciergeref24_Fits F (p, s)) (fitsG p s) := by
  unfold M_conciergeref24_Fits fitsG
  refine Tends.bind (r := ((p, s, !(patG p && formG s), ()) : By × By × Bool × Unit)) (Tends.bind (rpattern_t p hp) ?_) ?_
  · cases patG p with
    | true => exact Tends.pos rfl (Tends.bind (rform_t s) (.ret _))
    | false => exact Tends.neg (by decide) (.ret _)
  cases hb : (patG p && formG s) with
  | false =>
    rw [Bool.false_and]
    exact Tends.pos rfl (.ret _)
  | true =>
    rw [Bool.true_and]
    rw [Bool.and_eq_true] at hb
    obtain ⟨t, rfl⟩ := pat_head hb.1
    obtain ⟨t', rfl⟩ := form_head hb.2
    rw [List.length_cons] at hp hs
    refine Tends.neg Bool.false_ne_true ?_
    refine Tends.bind (rparts_t t (by omega)) (Tends.bind (rparts_t t' (by omega)) ?_)
    obtain ⟨h1, _⟩ := parts_len (47 :: t) (by rw [List.length_cons]; omega)
    obtain ⟨h2, _⟩ := parts_len (47 :: t') (by rw [List.length_cons]; omega)
    have hl := rfits_loop (partsG (47 :: t)) (partsG (47 :: t')) (by omega) (by omega) (partsG (47 :: t)).length 0 (by omega) (Nat.zero_le _)
    rw [List.drop_zero, List.drop_zero] at hl
    refine Tends.bind hl.run ?_
    rw [← fitsQ_val (partsG (47 :: t)) (partsG (47 :: t')) (partsG (47 :: t)) (partsG (47 :: t')) (by omega)]
    refine .of fun F => ?_
    cases fitsQ (partsG (47 :: t)) (partsG (47 :: t')) (partsG (47 :: t)) (partsG (47 :: t')) <;> rfl
theorem rmethod_t (s : By) : Tends (fun F => M_conciergeref24_method F s) (methG s) := by
  unfold M_conciergeref24_method methG
  refine Tends.bind (rmeth_tends s) (.of fun F => ?_)
  by_cases c1 : s = [42]
  · rw [if_neg (by rw [decide_eq_true c1]; exact Bool.noConfusion), decide_eq_true c1]
    rfl
  · rw [if_pos (decide_eq_false c1), decide_eq_false c1, Bool.false_or]
    cases (methF s).2 <;> simp
end Go.Vm
/- Tables: what the document prints, parses and finds is the plain one; small tables. No condition but on lengths. -/
namespace Go.Vm
open Go.Proofs
set_option linter.unusedVariables false
set_option linter.unusedSimpArgs false
def bndQ (r : RlT) : Prop := r.1.length ≤ 900 ∧ r.2.1.length ≤ 900 ∧ r.2.2.1.length ≤ 100000 ∧ ∀ p ∈ r.2.2.1, bndP p
theorem bndQ.r {r : RlT} (h : bndQ r) : bndR r := ⟨by have := h.1; omega, by have := h.2.1; omega, h.2.2.1, h.2.2.2⟩
theorem rrmay_loop (l : List RlT) (hl : l.length ≤ 1000000) (hb : ∀ r ∈ l, bndQ r) : ∀ (n i : Nat), i + n = l.length → TendsL M_conciergeref24_May_l0 (l, (i : Int), ()) (if (l.drop i).all ruleG = true then .inl (l, ()) else .inr (false, ()))
  | 0, i, h => by
    refine TendsL.fin (.of fun F => ?_)
    unfold M_conciergeref24_May_l0
    rw [if_neg (by rw [decide_eq_true_eq]; simp only; omega), List.drop_eq_nil_of_le (by omega)]
    rfl
  | n + 1, i, h => by
    have hi : i < l.length := by omega
    have hx : idx l (i : Int) = some l[i] := idx_at _ _ _ (List.getElem?_eq_getElem hi)
    have hw : IntKind.i64.wrap ((i : Int) + 1) = ((i + 1 : Nat) : Int) := by rw [wrap64 _ (by omega) (by omega)]; omega
    have ih := rrmay_loop l hl hb n (i + 1) (by omega)
    obtain ⟨b1, b2, b3, b4⟩ := hb l[i] (List.getElem_mem hi)
    rw [List.drop_eq_getElem_cons hi, List.all_cons]
    generalize l[i] = r at *
    obtain ⟨m, p, pr, u⟩ := r
    simp only at b1 b2 b3 b4
    have e : ruleG (m, p, pr, u) = (methG m && patG p && mayG pr) := rfl
    have hbody : Tends (fun F => M_conciergeref24_May_l0 F (l, (i : Int), ())) (if ruleG (m, p, pr, u) = true then .inl (l, ((i + 1 : Nat) : Int), ()) else .inr (.inr (false, ()))) := by
      rw [e]
      unfold M_conciergeref24_May_l0
      refine Tends.pos (by rw [decide_eq_true_eq]; simp only; omega) ?_
      refine Tends.bind (r := ((l, (i : Int), !(methG m && patG p), ()) : List RlT × Int × Bool × Unit)) (Tends.bind (.of fun F => hx) (Tends.bind (rmethod_t m) ?_)) ?_
      · cases methG m with
        | true => exact Tends.pos rfl (Tends.bind (.of fun F => hx) (Tends.bind (rpattern_t p b2) (.ret _)))
        | false => exact Tends.neg (by decide) (.ret _)
      refine Tends.bind (r := ((l, (i : Int), !(methG m && patG p && mayG pr), ()) : List RlT × Int × Bool × Unit)) ?_ ?_
      · cases (methG m && patG p) with
        | true => exact Tends.pos rfl (Tends.bind (.of fun F => hx) (Tends.bind (rmay_t pr (by omega) b4) (.ret _)))
        | false => exact Tends.neg Bool.noConfusion (.ret _)
      · cases (methG m && patG p && mayG pr) with
        | true => exact Tends.neg Bool.false_ne_true (.of fun F => by simp only [hw, if_true])
        | false => exact Tends.pos rfl (.ret _)
    cases hc : ruleG (m, p, pr, u) with
    | true =>
      rw [hc, if_pos rfl] at hbody
      rw [Bool.true_and]
      exact TendsL.step hbody ih
    | false =>
      rw [hc, if_neg Bool.false_ne_true] at hbody
      rw [Bool.false_and, if_neg Bool.false_ne_true]
      exact TendsL.fin hbody
theorem rrmay_t (l : List RlT) (hl : l.length ≤ 1000000) (hb : ∀ r ∈ l, bndQ r) : Tends (fun F => M_conciergeref24_May F l) (mayR l) := by
  unfold M_conciergeref24_May mayR
  have h := rrmay_loop l hl hb l.length 0 (by omega)
  rw [List.drop_zero] at h
  refine Tends.bind h.run ?_
  by_cases ha : l.all ruleG = true
  · rw [if_pos ha, ha, Bool.and_true]
    refine Tends.bind (r := ((decide (1 ≤ l.length) && decide (l.length ≤ 8), ()) : Bool × Unit)) (.of fun F => ?_) (.ret _)
    by_cases h0 : 1 ≤ l.length
    · rw [if_pos (by rw [decide_eq_true_eq]; simp only; omega), decide_eq_true h0, Bool.true_and]
      simp only
      congr 2
      rw [Bool.eq_iff_iff, decide_eq_true_eq, decide_eq_true_eq]; omega
    · rw [if_neg (by rw [decide_eq_true_eq]; simp only; omega), decide_eq_false h0, Bool.false_and]
  · have ha' : l.all ruleG = false := by simpa using ha
    rw [if_neg ha, ha', Bool.and_false]
    exact .ret _
def joinT (l : List By) : By := l.flatMap fun p => 10 :: p
theorem joinD_T (p : By) (l : List By) : joinD 10 (p :: l) = p ++ joinT l := by
  induction l generalizing p with
  | nil => show p = p ++ []; rw [List.append_nil]
  | cons q r ih =>
    rw [joinD_cons 10 p (by simp), ih q]
    show p ++ 10 :: (q ++ joinT r) = p ++ (10 :: q ++ joinT r)
    rfl
theorem rrprint_line (F' : Unit) (l : List RlT) (r : RlT) (i : Nat) (out : By) (hx : idx l (i : Int) = some r) (hr : ruleG r = true) (ho : out.length ≤ 1000000) :
    Tends (fun F => (idx l (i : Int)).bind fun v2 => if decide (out.length + v2.1.length ≤ 9223372036854775807) = true then if decide ((out ++ v2.1).length + ([32] : By).length ≤ 9223372036854775807) = true then (idx l (i : Int)).bind fun v3 => if decide ((out ++ v2.1 ++ [32]).length + v3.2.1.length ≤ 9223372036854775807) = true then if decide ((out ++ v2.1 ++ [32] ++ v3.2.1).length + ([58, 32] : By).length ≤ 9223372036854775807) = true then (idx l (i : Int)).bind fun v4 => (M_conciergeref23_Print F v4.2.2.1).bind fun v5 => if decide ((out ++ v2.1 ++ [32] ++ v3.2.1 ++ [58, 32]).length + v5.length ≤ 9223372036854775807) = true then some (Sum.inl (l, out ++ v2.1 ++ [32] ++ v3.2.1 ++ [58, 32] ++ v5, IntKind.i64.wrap ((i : Int) + 1), ())) else none else none else none else none else none : Nat → Option ((List RlT × By × Int × Unit) ⊕ (By × Unit)))
      (.inl (l, out ++ lineG r, IntKind.i64.wrap ((i : Int) + 1), ())) := by
  obtain ⟨q1, q2, q3, q4⟩ := rule_len hr
  have hm : mayG r.2.2.1 = true := by
    unfold ruleG at hr
    simp only [Bool.and_eq_true] at hr
    exact hr.2
  obtain ⟨m1, _, m3⟩ := may_right hm
  have hp := rprint_t r.2.2.1 (by omega) m1
  have e : out ++ r.1 ++ [32] ++ r.2.1 ++ [58, 32] ++ printG r.2.2.1 = out ++ lineG r := by unfold lineG; simp [List.append_assoc]
  have big : ∀ {a b : Nat}, a + b ≤ 10000000 → decide (a + b ≤ 9223372036854775807) = true := fun h => decide_eq_true (by omega)
  refine Tends.bind (.of fun F => hx) ?_
  refine Tends.pos (big (by omega)) ?_
  refine Tends.pos (big (by simp only [List.length_append, List.length_cons, List.length_nil]; omega)) (Tends.bind (.of fun F => hx) ?_)
  refine Tends.pos (big (by simp only [List.length_append, List.length_cons, List.length_nil]; omega)) ?_
  refine Tends.pos (big (by simp only [List.length_append, List.length_cons, List.length_nil]; omega)) (Tends.bind (.of fun F => hx) (Tends.bind hp ?_))
  refine Tends.pos (big (by simp only [List.length_append, List.length_cons, List.length_nil]; omega)) (.of fun F => ?_)
  rw [e]
theorem rrprint_loop (l : List RlT) (hl : l.length ≤ 500) (hr : ∀ r ∈ l, ruleG r = true) : ∀ (n i : Nat) (out : By), i + n = l.length → 1 ≤ i → out.length ≤ 1002 * i → TendsL M_conciergeref24_Print_l0 (l, out, (i : Int), ()) (out ++ joinT ((l.drop i).map lineG), ())
  | 0, i, out, h, h1, ho => by
    refine TendsL.fin (.of fun F => ?_)
    unfold M_conciergeref24_Print_l0
    rw [if_neg (by rw [decide_eq_true_eq]; simp only; omega), List.drop_eq_nil_of_le (by omega)]
    show some (Sum.inr (out, ())) = some (Sum.inr (out ++ [], ()))
    rw [List.append_nil]
  | n + 1, i, out, h, h1, ho => by
    have hi : i < l.length := by omega
    have hx : idx l (i : Int) = some l[i] := idx_at _ _ _ (List.getElem?_eq_getElem hi)
    have hw : IntKind.i64.wrap ((i : Int) + 1) = ((i + 1 : Nat) : Int) := by rw [wrap64 _ (by omega) (by omega)]; omega
    have hr1 := hr l[i] (List.getElem_mem hi)
    rw [List.drop_eq_getElem_cons hi, List.map_cons]
    generalize l[i] = r at *
    obtain ⟨q1, q2, q3, q4⟩ := rule_len hr1
    have ht := rrprint_line () l r i (out ++ [10]) hx hr1 (by rw [List.length_append, List.length_singleton]; omega)
    rw [hw] at ht
    have ih := rrprint_loop l hl hr n (i + 1) (out ++ [10] ++ lineG r) (by omega) (by omega) (by simp only [List.length_append, List.length_cons, List.length_nil]; omega)
    have e : out ++ joinT (lineG r :: (l.drop (i + 1)).map lineG) = out ++ [10] ++ lineG r ++ joinT ((l.drop (i + 1)).map lineG) := by
      show out ++ (10 :: lineG r ++ joinT ((l.drop (i + 1)).map lineG)) = _
      simp [List.append_assoc]
    rw [e]
    refine TendsL.step ?_ ih
    unfold M_conciergeref24_Print_l0
    refine Tends.pos (by rw [decide_eq_true_eq]; simp only; omega) ?_
    refine Tends.bind (r := ((l, out ++ [10], (i : Int), ()) : List RlT × By × Int × Unit)) (Tends.pos (by rw [decide_eq_true_eq]; simp only; omega) (Tends.pos (by rw [decide_eq_true_eq]; simp only [List.length_cons, List.length_nil]; omega) (.ret _))) ?_
    rw [← hw] at ht ⊢
    exact ht
theorem rrprint_t (l : List RlT) (h : mayR l = true) : Tends (fun F => M_conciergeref24_Print F l) (printR l) := by
  obtain ⟨h0, h8, hr⟩ := mayR_all h
  unfold M_conciergeref24_Print printR
  cases l with
  | nil => exact absurd rfl h0
  | cons p r =>
    rw [List.length_cons] at h8
    have hr1 := hr p (List.mem_cons_self ..)
    obtain ⟨q1, q2, q3, q4⟩ := rule_len hr1
    have hx : idx (p :: r) ((0 : Nat) : Int) = some p := idx_at _ 0 _ rfl
    have ht := rrprint_line () (p :: r) p 0 [] hx hr1 (Nat.zero_le _)
    have hl := rrprint_loop (p :: r) (by rw [List.length_cons]; omega) hr r.length 1 (lineG p) (by rw [List.length_cons]; omega) (Nat.le_refl _) (by omega)
    have hw : IntKind.i64.wrap (((0 : Nat) : Int) + 1) = ((1 : Nat) : Int) := by rw [wrap64 _ (by omega) (by omega)]; rfl
    have hs : TendsL M_conciergeref24_Print_l0 (p :: r, ([] : By), 0, ()) (joinD 10 ((p :: r).map lineG), ()) := by
      rw [List.map_cons, joinD_T]
      refine TendsL.step (x' := (p :: r, [] ++ lineG p, IntKind.i64.wrap (((0 : Nat) : Int) + 1), ())) ?_ ?_
      · unfold M_conciergeref24_Print_l0
        refine Tends.pos (by rw [decide_eq_true_eq]; simp only [List.length_cons]; omega) ?_
        exact Tends.bind (r := ((p :: r, [], 0, ()) : List RlT × By × Int × Unit)) (Tends.neg (by simp) (.ret _)) ht
      · rw [hw, List.nil_append]
        exact hl
    exact Tends.bind hs.run (.ret _)
/-! ### cutting at a byte -/
theorem upto_hit (d : UInt8) (s p q : By) (hs : s = p ++ d :: q) (hp : ∀ b ∈ p, b ≠ d) (hl : s.length ≤ 1000000) : ∀ (n i : Nat), i + n = p.length → TendsL M_conciergeref24_upto_l0 (s, (d.toNat : Int), (i : Int), ()) (.inr (p, q, true, ()))
  | 0, i, h => by
    have hsl : s.length = p.length + 1 + q.length := by rw [hs, List.length_append, List.length_cons]; omega
    have hip : i = p.length := by omega
    have hx : idx s (i : Int) = some d := idx_at _ _ _ (by rw [hs, hip, List.getElem?_append_right (Nat.le_refl _), Nat.sub_self]; rfl)
    have hw : IntKind.i64.wrap ((i : Int) + 1) = ((i + 1 : Nat) : Int) := by rw [wrap64 _ (by omega) (by omega)]; omega
    have s1 : sub s 0 (i : Int) = some p := by
      have := sub_nat s 0 i (Nat.zero_le _) (by omega)
      rw [List.drop_zero, Nat.sub_zero, hip] at this
      rw [hip]
      refine (this : sub s 0 (p.length : Int) = _).trans ?_
      rw [hs, List.take_left]
    have s2 : sub s ((i + 1 : Nat) : Int) (s.length : Int) = some q := by
      have := sub_to_end s (i + 1) (by omega)
      rw [this, hip, hs]
      congr 1
      rw [show p ++ d :: q = (p ++ [d]) ++ q by simp, List.drop_left' (by simp)]
    refine TendsL.fin (.of fun F => ?_)
    unfold M_conciergeref24_upto_l0
    rw [if_pos (by rw [decide_eq_true_eq]; simp only; omega)]
    simp only [hx, Option.bind_some]
    rw [if_pos (decide_eq_true trivial)]
    simp only [s1, hw, s2, Option.bind_some]
  | n + 1, i, h => by
    have hsl : s.length = p.length + 1 + q.length := by rw [hs, List.length_append, List.length_cons]; omega
    have hi : i < p.length := by omega
    have hx : idx s (i : Int) = some p[i] := idx_at _ _ _ (by rw [hs, List.getElem?_append_left hi, List.getElem?_eq_getElem hi])
    have hc := hp p[i] (List.getElem_mem hi)
    have hw : IntKind.i64.wrap ((i : Int) + 1) = ((i + 1 : Nat) : Int) := by rw [wrap64 _ (by omega) (by omega)]; omega
    have nd : ((p[i].toNat : Int) = (d.toNat : Int)) = (p[i] = d) := nvB p[i] d
    refine TendsL.step (.of fun F => ?_) (upto_hit d s p q hs hp hl n (i + 1) (by omega))
    unfold M_conciergeref24_upto_l0
    rw [if_pos (by rw [decide_eq_true_eq]; simp only; omega)]
    simp only [hx, Option.bind_some, nd, decide_eq_false hc, Bool.false_eq_true, if_false, hw]
theorem upto_miss (d : UInt8) (s : By) (hp : ∀ b ∈ s, b ≠ d) (hl : s.length ≤ 1000000) : ∀ (n i : Nat), i + n = s.length → TendsL M_conciergeref24_upto_l0 (s, (d.toNat : Int), (i : Int), ()) (.inl (s, ()))
  | 0, i, h => by
    refine TendsL.fin (.of fun F => ?_)
    unfold M_conciergeref24_upto_l0
    rw [if_neg (by rw [decide_eq_true_eq]; simp only; omega)]
  | n + 1, i, h => by
    have hi : i < s.length := by omega
    have hx : idx s (i : Int) = some s[i] := idx_at _ _ _ (List.getElem?_eq_getElem hi)
    have hc := hp s[i] (List.getElem_mem hi)
    have hw : IntKind.i64.wrap ((i : Int) + 1) = ((i + 1 : Nat) : Int) := by rw [wrap64 _ (by omega) (by omega)]; omega
    have nd : ((s[i].toNat : Int) = (d.toNat : Int)) = (s[i] = d) := nvB s[i] d
    refine TendsL.step (.of fun F => ?_) (upto_miss d s hp hl n (i + 1) (by omega))
    unfold M_conciergeref24_upto_l0
    rw [if_pos (by rw [decide_eq_true_eq]; simp only; omega)]
    simp only [hx, Option.bind_some, nd, decide_eq_false hc, Bool.false_eq_true, if_false, hw]
theorem upto_t (d : UInt8) (k : Int) (hk : k = (d.toNat : Int)) (s : By) (hl : s.length ≤ 1000000) : Tends (fun F => M_conciergeref24_upto F (s, k)) (Lib.cut s [d]) := by
  subst hk
  unfold M_conciergeref24_upto
  rcases cut_cases d s with ⟨p, q, hs, hp, hc⟩ | ⟨hp, hc⟩
  · rw [hc]
    have h := upto_hit d s p q hs hp hl p.length 0 (by omega)
    exact Tends.bind h.run (.ret _)
  · rw [hc]
    have h := upto_miss d s hp hl s.length 0 (by omega)
    exact Tends.bind h.run (.ret _)
/-! ### parsing -/
def rlineP (x : By) : Option RlT := if (Lib.cut x [32]).2.2 = false ∨ (Lib.cut (Lib.cut x [32]).2.1 [58]).2.2 = false ∨ (Lib.cut (Lib.cut x [32]).2.1 [58]).2.1 = [] ∨ (rparseT ((Lib.cut (Lib.cut x [32]).2.1 [58]).2.1.drop 1)).2 = false then none
  else some ((Lib.cut x [32]).1, (Lib.cut (Lib.cut x [32]).2.1 [58]).1, (rparseT ((Lib.cut (Lib.cut x [32]).2.1 [58]).2.1.drop 1)).1, ())
theorem rline_parse (r : RlT) (h : ruleG r = true) : rlineP (lineG r) = some r := by
  obtain ⟨m, p, pr, u⟩ := r
  unfold ruleG at h
  simp only [Bool.and_eq_true] at h
  obtain ⟨⟨h1, h2⟩, h3⟩ := h
  have hc : Lib.cut (lineG (m, p, pr, u)) [32] = (m, p ++ 58 :: 32 :: printG pr, true) := cut_hit (fun b hb => (meth_no h1 b hb).2.1) _
  have hd : Lib.cut (p ++ 58 :: 32 :: printG pr) [58] = (p, 32 :: printG pr, true) := cut_hit (fun b hb => (pat_no h2 b hb).2.2) _
  unfold rlineP
  rw [hc]
  simp only
  rw [hd]
  simp only
  rw [show (32 :: printG pr : By).drop 1 = printG pr from rfl, rparseT_print pr h3, if_neg]
  rintro (h | h | h | h) <;> cases h
def rlinesF : Nat → By → Bool → List RlT → Option (List RlT)
  | 0, rest, more, out => some out
  | n + 1, rest, more, out => if more = true ∧ out.length < 9 then (match rlineP (Lib.cut rest [10]).1 with
    | none => none
    | some r => rlinesF n (Lib.cut rest [10]).2.1 (Lib.cut rest [10]).2.2 (out ++ [r])) else some out
def rparseR (s : By) : List RlT × Bool := match rlinesF 10 s true [] with
  | none => ([], false)
  | some l => if mayR l = true ∧ printR l = s then (l, true) else ([], false)
theorem rlines_print : ∀ (r : List RlT) (p : RlT) (n : Nat) (out : List RlT), (∀ q ∈ p :: r, ruleG q = true) → out.length + r.length + 1 ≤ 8 → r.length + 2 ≤ n → rlinesF n (joinD 10 ((p :: r).map lineG)) true out = some (out ++ p :: r)
  | [], p, n, out, hr, ho, hn => by
    have hp := hr p (List.mem_cons_self ..)
    simp only [List.length_nil] at ho hn
    obtain ⟨k, rfl⟩ : ∃ k, n = k + 1 := ⟨n - 1, by omega⟩
    have hc : Lib.cut (joinD 10 ([p].map lineG)) [10] = (lineG p, [], false) := cut_miss (line_no10 hp)
    rw [rlinesF, if_pos ⟨rfl, by omega⟩, hc]
    simp only
    rw [rline_parse p hp]
    simp only
    cases k with
    | zero => rfl
    | succ k => rw [rlinesF, if_neg (fun hh => absurd hh.1 Bool.false_ne_true)]
  | q :: r, p, n, out, hr, ho, hn => by
    have hp := hr p (List.mem_cons_self ..)
    simp only [List.length_cons] at ho hn
    obtain ⟨k, rfl⟩ : ∃ k, n = k + 1 := ⟨n - 1, by omega⟩
    have hc : Lib.cut (joinD 10 ((p :: q :: r).map lineG)) [10] = (lineG p, joinD 10 ((q :: r).map lineG), true) := by
      rw [List.map_cons, joinD_cons 10 _ (by simp)]
      exact cut_hit (line_no10 hp) _
    rw [rlinesF, if_pos ⟨rfl, by omega⟩, hc]
    simp only
    rw [rline_parse p hp]
    simp only
    rw [rlines_print r q k (out ++ [p]) (fun x hx => hr x (List.mem_cons_of_mem _ hx)) (by rw [List.length_append, List.length_singleton]; omega) (by omega), List.append_assoc]
    rfl
theorem right_bnd {p : PhT} (h : rightG p = true) : bndP p := by
  rcases right_cases h with ⟨n, rfl, _, _⟩ | ⟨nm, n, rfl, h, _, _⟩ | ⟨nm, t, rfl, h, ht⟩ | ⟨n, t, rfl, _, ht⟩
  · exact ⟨Nat.zero_le _, Nat.zero_le _⟩
  · exact ⟨by have := nm_len h; simp only; omega, Nat.zero_le _⟩
  · exact ⟨by have := nm_len h; simp only; omega, by have := textG_len ht; simp only; omega⟩
  · exact ⟨Nat.zero_le _, by have := textG_len ht; simp only; omega⟩
theorem rlineP_bnd (x : By) (hx : x.length ≤ 900) (r : RlT) (h : rlineP x = some r) : bndQ r := by
  have l1 := cut_len x [32]
  have l2 := cut_len (Lib.cut x [32]).2.1 [58]
  unfold rlineP at h
  split at h
  · cases h
  · cases h
    refine ⟨by simp only; omega, by simp only; omega, ?_⟩
    unfold rparseT
    split
    · exact ⟨Nat.zero_le _, fun p hp => by cases hp⟩
    · rename_i l hl
      by_cases hm : mayG l = true ∧ printG l = (Lib.cut (Lib.cut x [32]).2.1 [58]).2.1.drop 1
      · rw [if_pos hm]
        obtain ⟨h1, _, h3⟩ := may_right hm.1
        exact ⟨by simp only; omega, fun p hp => right_bnd (h1 p hp)⟩
      · rw [if_neg hm]
        exact ⟨Nat.zero_le _, fun p hp => by cases hp⟩
theorem rlinesF_bnd : ∀ (n : Nat) (rest : By) (more : Bool) (out l : List RlT), rest.length ≤ 900 → (∀ r ∈ out, bndQ r) → out.length + n ≤ 20 → rlinesF n rest more out = some l → (∀ r ∈ l, bndQ r) ∧ l.length ≤ 20
  | 0, rest, more, out, l, hr, hb, ho, h => by
    cases h
    exact ⟨hb, by omega⟩
  | n + 1, rest, more, out, l, hr, hb, ho, h => by
    rw [rlinesF] at h
    split at h
    · split at h
      · cases h
      · rename_i r hrl
        have l1 := cut_len rest [10]
        have := rlineP_bnd _ (by omega) r hrl
        refine rlinesF_bnd n _ _ _ l (by omega) (fun q hq => ?_) (by rw [List.length_append, List.length_singleton]; omega) h
        rcases List.mem_append.1 hq with hq | hq
        · exact hb q hq
        · rw [List.mem_singleton] at hq
          subst hq
          exact this
    · cases h
      exact ⟨hb, by omega⟩
theorem rparseR_print (l : List RlT) (h : mayR l = true) : rparseR (printR l) = (l, true) := by
  obtain ⟨h0, h8, hr⟩ := mayR_all h
  cases l with
  | nil => exact absurd rfl h0
  | cons p r =>
    rw [List.length_cons] at h8
    have := rlines_print r p 10 [] hr (by simp only [List.length_nil]; omega) (by omega)
    unfold rparseR
    rw [show printR (p :: r) = joinD 10 ((p :: r).map lineG) from rfl, this]
    exact if_pos ⟨h, rfl⟩
abbrev RqR := By × Unit × List RlT × Unit ⊕ Unit × Bool × List RlT × Unit
def rqF (s : By) : Option (List RlT) → RqR
  | some l => .inl (s, (), l, ())
  | none => .inr ((), false, [], ())
theorem rparseR_loop (s : By) : ∀ (n : Nat) (rest : By) (more : Bool) (out : List RlT), rest.length ≤ 900 → 10 ≤ n + out.length → out.length ≤ 1000 → TendsL M_conciergeref24_Parse_l0 (s, (), rest, more, out, ()) (rqF s (rlinesF n rest more out))
  | n, rest, more, out, hr, hn, ho => by
    have h1 : ∀ F : Nat, (if more = true then some (s, (), rest, decide ((out.length : Int) < 9), out, ()) else some (s, (), rest, false, out, ()) : Option (By × Unit × By × Bool × List RlT × Unit)) = some (s, (), rest, decide (more = true ∧ out.length < 9), out, ()) := by
      intro F
      cases more with
      | true =>
        rw [if_pos rfl]
        by_cases h9 : out.length < 9
        · rw [decide_eq_true (by omega), decide_eq_true ⟨rfl, h9⟩]
        · rw [decide_eq_false (by omega), decide_eq_false (fun hh => h9 hh.2)]
      | false => rfl
    by_cases hc : more = true ∧ out.length < 9
    case neg =>
      have e : rlinesF n rest more out = some out := by
        cases n with
        | zero => rfl
        | succ n => rw [rlinesF, if_neg hc]
      rw [e]
      refine TendsL.fin ?_
      unfold M_conciergeref24_Parse_l0
      exact Tends.bind (.of h1) (Tends.neg (by rw [decide_eq_true_eq]; exact hc) (.ret _))
    cases n with
    | zero => omega
    | succ n =>
      have l0 := cut_len rest [10]
      have l1 := cut_len (Lib.cut rest [10]).1 [32]
      have l2 := cut_len (Lib.cut (Lib.cut rest [10]).1 [32]).2.1 [58]
      have u0 := upto_t 10 10 rfl rest (by omega)
      have u1 := upto_t 32 32 rfl (Lib.cut rest [10]).1 (by omega)
      have u2 := upto_t 58 58 rfl (Lib.cut (Lib.cut rest [10]).1 [32]).2.1 (by omega)
      have u3 := rparse_t ((Lib.cut (Lib.cut (Lib.cut rest [10]).1 [32]).2.1 [58]).2.1.drop 1) (by rw [List.length_drop]; omega)
      have ih := fun rest' more' out' => rparseR_loop s n rest' more' out'
      rw [rlinesF, if_pos hc]
      unfold rlineP
      generalize Lib.cut rest [10] = A at *
      obtain ⟨line, rest', more'⟩ := A
      simp only at l0 l1 l2 u0 u1 u2 u3 ⊢
      generalize Lib.cut line [32] = B at *
      obtain ⟨m, line2, a⟩ := B
      simp only at l1 l2 u1 u2 u3 ⊢
      generalize Lib.cut line2 [58] = C at *
      obtain ⟨p, line3, b⟩ := C
      simp only at l2 u2 u3 ⊢
      generalize hD : rparseT (line3.drop 1) = D at *
      obtain ⟨pr, ok⟩ := D
      simp only
      have hbody : ∀ z, Tends (fun F => (if decide (a = false ∨ b = false ∨ line3 = []) = true then some (Sum.inr (Sum.inr ((), false, [], ()))) else (sub line3 1 (line3.length : Int)).bind fun v7 => (M_conciergeref23_Parse F v7).bind fun v8 => if (!v8.2) = true then some (Sum.inr (Sum.inr ((), false, [], ()))) else if decide ((out.length + [((m, p, v8.1, Unit.unit) : RlT)].length) * 56 ≤ 140737488355328) = true then some (Sum.inl (s, (), rest', more', out ++ [(m, p, v8.1, Unit.unit)], ())) else none : Option ((By × Unit × By × Bool × List RlT × Unit) ⊕ RqR))) z → Tends (fun F => M_conciergeref24_Parse_l0 F (s, (), rest, more, out, ())) z := by
        intro z hz
        unfold M_conciergeref24_Parse_l0
        refine Tends.bind (.of h1) (Tends.pos (decide_eq_true hc) (Tends.bind u0 (Tends.bind u1 (Tends.bind u2 ?_))))
        refine Tends.bind (r := ((s, (), rest', more', line3, m, p, decide (a = false ∨ b = false), out, ()) : By × Unit × By × Bool × By × By × By × Bool × List RlT × Unit)) (.of fun F => by cases a <;> cases b <;> simp) ?_
        refine Tends.bind (r := ((s, (), rest', more', line3, m, p, decide (a = false ∨ b = false ∨ line3 = []), out, ()) : By × Unit × By × Bool × By × By × By × Bool × List RlT × Unit)) (.of fun F => by cases a <;> cases b <;> simp) ?_
        exact hz
      by_cases hbad : a = false ∨ b = false ∨ line3 = []
      · rw [if_pos (by rcases hbad with h | h | h; exact .inl h; exact .inr (.inl h); exact .inr (.inr (.inl h)))]
        exact TendsL.fin (hbody _ (Tends.pos (decide_eq_true hbad) (.ret _)))
      · have hne : line3 ≠ [] := fun hh => hbad (.inr (.inr hh))
        have hpos := List.length_pos_iff.2 hne
        have hsb : sub line3 1 (line3.length : Int) = some (line3.drop 1) := sub_to_end line3 1 (by omega)
        cases ok with
        | false =>
          rw [if_pos (.inr (.inr (.inr rfl)))]
          refine TendsL.fin (hbody _ (Tends.neg (by rw [decide_eq_true_eq]; exact hbad) (Tends.bind (.of fun F => hsb) (Tends.bind u3 (Tends.pos rfl (.ret _))))))
        | true =>
          rw [if_neg (by rintro (h | h | h | h); exact hbad (.inl h); exact hbad (.inr (.inl h)); exact hbad (.inr (.inr h)); cases h)]
          refine TendsL.step (hbody _ (Tends.neg (by rw [decide_eq_true_eq]; exact hbad) (Tends.bind (.of fun F => hsb) (Tends.bind u3 (Tends.neg Bool.false_ne_true (Tends.pos (by rw [decide_eq_true_eq]; simp only [List.length_singleton]; omega) (.ret _))))))) ?_
          exact ih rest' more' (out ++ [(m, p, pr, ())]) (by omega) (by rw [List.length_append, List.length_singleton]; omega) (by rw [List.length_append, List.length_singleton]; omega)
theorem rparseR_t9 (s : By) (hs : s.length ≤ 900) : Tends (fun F => M_conciergeref24_Parse F s) (rparseR s) := by
  unfold M_conciergeref24_Parse rparseR
  have h := rparseR_loop s 10 s true [] hs (by simp) (Nat.zero_le _)
  refine Tends.bind h.run ?_
  cases hr : rlinesF 10 s true [] with
  | none => exact .ret _
  | some l =>
    obtain ⟨b1, b2⟩ := rlinesF_bnd 10 s true [] l hs (fun r hr => by cases hr) (by decide) hr
    have hm := rrmay_t l (by omega) b1
    show Tends _ (if mayR l = true ∧ printR l = s then (l, true) else ([], false))
    by_cases hmm : mayR l = true
    · have hp := rrprint_t l hmm
      rw [hmm] at hm
      by_cases he : printR l = s
      · rw [if_pos ⟨hmm, he⟩]
        refine Tends.bind (r := (((), false, l, ()) : Unit × Bool × List RlT × Unit)) (Tends.bind hm (Tends.pos rfl (Tends.bind hp (.of fun F => ?_)))) (Tends.neg Bool.false_ne_true (.ret _))
        show some ((), !decide (printR l = s), l, ()) = _
        rw [decide_eq_true he]
        rfl
      · rw [if_neg (fun hh => he hh.2)]
        refine Tends.bind (r := (((), true, l, ()) : Unit × Bool × List RlT × Unit)) (Tends.bind hm (Tends.pos rfl (Tends.bind hp (.of fun F => ?_)))) (Tends.pos rfl (.ret _))
        show some ((), !decide (printR l = s), l, ()) = _
        rw [decide_eq_false he]
        rfl
    · have hm' : mayR l = false := by simpa using hmm
      rw [hm'] at hm
      rw [if_neg (fun hh => hmm hh.1)]
      exact Tends.bind (r := (((), true, l, ()) : Unit × Bool × List RlT × Unit)) (Tends.bind hm (Tends.neg (by decide) (.ret _))) (Tends.pos rfl (.ret _))
end Go.Vm
