import Derived.Test.YtocgjbdimjlfhaaGreatDoorPg4
import Derived.Test.YtocgjbdimjlfhaaGreatDoorFroute
/- Programs: what the program prints and parses is the plain one. No condition but on lengths. -/
namespace Go.Vm
open Go.Proofs
open Go.Lib (decDigits itoa)
set_option linter.unusedVariables false
set_option linter.unusedSimpArgs false
theorem join_eq (F : Nat) (l : List By) (d : By) (h : l.length ≤ 1000000) (hj : (Lib.join l d).length ≤ 1000000000) : M_strings_Join F (l, d) = some (Lib.join l d) := by
  unfold M_strings_Join MJoin
  rw [if_pos (decide_eq_true (by simp only; omega)), if_pos (decide_eq_true (by simp only; omega))]
theorem join2 (a b d : By) : Lib.join [a, b] d = a ++ (d ++ b) := by rw [Lib.join_cons]; simp [Lib.joinTail]
theorem join3 (a b c d : By) : Lib.join [a, b, c] d = a ++ (d ++ (b ++ (d ++ c))) := by rw [Lib.join_cons]; simp [Lib.joinTail]
theorem last2 (a b : By) : IntKind.i64.wrap ((([a, b] : List By).length : Int) - 1) = 1 := by
  simp only [List.length_cons, List.length_nil]
  rw [wrap64 _ (by omega) (by omega)]
  rfl
theorem last3 (a b c : By) : IntKind.i64.wrap ((([a, b, c] : List By).length : Int) - 1) = 2 := by
  simp only [List.length_cons, List.length_nil]
  rw [wrap64 _ (by omega) (by omega)]
  rfl
theorem nm_len {s : By} (h : nmP s = true) : s.length ≤ 12 := by
  unfold nmP at h
  simp only [Bool.and_eq_true, decide_eq_true_eq] at h
  exact h.2
theorem textG_len {s : By} (h : textG s = true) : s.length ≤ 60 := by
  unfold textG checkT at h
  simp only [Bool.and_eq_true, decide_eq_true_eq] at h
  exact h.2.1
theorem small_itoa (n : Nat) (h : n ≤ 1073741824) : (itoa (n : Int)).length ≤ 10 := (itoa_len n 10 (by decide) (by omega)).1
theorem tailG_len (s : By) : (tailG s).length ≤ s.length + 1 := by
  unfold tailG
  split
  · exact Nat.zero_le _
  · rw [List.length_cons]; omega
theorem text_len_ok {p : PhT} (h : rightG p = true) : (phText p).length ≤ 100 := by
  rcases right_cases h with ⟨n, rfl, h1, h2⟩ | ⟨nm, n, rfl, h3, h1, h2⟩ | ⟨nm, t, rfl, h2, h3⟩ | ⟨n, t, rfl, h1, h3⟩
  · have := small_itoa n (by omega)
    show (wOnly ++ 32 :: itoa (n : Int)).length ≤ 100
    simp only [List.length_append, List.length_cons, List.length_nil]
    omega
  · have := small_itoa n h2
    have := nm_len h3
    show (wNeed ++ 32 :: (nm ++ 32 :: itoa (n : Int))).length ≤ 100
    simp only [List.length_append, List.length_cons, List.length_nil]
    omega
  · have := nm_len h2
    have := textG_len h3
    have := tailG_len t
    show (wCall ++ 32 :: (nm ++ tailG t)).length ≤ 100
    simp only [List.length_append, List.length_cons, List.length_nil]
    omega
  · have := small_itoa n (by omega)
    have := textG_len h3
    have := tailG_len t
    show (wEnd ++ 32 :: (itoa (n : Int) ++ tailG t)).length ≤ 100
    simp only [List.length_append, List.length_cons, List.length_nil]
    omega
theorem itoa_t (F n : Nat) (h : n ≤ 1073741824) : M_strconv_Itoa F (n : Int) = some (itoa (n : Int)) := by
  unfold M_strconv_Itoa MItoa
  rw [if_pos (decide_eq_true (by omega)), if_pos (decide_eq_true (by omega))]
theorem words_t (F : Nat) (p : PhT) (h : rightG p = true) : ∃ w last, M_prog_words F p = some w ∧ idx w (IntKind.i64.wrap ((w.length : Int) - 1)) = some last ∧
    ((last ≠ [] ∧ M_strings_Join F (w, [32]) = some (phText p)) ∨ (last = [] ∧ (decide (0 ≤ IntKind.i64.wrap ((w.length : Int) - 1)) && decide (IntKind.i64.wrap ((w.length : Int) - 1) ≤ (w.length : Int))) = true ∧ M_strings_Join F (w.take (IntKind.i64.wrap ((w.length : Int) - 1)).toNat, [32]) = some (phText p))) := by
  have hl := text_len_ok h
  have hj2 : ∀ (a b : By), a ++ ([32] ++ b) = phText p → M_strings_Join F ([a, b], [32]) = some (phText p) := by
    intro a b e
    rw [join_eq F [a, b] [32] (by simp) (by rw [join2, e]; omega), join2, e]
  have hj3 : ∀ (a b c : By), a ++ ([32] ++ (b ++ ([32] ++ c))) = phText p → M_strings_Join F ([a, b, c], [32]) = some (phText p) := by
    intro a b c e
    rw [join_eq F [a, b, c] [32] (by simp) (by rw [join3, e]; omega), join3, e]
  rcases right_cases h with ⟨n, rfl, h1, h2⟩ | ⟨nm, n, rfl, h3, h1, h2⟩ | ⟨nm, t, rfl, h2, h3⟩ | ⟨n, t, rfl, h1, h3⟩
  · refine ⟨[wOnly, itoa (n : Int)], itoa (n : Int), ?_, ?_, .inl ⟨itoa_ne n, hj2 _ _ rfl⟩⟩
    · unfold M_prog_words
      simp only [itoa_t F n (by omega), Option.bind_some]
      rfl
    · rw [last2]; rfl
  · refine ⟨[wNeed, nm, itoa (n : Int)], itoa (n : Int), ?_, ?_, .inl ⟨itoa_ne n, hj3 _ _ _ rfl⟩⟩
    · unfold M_prog_words
      simp only [itoa_t F n h2, Option.bind_some]
      rfl
    · rw [last3]; rfl
  · refine ⟨[wCall, nm, t], t, ?_, ?_, ?_⟩
    · unfold M_prog_words
      have := itoa_t F 0 (by omega)
      rw [Int.natCast_zero] at this
      simp only [this, Option.bind_some]
      rfl
    · rw [last3]; rfl
    · by_cases ht : t = []
      · refine .inr ⟨ht, ?_, ?_⟩
        · rw [last3]; rfl
        · rw [last3]
          subst ht
          refine hj2 wCall nm ?_
          show wCall ++ ([32] ++ nm) = wCall ++ 32 :: (nm ++ [])
          rw [List.append_nil]
          rfl
      · refine .inl ⟨ht, hj3 _ _ _ ?_⟩
        show wCall ++ ([32] ++ (nm ++ ([32] ++ t))) = wCall ++ 32 :: (nm ++ tailG t)
        unfold tailG
        rw [if_neg ht]
        rfl
  · refine ⟨[wEnd, itoa (n : Int), t], t, ?_, ?_, ?_⟩
    · unfold M_prog_words
      simp only [itoa_t F n (by omega), Option.bind_some]
      rfl
    · rw [last3]; rfl
    · by_cases ht : t = []
      · refine .inr ⟨ht, ?_, ?_⟩
        · rw [last3]; rfl
        · rw [last3]
          subst ht
          refine hj2 wEnd (itoa (n : Int)) ?_
          show wEnd ++ ([32] ++ itoa (n : Int)) = wEnd ++ 32 :: (itoa (n : Int) ++ [])
          rw [List.append_nil]
          rfl
      · refine .inl ⟨ht, hj3 _ _ _ ?_⟩
        show wEnd ++ ([32] ++ (itoa (n : Int) ++ ([32] ++ t))) = wEnd ++ 32 :: (itoa (n : Int) ++ tailG t)
        unfold tailG
        rw [if_neg ht]
        rfl
theorem pprint_loop (l : List PhT) (hl : l.length ≤ 1000) (hr : ∀ p ∈ l, rightG p = true) : ∀ (n i : Nat) (out : List By), i + n = l.length → out.length ≤ i → TendsL M_prog_Print_l0 ((), l, (l.length : Int), (i : Int), out, ()) ((), out ++ (l.drop i).map phText, ())
  | 0, i, out, h, ho => by
    refine TendsL.fin (.of fun F => ?_)
    unfold M_prog_Print_l0
    rw [if_neg (by rw [decide_eq_true_eq]; simp only; omega), List.drop_eq_nil_of_le (by omega)]
    show some (Sum.inr ((), out, ())) = some (Sum.inr ((), out ++ [], ()))
    rw [List.append_nil]
  | n + 1, i, out, h, ho => by
    have hi : i < l.length := by omega
    have hx : idx l (i : Int) = some l[i] := idx_at _ _ _ (List.getElem?_eq_getElem hi)
    have hw : IntKind.i64.wrap ((i : Int) + 1) = ((i + 1 : Nat) : Int) := by rw [wrap64 _ (by omega) (by omega)]; omega
    have hr1 := hr l[i] (List.getElem_mem hi)
    rw [List.drop_eq_getElem_cons hi, List.map_cons]
    generalize l[i] = p at *
    have ih := pprint_loop l hl hr n (i + 1) (out ++ [phText p]) (by omega) (by rw [List.length_append, List.length_singleton]; omega)
    rw [List.append_assoc] at ih
    refine TendsL.step (.of fun F => ?_) ih
    obtain ⟨w, last, q1, q2, q3⟩ := words_t F p hr1
    have q1' : M_prog_words F (p.1, p.2.1, p.2.2.1, p.2.2.2.1, ()) = some w := q1
    unfold M_prog_Print_l0
    rw [if_pos (by rw [decide_eq_true_eq]; simp only; omega)]
    simp only [hx, Option.bind_some, q1', q2]
    rcases q3 with ⟨c1, c2⟩ | ⟨c1, c2, c3⟩
    · rw [if_neg (by rw [decide_eq_true_eq]; exact c1), Option.bind_some]
      simp only [c2, Option.bind_some]
      rw [if_pos (by rw [decide_eq_true_eq]; simp only [List.length_singleton]; omega), hw]
    · rw [if_pos (decide_eq_true c1), if_pos c2, Option.bind_some]
      simp only [c3, Option.bind_some]
      rw [if_pos (by rw [decide_eq_true_eq]; simp only [List.length_singleton]; omega), hw]
theorem tail_len : ∀ r : List PhT, (∀ p ∈ r, rightG p = true) → (Lib.joinTail [59, 32] (r.map phText)).length ≤ 102 * r.length
  | [], h => Nat.zero_le _
  | p :: r, h => by
    have h1 := text_len_ok (h p (List.mem_cons_self ..))
    have h2 := tail_len r fun q hq => h q (List.mem_cons_of_mem _ hq)
    show ([59, 32] ++ phText p ++ Lib.joinTail [59, 32] (r.map phText)).length ≤ _
    simp only [List.length_append, List.length_cons, List.length_nil]
    omega
theorem printG_len {l : List PhT} (h : mayG l = true) : (printG l).length ≤ 600 := by
  obtain ⟨h1, h2, h3⟩ := may_right h
  cases l with
  | nil => simp at h2
  | cons p r =>
    have q1 := text_len_ok (h1 p (List.mem_cons_self ..))
    have q2 := tail_len r fun q hq => h1 q (List.mem_cons_of_mem _ hq)
    rw [printG_cons, List.length_append]
    simp only [List.length_cons] at h3
    omega
theorem pprint_t (l : List PhT) (hl : l.length ≤ 1000000) (hb : ∀ p ∈ l, bndP p) : Tends (fun F => M_prog_Print F l) (if mayG l = true then (printG l, 0) else ([], 1)) := by
  unfold M_prog_Print
  refine Tends.bind (pmay_t l hl hb) ?_
  by_cases hm : mayG l = true
  · rw [if_pos hm, hm]
    obtain ⟨h1, h2, h3⟩ := may_right hm
    have h := pprint_loop l (by omega) h1 l.length 0 [] (by omega) (Nat.zero_le _)
    rw [List.drop_zero, List.nil_append] at h
    refine Tends.neg (by decide) (Tends.bind h.run ?_)
    have hj := fun F => join_eq F (l.map phText) [59, 32] (by rw [List.length_map]; omega) (by have := printG_len hm; unfold printG at this; omega)
    exact Tends.bind (.of hj) (.ret _)
  · have hm' : mayG l = false := by simpa using hm
    rw [if_neg hm, hm']
    exact Tends.pos rfl (.ret _)
/-! ### parsing -/
theorem rest_hit (t : By) (r : List By) : restG ((32 :: t) :: r) = (restG r).map (readG t :: ·) := rfl
theorem rest_miss (x : By) (r : List By) (h : ∀ t, x ≠ 32 :: t) : restG (x :: r) = none := by
  unfold restG
  split
  · exact absurd rfl (h _)
  · rfl
abbrev PaR := Unit × List PhT × Unit ⊕ Unit × Int × List PhT × Unit
def paR (out : List PhT) : Option (List PhT) → PaR
  | some l => .inl ((), out ++ l, ())
  | none => .inr ((), 3, [], ())
theorem pparse_loop (xs : List By) (hn : xs.length ≤ 1000000) (hx : ∀ x ∈ xs, x.length ≤ 100000) : ∀ (n i : Nat) (out : List PhT), i + n = xs.length → out.length = i → 1 ≤ i → TendsL M_prog_Parse_l0 ((), xs, (xs.length : Int), (i : Int), out, ()) (paR out (restG (xs.drop i)))
  | 0, i, out, h, ho, h1 => by
    refine TendsL.fin (.of fun F => ?_)
    unfold M_prog_Parse_l0
    rw [if_neg (by rw [decide_eq_true_eq]; simp only; omega), List.drop_eq_nil_of_le (by omega)]
    show some (Sum.inr (Sum.inl ((), out, ()))) = some (Sum.inr (Sum.inl ((), out ++ [], ())))
    rw [List.append_nil]
  | n + 1, i, out, h, ho, h1 => by
    have hi : i < xs.length := by omega
    have hx0 : idx xs (i : Int) = some xs[i] := idx_at _ _ _ (List.getElem?_eq_getElem hi)
    have hw : IntKind.i64.wrap ((i : Int) + 1) = ((i + 1 : Nat) : Int) := by rw [wrap64 _ (by omega) (by omega)]; omega
    have hxl := hx xs[i] (List.getElem_mem hi)
    have hsb : sub ([59, 32] : By) 1 2 = some [32] := rfl
    rw [List.drop_eq_getElem_cons hi]
    generalize xs[i] = x at *
    by_cases hc : ∃ t, x = 32 :: t
    · obtain ⟨t, rfl⟩ := hc
      rw [List.length_cons] at hxl
      have ih := pparse_loop xs hn hx n (i + 1) (out ++ [readG t]) (by omega) (by rw [List.length_append, List.length_singleton]; omega) (by omega)
      have e : paR out (restG ((32 :: t) :: xs.drop (i + 1))) = paR (out ++ [readG t]) (restG (xs.drop (i + 1))) := by
        rw [rest_hit]
        cases restG (xs.drop (i + 1)) with
        | none => rfl
        | some l => show Sum.inl ((), out ++ (readG t :: l), ()) = Sum.inl ((), (out ++ [readG t]) ++ l, ()); rw [List.append_assoc]; rfl
      rw [e]
      refine TendsL.step (.of fun F => ?_) ih
      unfold M_prog_Parse_l0
      rw [if_pos (by rw [decide_eq_true_eq]; simp only; omega)]
      simp only [hx0, Option.bind_some]
      rw [if_pos (by rw [decide_eq_true_eq]; omega)]
      simp only [hsb, Option.bind_some, pre_hit F t (by omega), Bool.not_true, Bool.false_eq_true, if_false, sumC_inl, read_eq F t (by omega)]
      rw [if_pos (by rw [decide_eq_true_eq]; simp only [List.length_singleton]; omega), hw]
    · have hm : ∀ t, x ≠ 32 :: t := fun t ht => hc ⟨t, ht⟩
      rw [rest_miss x _ hm]
      refine TendsL.fin (.of fun F => ?_)
      unfold M_prog_Parse_l0
      rw [if_pos (by rw [decide_eq_true_eq]; simp only; omega)]
      simp only [hx0, Option.bind_some]
      rw [if_pos (by rw [decide_eq_true_eq]; omega)]
      simp only [hsb, Option.bind_some, pre_miss F x hm, Bool.not_false, if_true, sumC_inr]
      rfl
theorem pread_bnd (x : By) (h : x.length ≤ 1000) : bndP (readG x) := by
  have h1 := cut_len x [32]
  have h2 := cut_len (Lib.cut x [32]).2.1 [32]
  unfold readG
  split
  · exact ⟨Nat.zero_le _, Nat.zero_le _⟩
  split
  · exact ⟨Nat.zero_le _, Nat.zero_le _⟩
  split
  · exact ⟨Nat.zero_le _, Nat.zero_le _⟩
  split
  · exact ⟨by simp only; omega, Nat.zero_le _⟩
  split
  · exact ⟨by simp only; omega, by simp only; omega⟩
  split
  · exact ⟨Nat.zero_le _, by simp only; omega⟩
  · exact ⟨Nat.zero_le _, Nat.zero_le _⟩
theorem rest_bnd : ∀ (xs : List By) (l : List PhT), (∀ x ∈ xs, x.length ≤ 1000) → restG xs = some l → l.length = xs.length ∧ ∀ p ∈ l, bndP p
  | [], l, hx, h => by cases h; exact ⟨rfl, fun p hp => by cases hp⟩
  | x :: xs, l, hx, h => by
    by_cases hc : ∃ t, x = 32 :: t
    · obtain ⟨t, rfl⟩ := hc
      rw [rest_hit] at h
      obtain ⟨l', h1, rfl⟩ := Option.map_eq_some_iff.1 h
      obtain ⟨i1, i2⟩ := rest_bnd xs l' (fun y hy => hx y (List.mem_cons_of_mem _ hy)) h1
      have h2 := hx (32 :: t) (List.mem_cons_self ..)
      rw [List.length_cons] at h2
      refine ⟨by rw [List.length_cons, List.length_cons, i1], fun p hp => ?_⟩
      rcases List.mem_cons.1 hp with rfl | hp
      · exact pread_bnd t (by omega)
      · exact i2 p hp
    · rw [rest_miss x xs fun t ht => hc ⟨t, ht⟩] at h
      cases h
theorem pparse_t (s : By) (hs : s.length ≤ 1000) : Tends (fun F => M_prog_Parse F s) (parseT s) := by
  obtain ⟨c1, c2⟩ := splC_len 59 s
  have hsp : ∀ F, M_strings_Split F (s, [59]) = some (splC 59 s) := by
    intro F
    unfold M_strings_Split MSplit
    rw [if_pos (decide_eq_true (by simp only; omega)), if_pos (by rfl), split_splC]
  unfold M_prog_Parse parseT parsG
  refine Tends.bind (.of hsp) ?_
  cases hx : splC 59 s with
  | nil => exact absurd hx (splC_ne 59 s)
  | cons x xs =>
    rw [hx] at c1 c2
    rw [List.length_cons] at c1
    have hxl := c2 x (List.mem_cons_self ..)
    have hw : IntKind.i64.wrap ((0 : Int) + 1) = ((1 : Nat) : Int) := by rw [wrap64 _ (by omega) (by omega)]; rfl
    have h := pparse_loop (x :: xs) (by rw [List.length_cons]; omega) (fun y hy => by have := c2 y hy; omega) xs.length 1 [readG x] (by rw [List.length_cons]; omega) rfl (Nat.le_refl _)
    have hl : TendsL M_prog_Parse_l0 ((), x :: xs, ((x :: xs).length : Int), 0, [], ()) (paR [readG x] (restG xs)) := by
      refine TendsL.step (.of fun F => ?_) h
      unfold M_prog_Parse_l0
      rw [if_pos (by rw [decide_eq_true_eq]; simp only [List.length_cons]; omega)]
      have hx0 : idx (x :: xs) 0 = some x := idx_at _ 0 _ rfl
      simp only [hx0, Option.bind_some]
      rw [if_neg (by rw [decide_eq_true_eq]; simp only [List.length_nil]; omega)]
      simp only [Option.bind_some, sumC_inl, read_eq F x (by omega)]
      rw [if_pos (by rw [decide_eq_true_eq]; simp only [List.length_nil, List.length_singleton]; omega), hw]
      rfl
    refine Tends.bind hl.run ?_
    simp only
    cases hr : restG xs with
    | none => exact .ret _
    | some l =>
      obtain ⟨b1, b2⟩ := rest_bnd xs l (fun y hy => by have := c2 y (List.mem_cons_of_mem _ hy); omega) hr
      have hm := pmay_t (readG x :: l) (by rw [List.length_cons]; omega) fun p hp => by
        rcases List.mem_cons.1 hp with rfl | hp
        · exact pread_bnd x (by omega)
        · exact b2 p hp
      show Tends _ (if mayG (readG x :: l) = true then (readG x :: l, 0) else ([], 3))
      refine Tends.bind hm ?_
      by_cases hmm : mayG (readG x :: l) = true
      · rw [if_pos hmm, hmm]
        exact Tends.neg (by decide) (.ret _)
      · have hmm' : mayG (readG x :: l) = false := by simpa using hmm
        rw [if_neg hmm, hmm']
        exact Tends.pos rfl (.ret _)
end Go.Vm
/- Tables: the program's functions are the plain ones. No condition but on lengths. -/
namespace Go.Vm
open Go.Proofs
set_option linter.unusedVariables false
set_option linter.unusedSimpArgs false
/-! ### parts, forms, patterns -/
theorem pre47_hit (F : Nat) (t : By) (h : t.length ≤ 1000000) : M_strings_CutPrefix F (47 :: t, [47]) = some (t, true) := by
  unfold M_strings_CutPrefix M_internal_stringslite_CutPrefix M_internal_stringslite_HasPrefix
  have s0 : sub (47 :: t : By) 0 (([47] : By).length : Int) = some [47] := by
    have := sub_nat (47 :: t : By) 0 1 (by omega) (by simp)
    exact this
  have s1 : sub (47 :: t : By) (([47] : By).length : Int) ((47 :: t : By).length : Int) = some t := sub_to_end (47 :: t : By) 1 (by simp)
  rw [if_pos (by rw [decide_eq_true_eq]; simp only [List.length_cons, List.length_nil]; omega)]
  simp only [s0, Option.bind_some, decide_true, Bool.not_true, Bool.false_eq_true, if_false, s1]
theorem pre47_miss (F : Nat) (x : By) (h : ∀ t, x ≠ 47 :: t) : M_strings_CutPrefix F (x, [47]) = some (x, false) := by
  unfold M_strings_CutPrefix M_internal_stringslite_CutPrefix M_internal_stringslite_HasPrefix
  cases x with
  | nil => rfl
  | cons c t =>
    have s0 : sub (c :: t : By) 0 (([47] : By).length : Int) = some [c] := by
      have := sub_nat (c :: t : By) 0 1 (by omega) (by simp)
      exact this
    have hc : ¬ ([c] : By) = [47] := by
      intro hh
      injection hh with hh _
      exact h t (by rw [hh])
    rw [if_pos (by rw [decide_eq_true_eq]; simp only [List.length_cons, List.length_nil]; omega)]
    simp only [s0, Option.bind_some, decide_eq_false hc, Bool.not_false, if_true]
theorem parts_t (F : Nat) (x : By) (h : x.length ≤ 1000) : M_route_parts F x = some (partsG x) := by
  unfold M_route_parts
  by_cases hc : ∃ t, x = 47 :: t
  · obtain ⟨t, rfl⟩ := hc
    rw [List.length_cons] at h
    have e : partsG (47 :: t) = if t = [] then [] else splC 47 t := by unfold partsG; simp
    have hsp : M_strings_Split F (t, [47]) = some (splC 47 t) := by
      unfold M_strings_Split MSplit
      rw [if_pos (decide_eq_true (by simp only; omega)), if_pos (by rfl), split_splC]
    rw [pre47_hit F t (by omega), e]
    simp only [Option.bind_some, Bool.not_true, if_true]
    by_cases ht : t = []
    · rw [if_pos (decide_eq_true ht), if_pos ht]
    · rw [if_neg (by rw [decide_eq_true_eq]; exact ht), if_neg ht, hsp]
      rfl
  · have e : partsG x = [] := by
      cases x with
      | nil => rfl
      | cons c t =>
        unfold partsG
        simp only
        rw [if_neg]
        rintro rfl
        exact hc ⟨t, rfl⟩
    rw [pre47_miss F x fun t ht => hc ⟨t, ht⟩, e]
    rfl
theorem form_t (x : By) : Tends (fun F => M_route_form F x) (formG x) := by
  unfold M_route_form formG
  refine Tends.bind (path_tends x) (.of fun F => ?_)
  cases (pathF x).2 <;> simp
theorem pat_loop (l : List By) (hl : l.length ≤ 1000000) (hx : ∀ x ∈ l, x.length ≤ 1000000) : ∀ (n i : Nat), i + n = l.length → TendsL M_route_Pattern_l0 (l, l, (l.length : Int), (i : Int), ()) (if patL (l.drop i) = true then .inl () else .inr (false, ()))
  | 0, i, h => by
    refine TendsL.fin (.of fun F => ?_)
    unfold M_route_Pattern_l0
    rw [if_neg (by rw [decide_eq_true_eq]; simp only; omega), List.drop_eq_nil_of_le (by omega)]
    rfl
  | n + 1, i, h => by
    have hi : i < l.length := by omega
    have hx0 : idx l (i : Int) = some l[i] := idx_at _ _ _ (List.getElem?_eq_getElem hi)
    have hw : IntKind.i64.wrap ((i : Int) + 1) = ((i + 1 : Nat) : Int) := by rw [wrap64 _ (by omega) (by omega)]; omega
    have hw1 : IntKind.i64.wrap ((l.length : Int) - 1) = ((l.length - 1 : Nat) : Int) := by rw [wrap64 _ (by omega) (by omega)]; omega
    have ih := pat_loop l hl hx n (i + 1) (by omega)
    have hxl := hx l[i] (List.getElem_mem hi)
    have hd : (l.drop (i + 1) = []) ↔ i = l.length - 1 := by rw [List.drop_eq_nil_iff]; omega
    rw [List.drop_eq_getElem_cons hi]
    generalize l[i] = x at *
    have hk : decide ((i : Int) = ((l.length - 1 : Nat) : Int)) = decide (l.drop (i + 1) = []) := by
      rw [Bool.eq_iff_iff, decide_eq_true_eq, decide_eq_true_eq, hd]; omega
    have e : patL (x :: l.drop (i + 1)) = ((decide (x = [42]) || (decide (x = [42, 42]) && decide (l.drop (i + 1) = [])) || (decide (x ≠ []) && formG (47 :: x))) && patL (l.drop (i + 1))) := rfl
    rw [e]
    generalize hB : (decide (x = [42]) || (decide (x = [42, 42]) && decide (l.drop (i + 1) = [])) || (decide (x ≠ []) && formG (47 :: x))) = B
    have hbody : Tends (fun F => M_route_Pattern_l0 F (l, l, (l.length : Int), (i : Int), ())) (if B = true then .inl (l, l, (l.length : Int), ((i + 1 : Nat) : Int), ()) else .inr (.inr (false, ()))) := by
      unfold M_route_Pattern_l0
      refine Tends.pos (by rw [decide_eq_true_eq]; simp only; omega) ?_
      refine Tends.bind (r := (if B = true then .inl (l, l, (l.length : Int), (i : Int), ()) else .inr (false, ()) : (List By × List By × Int × Int × Unit) ⊕ (Bool × Unit))) (Tends.bind (.of fun F => hx0) ?_) ?_
      · by_cases c1 : x = [42]
        · have : B = true := by rw [← hB, decide_eq_true c1]; rfl
          rw [if_pos this]
          exact Tends.pos (decide_eq_true c1) (.ret _)
        refine Tends.neg (by rw [decide_eq_true_eq]; exact c1) ?_
        refine Tends.bind (r := ((l, x, l, (l.length : Int), (i : Int), decide (x = [42, 42]) && decide (l.drop (i + 1) = []), ()) : List By × By × List By × Int × Int × Bool × Unit)) (.of fun F => ?_) ?_
        · by_cases c2 : x = [42, 42]
          · rw [if_pos (decide_eq_true c2), hw1, hk, decide_eq_true c2, Bool.true_and]
          · rw [if_neg (by rw [decide_eq_true_eq]; exact c2), decide_eq_false c2, Bool.false_and]
        rw [decide_eq_false c1, Bool.false_or] at hB
        cases hc2 : (decide (x = [42, 42]) && decide (l.drop (i + 1) = [])) with
        | true =>
          have : B = true := by rw [← hB, hc2]; rfl
          rw [if_pos this]
          exact Tends.pos rfl (.ret _)
        | false =>
          rw [hc2, Bool.false_or] at hB
          refine Tends.neg Bool.false_ne_true ?_
          refine Tends.bind (r := ((l, l, (l.length : Int), (i : Int), !B, ()) : List By × List By × Int × Int × Bool × Unit)) ?_ ?_
          · by_cases c3 : x = []
            · have : B = false := by rw [← hB, decide_eq_false (fun hh => hh c3)]; rfl
              rw [this]
              exact Tends.neg (by rw [decide_eq_true c3]; exact Bool.noConfusion) (.ret _)
            · have hBf : B = formG (47 :: x) := by rw [← hB, decide_eq_true c3, Bool.true_and]
              rw [hBf]
              refine Tends.pos (decide_eq_false c3) (Tends.pos (by rw [decide_eq_true_eq]; simp only [List.length_singleton]; omega) ?_)
              exact Tends.bind (form_t (47 :: x)) (.ret _)
          · cases B with
            | true => exact Tends.neg Bool.false_ne_true (.ret _)
            | false => exact Tends.pos rfl (.ret _)
      · cases B with
        | true => exact .of fun F => by simp only [if_true, sumC_inl, hw]
        | false => exact .of fun F => rfl
    cases B with
    | true =>
      rw [if_pos rfl] at hbody
      rw [Bool.true_and]
      exact TendsL.step hbody ih
    | false =>
      rw [if_neg Bool.false_ne_true] at hbody
      rw [Bool.false_and, if_neg Bool.false_ne_true]
      exact TendsL.fin hbody
theorem parts_len (x : By) (h : x.length ≤ 1000) : (partsG x).length ≤ 1001 ∧ ∀ p ∈ partsG x, p.length ≤ 1000 := by
  cases x with
  | nil => exact ⟨Nat.zero_le _, fun p hp => by cases hp⟩
  | cons c t =>
    unfold partsG
    simp only
    rw [List.length_cons] at h
    split
    · split
      · exact ⟨Nat.zero_le _, fun p hp => by cases hp⟩
      · obtain ⟨h1, h2⟩ := splC_len 47 t
        exact ⟨by omega, fun p hp => by have := h2 p hp; omega⟩
    · exact ⟨Nat.zero_le _, fun p hp => by cases hp⟩
theorem pattern_t (x : By) (h : x.length ≤ 1000) : Tends (fun F => M_route_Pattern F x) (patG x) := by
  unfold M_route_Pattern patG
  cases x with
  | nil =>
    exact Tends.bind (r := (([], true, ()) : By × Bool × Unit)) (.of fun F => rfl) (Tends.bind (r := (([], true, ()) : By × Bool × Unit)) (.of fun F => rfl) (Tends.pos rfl (.ret _)))
  | cons c t =>
    have hne : decide ((c :: t : By) ≠ []) = true := decide_eq_true (by simp)
    rw [hne, Bool.true_and]
    refine Tends.bind (r := ((c :: t, !decide ((c :: t).length ≤ 60), ()) : By × Bool × Unit)) (.of fun F => ?_) ?_
    · rw [if_pos (decide_eq_false (by simp))]
      by_cases h6 : (c :: t).length ≤ 60
      · rw [decide_eq_true h6, decide_eq_false (by omega)]; rfl
      · rw [decide_eq_false h6, decide_eq_true (by omega)]; rfl
    have hi : idx (c :: t : By) 0 = some c := idx_at _ 0 _ rfl
    have n47 : ((c.toNat : Int) = 47) = (c = 47) := nvB c 47
    have hh : decide ((c :: t : By).head? = some 47) = decide (c = 47) := by rw [Bool.eq_iff_iff]; simp
    rw [hh]
    refine Tends.bind (r := ((c :: t, !(decide ((c :: t).length ≤ 60) && decide (c = 47)), ()) : By × Bool × Unit)) (.of fun F => ?_) ?_
    · cases h6 : decide ((c :: t).length ≤ 60) with
      | true =>
        rw [if_pos (show (!true) = false from rfl)]
        simp only [hi, Option.bind_some, n47, Bool.true_and]
      | false => rfl
    cases h7 : (decide ((c :: t).length ≤ 60) && decide (c = 47)) with
    | false =>
      rw [Bool.false_and]
      exact Tends.pos rfl (.ret _)
    | true =>
      rw [Bool.true_and]
      refine Tends.neg Bool.false_ne_true ?_
      refine Tends.bind (.of fun F => parts_t F (c :: t) h) ?_
      obtain ⟨h1, h2⟩ := parts_len (c :: t) h
      have hl := pat_loop (partsG (c :: t)) (by omega) (fun p hp => by have := h2 p hp; omega) (partsG (c :: t)).length 0 (by omega)
      rw [List.drop_zero] at hl
      refine Tends.bind hl.run ?_
      cases patL (partsG (c :: t)) <;> exact .ret _
/-! ### what fits -/
def fitsR : List By → List By → List By × Unit ⊕ Bool × Unit
  | [], b => .inl (b, ())
  | _ :: _, [] => .inr (false, ())
  | x :: l, y :: b => if x = [42, 42] then .inr (true, ()) else if x = [42] ∨ x = y then fitsR l b else .inr (false, ())
theorem fitsR_val : ∀ (l b : List By), sumC (fitsR l b) (fun v => decide ((v.1.length : Int) = 0)) (fun v => v.1) = fitsL l b
  | [], b => by
    show decide ((b.length : Int) = 0) = decide (b = [])
    rw [Bool.eq_iff_iff, decide_eq_true_eq, decide_eq_true_eq]
    cases b <;> simp
    omega
  | _ :: _, [] => rfl
  | x :: l, y :: b => by
    unfold fitsR fitsL
    by_cases c1 : x = [42, 42]
    · rw [if_pos c1, if_pos c1]; rfl
    rw [if_neg c1, if_neg c1]
    by_cases c2 : x = [42] ∨ x = y
    · rw [if_pos c2, if_pos c2]; exact fitsR_val l b
    · rw [if_neg c2, if_neg c2]; rfl
theorem fits_loop (l : List By) (hl : l.length ≤ 1000000) : ∀ (n i : Nat) (b : List By), i + n = l.length → b.length ≤ 1000000 → TendsL M_route_Fits_l0 (b, l, (l.length : Int), (i : Int), ()) (fitsR (l.drop i) b)
  | 0, i, b, h, hb => by
    refine TendsL.fin (.of fun F => ?_)
    unfold M_route_Fits_l0
    rw [if_neg (by rw [decide_eq_true_eq]; simp only; omega), List.drop_eq_nil_of_le (by omega)]
    rfl
  | n + 1, i, b, h, hb => by
    have hi : i < l.length := by omega
    have hx0 : idx l (i : Int) = some l[i] := idx_at _ _ _ (List.getElem?_eq_getElem hi)
    have hw : IntKind.i64.wrap ((i : Int) + 1) = ((i + 1 : Nat) : Int) := by rw [wrap64 _ (by omega) (by omega)]; omega
    rw [List.drop_eq_getElem_cons hi]
    generalize l[i] = x at *
    cases b with
    | nil =>
      refine TendsL.fin (.of fun F => ?_)
      unfold M_route_Fits_l0
      rw [if_pos (by rw [decide_eq_true_eq]; simp only; omega)]
      simp only [hx0, Option.bind_some]
      rfl
    | cons y b =>
      rw [List.length_cons] at hb
      have hy : idx (y :: b) 0 = some y := idx_at _ 0 _ rfl
      have hs : sub (y :: b) 1 ((y :: b).length : Int) = some b := sub_to_end (y :: b) 1 (by simp)
      have hnz : ¬ decide ((((y :: b) : List By).length : Int) = 0) = true := by rw [decide_eq_true_eq]; simp only [List.length_cons]; omega
      unfold fitsR
      by_cases c1 : x = [42, 42]
      · rw [if_pos c1]
        refine TendsL.fin (.of fun F => ?_)
        unfold M_route_Fits_l0
        rw [if_pos (by rw [decide_eq_true_eq]; simp only; omega)]
        simp only [hx0, Option.bind_some]
        rw [if_neg hnz, if_pos (decide_eq_true c1)]
      rw [if_neg c1]
      have hc : ∀ F : Nat, (if decide (x = [42]) = true then some (y :: b, l, (l.length : Int), (i : Int), decide (x = [42]), ()) else (idx (y :: b) 0).bind fun v7 => some (y :: b, l, (l.length : Int), (i : Int), decide (x = v7), ()) : Option (List By × List By × Int × Int × Bool × Unit)) = some (y :: b, l, (l.length : Int), (i : Int), decide (x = [42] ∨ x = y), ()) := by
        intro F
        by_cases c2 : x = [42]
        · rw [if_pos (decide_eq_true c2), decide_eq_true c2, decide_eq_true (.inl c2)]
        · rw [if_neg (by rw [decide_eq_true_eq]; exact c2), hy, Option.bind_some]
          by_cases c3 : x = y
          · rw [decide_eq_true c3, decide_eq_true (.inr c3)]
          · rw [decide_eq_false c3, decide_eq_false (by rintro (hh | hh); exact c2 hh; exact c3 hh)]
      by_cases c2 : x = [42] ∨ x = y
      · rw [if_pos c2]
        refine TendsL.step ?_ (fits_loop l hl n (i + 1) b (by omega) (by omega))
        unfold M_route_Fits_l0
        refine Tends.pos (by rw [decide_eq_true_eq]; simp only; omega) (Tends.bind (.of fun F => hx0) (Tends.neg hnz (Tends.neg (by rw [decide_eq_true_eq]; exact c1) (Tends.bind (.of hc) (Tends.pos (decide_eq_true c2) (Tends.bind (.of fun F => hs) (.of fun F => ?_)))))))
        simp only [hw]
      · rw [if_neg c2]
        refine TendsL.fin ?_
        unfold M_route_Fits_l0
        exact Tends.pos (by rw [decide_eq_true_eq]; simp only; omega) (Tends.bind (.of fun F => hx0) (Tends.neg hnz (Tends.neg (by rw [decide_eq_true_eq]; exact c1) (Tends.bind (.of hc) (Tends.neg (by rw [decide_eq_true_eq]; exact c2) (.ret _))))))
theorem fits_t (p s : By) (hp : p.length ≤ 1000) (hs : s.length ≤ 1000) : Tends (fun F => M_route_Fits F (p, s)) (fitsG p s) := by
  unfold M_route_Fits fitsG
  refine Tends.bind (r := ((p, s, !(patG p && formG s), ()) : By × By × Bool × Unit)) (Tends.bind (pattern_t p hp) ?_) ?_
  · cases patG p with
    | true => exact Tends.pos rfl (Tends.bind (form_t s) (.ret _))
    | false => exact Tends.neg (by decide) (.ret _)
  cases hb : (patG p && formG s) with
  | false =>
    rw [Bool.false_and]
    exact Tends.pos rfl (.ret _)
  | true =>
    rw [Bool.true_and]
    refine Tends.neg Bool.false_ne_true ?_
    refine Tends.bind (.of fun F => parts_t F p hp) (Tends.bind (.of fun F => parts_t F s hs) ?_)
    obtain ⟨h1, _⟩ := parts_len p hp
    obtain ⟨h2, _⟩ := parts_len s hs
    have hl := fits_loop (partsG p) (by omega) (partsG p).length 0 (partsG s) (by omega) (by omega)
    rw [List.drop_zero] at hl
    refine Tends.bind hl.run ?_
    rw [← fitsR_val]
    refine .of fun F => ?_
    cases fitsR (partsG p) (partsG s) <;> rfl
theorem method_t (s : By) : Tends (fun F => M_route_method F s) (methG s) := by
  unfold M_route_method methG
  refine Tends.bind (meth_tends s) (.of fun F => ?_)
  by_cases c1 : s = [42]
  · rw [if_neg (by rw [decide_eq_true c1]; exact Bool.noConfusion), decide_eq_true c1]
    rfl
  · rw [if_pos (decide_eq_false c1), decide_eq_false c1, Bool.false_or]
    cases (methF s).2 <;> simp
end Go.Vm
/- Tables: what the program prints, parses and finds is the plain one. No condition but on lengths. -/
namespace Go.Vm
open Go.Proofs
set_option linter.unusedVariables false
set_option linter.unusedSimpArgs false
def bndR (r : RlT) : Prop := r.1.length ≤ 1000 ∧ r.2.1.length ≤ 1000 ∧ r.2.2.1.length ≤ 100000 ∧ ∀ p ∈ r.2.2.1, bndP p
theorem rmayR_loop (l : List RlT) (hl : l.length ≤ 1000000) (hb : ∀ r ∈ l, bndR r) : ∀ (n i : Nat), i + n = l.length → TendsL M_route_May_l0 (l, l, (l.length : Int), (i : Int), ()) (if (l.drop i).all ruleG = true then .inl (l, ()) else .inr (false, ()))
  | 0, i, h => by
    refine TendsL.fin (.of fun F => ?_)
    unfold M_route_May_l0
    rw [if_neg (by rw [decide_eq_true_eq]; simp only; omega), List.drop_eq_nil_of_le (by omega)]
    rfl
  | n + 1, i, h => by
    have hi : i < l.length := by omega
    have hx : idx l (i : Int) = some l[i] := idx_at _ _ _ (List.getElem?_eq_getElem hi)
    have hw : IntKind.i64.wrap ((i : Int) + 1) = ((i + 1 : Nat) : Int) := by rw [wrap64 _ (by omega) (by omega)]; omega
    have ih := rmayR_loop l hl hb n (i + 1) (by omega)
    obtain ⟨b1, b2, b3, b4⟩ := hb l[i] (List.getElem_mem hi)
    rw [List.drop_eq_getElem_cons hi, List.all_cons]
    generalize l[i] = r at *
    obtain ⟨m, p, pr, u⟩ := r
    simp only at b1 b2 b3 b4
    have e : ruleG (m, p, pr, u) = (methG m && patG p && mayG pr) := rfl
    have hbody : Tends (fun F => M_route_May_l0 F (l, l, (l.length : Int), (i : Int), ())) (if ruleG (m, p, pr, u) = true then .inl (l, l, (l.length : Int), ((i + 1 : Nat) : Int), ()) else .inr (.inr (false, ()))) := by
      rw [e]
      unfold M_route_May_l0
      refine Tends.pos (by rw [decide_eq_true_eq]; simp only; omega) ?_
      refine Tends.bind (.of fun F => hx) ?_
      refine Tends.bind (r := ((l, (), l, (l.length : Int), (i : Int), !(methG m && patG p), (m, p, pr, ()), ()) : List RlT × Unit × List RlT × Int × Int × Bool × RlT × Unit)) (Tends.bind (method_t m) ?_) ?_
      · cases methG m with
        | true => exact Tends.pos rfl (Tends.bind (pattern_t p b2) (.ret _))
        | false => exact Tends.neg (by decide) (.ret _)
      refine Tends.bind (r := ((l, l, (l.length : Int), (i : Int), !(methG m && patG p && mayG pr), ()) : List RlT × List RlT × Int × Int × Bool × Unit)) ?_ ?_
      · cases (methG m && patG p) with
        | true => exact Tends.pos rfl (Tends.bind (pmay_t pr (by omega) b4) (.ret _))
        | false => exact Tends.neg Bool.noConfusion (.ret _)
      · cases (methG m && patG p && mayG pr) with
        | true => exact Tends.neg Bool.false_ne_true (.of fun F => by simp only [hw, if_true])
        | false => exact Tends.pos rfl (.ret _)
    cases hc : ruleG (m, p, pr, u) with
    | true =>
      rw [hc, if_pos rfl] at hbody
      rw [Bool.true_and]
      exact TendsL.step hbody ih
    | false =>
      rw [hc, if_neg Bool.false_ne_true] at hbody
      rw [Bool.false_and, if_neg Bool.false_ne_true]
      exact TendsL.fin hbody
theorem rmayR_t (l : List RlT) (hl : l.length ≤ 1000000) (hb : ∀ r ∈ l, bndR r) : Tends (fun F => M_route_May F l) (mayR l) := by
  unfold M_route_May mayR
  have h := rmayR_loop l hl hb l.length 0 (by omega)
  rw [List.drop_zero] at h
  refine Tends.bind h.run ?_
  by_cases ha : l.all ruleG = true
  · rw [if_pos ha, ha, Bool.and_true]
    refine Tends.bind (r := ((decide (1 ≤ l.length) && decide (l.length ≤ 8), ()) : Bool × Unit)) (.of fun F => ?_) (.ret _)
    by_cases h0 : 1 ≤ l.length
    · rw [if_pos (by rw [decide_eq_true_eq]; simp only; omega), decide_eq_true h0, Bool.true_and]
      simp only
      congr 2
      rw [Bool.eq_iff_iff, decide_eq_true_eq, decide_eq_true_eq]; omega
    · rw [if_neg (by rw [decide_eq_true_eq]; simp only; omega), decide_eq_false h0, Bool.false_and]
  · have ha' : l.all ruleG = false := by simpa using ha
    rw [if_neg ha, ha', Bool.and_false]
    exact .ret _
theorem rule_len {r : RlT} (h : ruleG r = true) : r.1.length ≤ 1000 ∧ r.2.1.length ≤ 60 ∧ (printG r.2.2.1).length ≤ 600 ∧ (lineG r).length ≤ 1000 := by
  obtain ⟨m, p, pr, u⟩ := r
  unfold ruleG at h
  simp only [Bool.and_eq_true] at h
  obtain ⟨⟨h1, h2⟩, h3⟩ := h
  have q1 : m.length ≤ 8 := by
    unfold methG at h1
    simp only [Bool.or_eq_true, Bool.and_eq_true, decide_eq_true_eq] at h1
    rcases h1 with rfl | ⟨h1, _⟩
    · decide
    · unfold methF at h1
      split at h1
      · cases h1
      · rename_i hc
        omega
  have q2 : p.length ≤ 60 := by
    unfold patG at h2
    simp only [Bool.and_eq_true, decide_eq_true_eq] at h2
    exact h2.1.1.2
  have q3 := printG_len h3
  refine ⟨by simp only; omega, q2, q3, ?_⟩
  unfold lineG
  simp only [List.length_append, List.length_cons]
  omega
theorem printR_loop (l : List RlT) (hl : l.length ≤ 1000) (hr : ∀ r ∈ l, ruleG r = true) (hb : ∀ r ∈ l, bndR r) : ∀ (n i : Nat) (out : List By), i + n = l.length → out.length ≤ i → TendsL M_route_Print_l0 ((), l, (l.length : Int), (i : Int), out, ()) ((), out ++ (l.drop i).map lineG, ())
  | 0, i, out, h, ho => by
    refine TendsL.fin (.of fun F => ?_)
    unfold M_route_Print_l0
    rw [if_neg (by rw [decide_eq_true_eq]; simp only; omega), List.drop_eq_nil_of_le (by omega)]
    show some (Sum.inr ((), out, ())) = some (Sum.inr ((), out ++ [], ()))
    rw [List.append_nil]
  | n + 1, i, out, h, ho => by
    have hi : i < l.length := by omega
    have hx : idx l (i : Int) = some l[i] := idx_at _ _ _ (List.getElem?_eq_getElem hi)
    have hw : IntKind.i64.wrap ((i : Int) + 1) = ((i + 1 : Nat) : Int) := by rw [wrap64 _ (by omega) (by omega)]; omega
    have hr1 := hr l[i] (List.getElem_mem hi)
    obtain ⟨b1, b2, b3, b4⟩ := hb l[i] (List.getElem_mem hi)
    rw [List.drop_eq_getElem_cons hi, List.map_cons]
    generalize l[i] = r at *
    have ih := printR_loop l hl hr hb n (i + 1) (out ++ [lineG r]) (by omega) (by rw [List.length_append, List.length_singleton]; omega)
    rw [List.append_assoc] at ih
    obtain ⟨q1, q2, q3, q4⟩ := rule_len hr1
    have hm : mayG r.2.2.1 = true := by
      unfold ruleG at hr1
      simp only [Bool.and_eq_true] at hr1
      exact hr1.2
    have hp := pprint_t r.2.2.1 (by omega) b4
    rw [if_pos hm] at hp
    have e : r.1 ++ [32] ++ r.2.1 ++ [58, 32] ++ printG r.2.2.1 = lineG r := by unfold lineG; simp [List.append_assoc]
    have big : ∀ {a b : Nat}, a + b ≤ 100000 → decide (a + b ≤ 9223372036854775807) = true := fun h => decide_eq_true (by omega)
    refine TendsL.step ?_ ih
    unfold M_route_Print_l0
    refine Tends.pos (by rw [decide_eq_true_eq]; simp only; omega) (Tends.bind (.of fun F => hx) (Tends.bind hp ?_))
    refine Tends.pos (big (by simp only [List.length_append, List.length_cons, List.length_nil]; omega)) ?_
    refine Tends.pos (big (by simp only [List.length_append, List.length_cons, List.length_nil]; omega)) ?_
    refine Tends.pos (big (by simp only [List.length_append, List.length_cons, List.length_nil]; omega)) ?_
    refine Tends.pos (big (by simp only [List.length_append, List.length_cons, List.length_nil]; omega)) ?_
    refine Tends.pos (by rw [decide_eq_true_eq]; simp only [List.length_singleton]; omega) (.of fun F => ?_)
    simp only [hw, e]
theorem joinD_join (d : UInt8) : ∀ l : List By, Lib.join l [d] = joinD d l
  | [] => rfl
  | [p] => Lib.join_one p [d]
  | p :: q :: r => by
    rw [joinD_cons d p (by simp), ← joinD_join d (q :: r), Lib.join_cons, Lib.join_cons]
    show p ++ ([d] ++ q ++ Lib.joinTail [d] r) = p ++ d :: (q ++ Lib.joinTail [d] r)
    simp
theorem joinD_len (d : UInt8) (k : Nat) : ∀ l : List By, (∀ p ∈ l, p.length ≤ k) → (joinD d l).length ≤ (k + 1) * l.length
  | [], h => Nat.zero_le _
  | [p], h => by
    have := h p (List.mem_cons_self ..)
    show p.length ≤ (k + 1) * 1
    omega
  | p :: q :: r, h => by
    have h1 := h p (List.mem_cons_self ..)
    have h2 := joinD_len d k (q :: r) fun x hx => h x (List.mem_cons_of_mem _ hx)
    rw [joinD_cons d p (by simp), List.length_append, List.length_cons]
    rw [List.length_cons (a := p), Nat.mul_add]
    omega
theorem printR_len {l : List RlT} (h : mayR l = true) : (printR l).length ≤ 10000 := by
  obtain ⟨_, h8, h1⟩ := mayR_all h
  have := joinD_len 10 1000 (l.map lineG) fun p hp => by
    obtain ⟨r, hr, rfl⟩ := List.mem_map.1 hp
    exact (rule_len (h1 r hr)).2.2.2
  rw [List.length_map] at this
  unfold printR
  omega
theorem rprintR_t (l : List RlT) (hl : l.length ≤ 1000000) (hb : ∀ r ∈ l, bndR r) : Tends (fun F => M_route_Print F l) (if mayR l = true then (printR l, 0) else ([], 1)) := by
  unfold M_route_Print
  refine Tends.bind (rmayR_t l hl hb) ?_
  by_cases hm : mayR l = true
  · rw [if_pos hm, hm]
    obtain ⟨_, h8, h1⟩ := mayR_all hm
    have h := printR_loop l (by omega) h1 hb l.length 0 [] (by omega) (Nat.zero_le _)
    rw [List.drop_zero, List.nil_append] at h
    have hlen := printR_len hm
    refine Tends.neg (by decide) (Tends.bind h.run ?_)
    have hj := fun F => join_eq F (l.map lineG) [10] (by rw [List.length_map]; omega) (by rw [joinD_join]; unfold printR at hlen; omega)
    refine Tends.bind (.of hj) ?_
    rw [joinD_join]
    exact .ret _
  · have hm' : mayR l = false := by simpa using hm
    rw [if_neg hm, hm']
    exact Tends.pos rfl (.ret _)
/-! ### parsing -/
abbrev PrR := Unit × List RlT × Unit ⊕ Unit × Int × List RlT × Unit
def prF (out : List RlT) : Option (List RlT) → PrR
  | some l => .inl ((), out ++ l, ())
  | none => .inr ((), 3, [], ())
theorem parseR_loop (xs : List By) (hn : xs.length ≤ 1000000) (hx : ∀ x ∈ xs, x.length ≤ 1000) : ∀ (n i : Nat) (out : List RlT), i + n = xs.length → out.length ≤ i → TendsL M_route_Parse_l0 ((), xs, (xs.length : Int), (i : Int), out, ()) (prF out (linesP (xs.drop i)))
  | 0, i, out, h, ho => by
    refine TendsL.fin (.of fun F => ?_)
    unfold M_route_Parse_l0
    rw [if_neg (by rw [decide_eq_true_eq]; simp only; omega), List.drop_eq_nil_of_le (by omega)]
    show some (Sum.inr (Sum.inl ((), out, ()))) = some (Sum.inr (Sum.inl ((), out ++ [], ())))
    rw [List.append_nil]
  | n + 1, i, out, h, ho => by
    have hi : i < xs.length := by omega
    have hx0 : idx xs (i : Int) = some xs[i] := idx_at _ _ _ (List.getElem?_eq_getElem hi)
    have hw : IntKind.i64.wrap ((i : Int) + 1) = ((i + 1 : Nat) : Int) := by rw [wrap64 _ (by omega) (by omega)]; omega
    have hxl := hx xs[i] (List.getElem_mem hi)
    have ih := fun out => parseR_loop xs hn hx n (i + 1) out (by omega)
    rw [List.drop_eq_getElem_cons hi]
    generalize xs[i] = x at *
    have l1 := cut_len x [58, 32]
    have l2 := cut_len (Lib.cut x [58, 32]).1 [32]
    have hp := pparse_t (Lib.cut x [58, 32]).2.1 (by omega)
    have c1 := fun F => cut_eq F x [58, 32] (by omega) (by decide)
    have c2 := fun F => cut_eq F (Lib.cut x [58, 32]).1 [32] (by omega) (by decide)
    have e : prF out (linesP (x :: xs.drop (i + 1))) = match lineP x with
      | none => .inr ((), 3, [], ())
      | some r => prF (out ++ [r]) (linesP (xs.drop (i + 1))) := by
      show prF out (match lineP x with
        | none => none
        | some r => (linesP (xs.drop (i + 1))).map (r :: ·)) = _
      cases lineP x with
      | none => rfl
      | some r =>
        cases linesP (xs.drop (i + 1)) with
        | none => rfl
        | some l => show Sum.inl ((), out ++ (r :: l), ()) = Sum.inl ((), (out ++ [r]) ++ l, ()); rw [List.append_assoc]; rfl
    rw [e]
    unfold lineP
    generalize Lib.cut x [58, 32] = A at *
    obtain ⟨hd, tx, ok⟩ := A
    simp only at l1 l2 hp c2 ⊢
    generalize Lib.cut hd [32] = B at *
    obtain ⟨m, p, is⟩ := B
    simp only at l2 ⊢
    generalize parseT tx = C at *
    obtain ⟨pr, er⟩ := C
    simp only
    have hbody : ∀ z, (∀ F : Nat, (if decide (ok = false ∨ is = false ∨ er ≠ 0) = true then some (Sum.inr (Sum.inr ((), 3, [], ()))) else some (Sum.inl ((), xs, (xs.length : Int), ((i + 1 : Nat) : Int), out ++ [(m, p, pr, ())], ())) : Option ((Unit × List By × Int × Int × List RlT × Unit) ⊕ PrR)) = some z) → Tends (fun F => M_route_Parse_l0 F ((), xs, (xs.length : Int), (i : Int), out, ())) z := by
      intro z hz
      unfold M_route_Parse_l0
      refine Tends.pos (by rw [decide_eq_true_eq]; simp only; omega) (Tends.bind (.of fun F => hx0) (Tends.bind (.of c1) (Tends.bind (.of c2) (Tends.bind hp ?_))))
      refine Tends.bind (r := (((), m, p, pr, er, xs, (xs.length : Int), (i : Int), decide (ok = false ∨ is = false), out, ()) : Unit × By × By × List PhT × Int × List By × Int × Int × Bool × List RlT × Unit)) (.of fun F => by cases ok <;> cases is <;> simp) ?_
      refine Tends.bind (r := (((), m, p, pr, xs, (xs.length : Int), (i : Int), decide (ok = false ∨ is = false ∨ er ≠ 0), out, ()) : Unit × By × By × List PhT × List By × Int × Int × Bool × List RlT × Unit)) (.of fun F => by cases ok <;> cases is <;> simp) ?_
      refine .of fun F => ?_
      have hz := hz F
      simp only
      by_cases hc : ok = false ∨ is = false ∨ er ≠ 0
      · rw [if_pos (decide_eq_true hc)] at hz ⊢
        exact hz
      · rw [if_neg (by rw [decide_eq_true_eq]; exact hc)] at hz ⊢
        rw [if_pos (by rw [decide_eq_true_eq]; simp only [List.length_singleton]; omega), hw]
        exact hz
    by_cases hc : ok = false ∨ is = false ∨ er ≠ 0
    · rw [if_pos hc]
      exact TendsL.fin (hbody _ fun F => by rw [if_pos (decide_eq_true hc)])
    · rw [if_neg hc]
      exact TendsL.step (hbody _ fun F => by rw [if_neg (by rw [decide_eq_true_eq]; exact hc)]) (ih _ (by rw [List.length_append, List.length_singleton]; omega))
theorem parseT_bnd (s : By) : (parseT s).1.length ≤ 5 ∧ ∀ p ∈ (parseT s).1, bndP p := by
  rcases parseT_cases s with ⟨l, hm, _, hp⟩ | ⟨_, hp⟩
  · rw [hp]
    obtain ⟨h1, _, h3⟩ := may_right hm
    refine ⟨h3, fun p hp => ?_⟩
    rcases right_cases (h1 p hp) with ⟨n, rfl, _, _⟩ | ⟨nm, n, rfl, h, _, _⟩ | ⟨nm, t, rfl, h, ht⟩ | ⟨n, t, rfl, _, ht⟩
    · exact ⟨Nat.zero_le _, Nat.zero_le _⟩
    · exact ⟨by have := nm_len h; simp only; omega, Nat.zero_le _⟩
    · exact ⟨by have := nm_len h; simp only; omega, by have := textG_len ht; simp only; omega⟩
    · exact ⟨Nat.zero_le _, by have := textG_len ht; simp only; omega⟩
  · rw [hp]
    exact ⟨Nat.zero_le _, fun p hp => by cases hp⟩
theorem lines_bnd : ∀ (xs : List By) (l : List RlT), (∀ x ∈ xs, x.length ≤ 1000) → linesP xs = some l → l.length = xs.length ∧ ∀ r ∈ l, bndR r
  | [], l, hx, h => by cases h; exact ⟨rfl, fun p hp => by cases hp⟩
  | x :: xs, l, hx, h => by
    unfold linesP at h
    split at h
    · cases h
    · rename_i r hr
      obtain ⟨l', h1, rfl⟩ := Option.map_eq_some_iff.1 h
      obtain ⟨i1, i2⟩ := lines_bnd xs l' (fun y hy => hx y (List.mem_cons_of_mem _ hy)) h1
      refine ⟨by rw [List.length_cons, List.length_cons, i1], fun q hq => ?_⟩
      rcases List.mem_cons.1 hq with rfl | hq
      · have hxl := hx x (List.mem_cons_self ..)
        have l1 := cut_len x [58, 32]
        have l2 := cut_len (Lib.cut x [58, 32]).1 [32]
        unfold lineP at hr
        split at hr
        · cases hr
        · cases hr
          obtain ⟨q1, q2⟩ := parseT_bnd (Lib.cut x [58, 32]).2.1
          exact ⟨by simp only; omega, by simp only; omega, by simp only; omega, q2⟩
      · exact i2 q hq
theorem rparseR_t (s : By) (hs : s.length ≤ 1000) : Tends (fun F => M_route_Parse F s) (parseR s) := by
  obtain ⟨c1, c2⟩ := splC_len 10 s
  have hsp : ∀ F, M_strings_Split F (s, [10]) = some (splC 10 s) := by
    intro F
    unfold M_strings_Split MSplit
    rw [if_pos (decide_eq_true (by simp only; omega)), if_pos (by rfl), split_splC]
  unfold M_route_Parse parseR
  refine Tends.bind (.of hsp) ?_
  have h := parseR_loop (splC 10 s) (by omega) (fun y hy => by have := c2 y hy; omega) (splC 10 s).length 0 [] (by omega) (Nat.zero_le _)
  rw [List.drop_zero] at h
  refine Tends.bind h.run ?_
  cases hr : linesP (splC 10 s) with
  | none => exact .ret _
  | some l =>
    obtain ⟨b1, b2⟩ := lines_bnd (splC 10 s) l (fun y hy => by have := c2 y hy; omega) hr
    show Tends _ (if mayR l = true then (l, 0) else ([], 3))
    refine Tends.bind (rmayR_t l (by omega) b2) ?_
    by_cases hm : mayR l = true
    · rw [if_pos hm, hm]
      exact Tends.neg (by decide) (.ret _)
    · have hm' : mayR l = false := by simpa using hm
      rw [if_neg hm, hm']
      exact Tends.pos rfl (.ret _)
/-! ### finding -/
def fitsB (r : RlT) (m s : By) : Bool := (decide (r.1 = m) || decide (r.1 = [42])) && fitsG r.2.1 s
def findG (m s : By) : List RlT → Nat → Unit ⊕ Int × Unit
  | [], i => .inl ()
  | r :: l, i => if fitsB r m s = true then .inr ((i : Int), ()) else findG m s l (i + 1)
def findV (l : List RlT) (m s : By) : Int := sumC (findG m s l 0) (fun _ => -1) (fun v => v.1)
theorem findR_loop (l : List RlT) (m s : By) (hl : l.length ≤ 1000000) (hb : ∀ r ∈ l, bndR r) (hs : s.length ≤ 1000) : ∀ (n i : Nat), i + n = l.length → TendsL M_route_Find_l0 (m, s, l, (l.length : Int), (i : Int), ()) (findG m s (l.drop i) i)
  | 0, i, h => by
    refine TendsL.fin (.of fun F => ?_)
    unfold M_route_Find_l0
    rw [if_neg (by rw [decide_eq_true_eq]; simp only; omega), List.drop_eq_nil_of_le (by omega)]
    rfl
  | n + 1, i, h => by
    have hi : i < l.length := by omega
    have hx : idx l (i : Int) = some l[i] := idx_at _ _ _ (List.getElem?_eq_getElem hi)
    have hw : IntKind.i64.wrap ((i : Int) + 1) = ((i + 1 : Nat) : Int) := by rw [wrap64 _ (by omega) (by omega)]; omega
    have ih := findR_loop l m s hl hb hs n (i + 1) (by omega)
    obtain ⟨b1, b2, b3, b4⟩ := hb l[i] (List.getElem_mem hi)
    rw [List.drop_eq_getElem_cons hi]
    generalize l[i] = r at *
    obtain ⟨rm, rp, pr, u⟩ := r
    simp only at b1 b2
    unfold findG
    have hbody : Tends (fun F => M_route_Find_l0 F (m, s, l, (l.length : Int), (i : Int), ())) (if fitsB (rm, rp, pr, u) m s = true then .inr (.inr ((i : Int), ())) else .inl (m, s, l, (l.length : Int), ((i + 1 : Nat) : Int), ())) := by
      unfold M_route_Find_l0 fitsB
      refine Tends.pos (by rw [decide_eq_true_eq]; simp only; omega) (Tends.bind (.of fun F => hx) ?_)
      refine Tends.bind (r := ((m, s, (i : Int), (), l, (l.length : Int), (i : Int), decide (rm = m) || decide (rm = [42]), (rm, rp, pr, ()), ()) : By × By × Int × Unit × List RlT × Int × Int × Bool × RlT × Unit)) (.of fun F => ?_) ?_
      · by_cases c1 : rm = m
        · rw [if_neg (by rw [decide_eq_true c1]; exact Bool.noConfusion), decide_eq_true c1]; rfl
        · rw [if_pos (decide_eq_false c1), decide_eq_false c1, Bool.false_or]
      refine Tends.bind (r := ((m, s, (i : Int), l, (l.length : Int), (i : Int), (decide (rm = m) || decide (rm = [42])) && fitsG rp s, ()) : By × By × Int × List RlT × Int × Int × Bool × Unit)) ?_ ?_
      · cases (decide (rm = m) || decide (rm = [42])) with
        | true => exact Tends.pos rfl (Tends.bind (fits_t rp s b2 hs) (.ret _))
        | false => exact Tends.neg Bool.false_ne_true (.ret _)
      · show Tends _ (if ((decide (rm = m) || decide (rm = [42])) && fitsG rp s) = true then _ else _)
        cases ((decide (rm = m) || decide (rm = [42])) && fitsG rp s) with
        | true => exact Tends.pos rfl (.ret _)
        | false => exact Tends.neg Bool.false_ne_true (.of fun F => by simp only [hw]; rfl)
    cases hc : fitsB (rm, rp, pr, u) m s with
    | true =>
      rw [hc, if_pos rfl] at hbody
      exact TendsL.fin hbody
    | false =>
      rw [hc, if_neg Bool.false_ne_true] at hbody
      exact TendsL.step hbody ih
theorem find_v (l : List RlT) (m s : By) (hl : l.length ≤ 1000000) (hb : ∀ r ∈ l, bndR r) (hs : s.length ≤ 1000) : Tends (fun F => M_route_Find F (l, m, s)) (findV l m s) := by
  unfold M_route_Find findV
  have h := findR_loop l m s hl hb hs l.length 0 (by omega)
  rw [List.drop_zero] at h
  refine Tends.bind h.run (.of fun F => ?_)
  cases findG m s l 0 <;> rfl
end Go.Vm
