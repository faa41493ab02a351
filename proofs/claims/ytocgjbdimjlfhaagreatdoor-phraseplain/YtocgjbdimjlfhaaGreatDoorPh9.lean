/- Phrases: what has no gap is filled by itself; the law of plain texts. No condition but on lengths. -/
import Derived.Test.YtocgjbdimjlfhaaGreatDoorPh8
namespace Go.Vm
open Go.Proofs
open Go.Lib (decodeL decodeN decodeL_N decode_N decodeN_shape decodeL_le)
set_option linter.unusedVariables false
set_option linter.unusedSimpArgs false
def dblP (s : By) : By := s.flatMap fun c => if c = 37 then [37, 37] else [c]
theorem dbl_cons (c : UInt8) (s : By) : dblP (c :: s) = (if c = 37 then [37, 37] else [c]) ++ dblP s := by unfold dblP; rw [List.flatMap_cons]
theorem dbl_len (s : By) : (dblP s).length ≤ 2 * s.length := by
  induction s with
  | nil => exact Nat.zero_le _
  | cons c s ih =>
    rw [dbl_cons, List.length_append, List.length_cons]
    split <;> simp only [List.length_cons, List.length_nil] <;> omega
theorem dbl_no (w t : By) (h : ∀ b ∈ w, b ≠ 37) : dblP (w ++ t) = w ++ dblP t := by
  induction w with
  | nil => rfl
  | cons c w ih =>
    rw [List.cons_append, dbl_cons, if_neg (h c (List.mem_cons_self ..)), ih fun b hb => h b (List.mem_cons_of_mem _ hb)]
    rfl
theorem cut_dbl : ∀ (n : Nat) (s : By), s.length ≤ n → allS s = true → ∃ l, cutP (dblP s) = some l ∧ ∀ e, flatL (valT e) l = s
  | 0, s, h, ha => by
    obtain rfl : s = [] := List.length_eq_zero_iff.1 (by omega)
    exact ⟨[], rfl, fun _ => rfl⟩
  | n + 1, s, h, ha => by
    cases s with
    | nil => exact ⟨[], rfl, fun _ => rfl⟩
    | cons c r =>
      have hp := decodeL_pos (c :: r)
      have hle := decodeL_le (c :: r) (by simp)
      rw [allS_cons (by simp), Bool.and_eq_true, decide_eq_true_eq] at ha
      obtain ⟨hs, ha⟩ := ha
      simp only [List.length_cons] at h
      by_cases hc : c = 37
      · subst hc
        rw [dec_one 37 (by decide) r] at ha
        obtain ⟨l, h1, h2⟩ := cut_dbl n r (by omega) ha
        have hg : gapN (37 :: 37 :: dblP r : By) = 2 := by unfold gapN; simp
        refine ⟨(true, [37, 37], ()) :: l, ?_, fun e => ?_⟩
        · rw [dbl_cons, if_pos rfl]
          show cutP (37 :: 37 :: dblP r) = _
          rw [cutP_cons, dec_one 37 (by decide), if_neg (by decide), if_pos rfl, hg, if_neg (by decide)]
          show (cutP (dblP r)).map _ = _
          rw [h1]
          rfl
        · rw [flat_cons, if_pos rfl, h2 e]
          rfl
      · have h37 := sign_no37 c r hs hc
        have hb : ¬ ((decodeL (c :: r)).1 = 65533 ∧ (decodeL (c :: r)).2 = 1) := by
          rintro ⟨h1, _⟩
          rw [h1] at hs
          exact hs (by decide)
        have htk := take_encN (c :: r) (by simp) hb
        have hok := rune_ok (c :: r)
        obtain ⟨l, h1, h2⟩ := cut_dbl n ((c :: r).drop (decodeL (c :: r)).2) (by rw [List.length_drop, List.length_cons]; omega) ha
        have hsp : (c :: r : By) = (c :: r).take (decodeL (c :: r)).2 ++ (c :: r).drop (decodeL (c :: r)).2 := (List.take_append_drop _ _).symm
        have hkl : ((c :: r).take (decodeL (c :: r)).2).length = (decodeL (c :: r)).2 := by rw [List.length_take]; omega
        obtain ⟨w, hw⟩ : ∃ w, (c :: r).take (decodeL (c :: r)).2 = c :: w := by
          obtain ⟨k, hk⟩ : ∃ k, (decodeL (c :: r)).2 = k + 1 := ⟨(decodeL (c :: r)).2 - 1, by omega⟩
          exact ⟨r.take k, by rw [hk, List.take_succ_cons]⟩
        have hd : dblP (c :: r) = (c :: w) ++ dblP ((c :: r).drop (decodeL (c :: r)).2) := by
          have := dbl_no ((c :: r).take (decodeL (c :: r)).2) ((c :: r).drop (decodeL (c :: r)).2) h37
          rw [← hsp, hw] at this
          exact this
        have hdec : decodeL ((c :: w) ++ dblP ((c :: r).drop (decodeL (c :: r)).2)) = ((decodeL (c :: r)).1, (c :: w).length) := by
          have := dec_encN (decodeL (c :: r)).1 hok (dblP ((c :: r).drop (decodeL (c :: r)).2))
          rw [← htk, hw] at this
          exact this
        refine ⟨(false, c :: w, ()) :: l, ?_, fun e => ?_⟩
        · rw [hd]
          show cutP (c :: (w ++ dblP ((c :: r).drop (decodeL (c :: r)).2))) = _
          rw [cutP_cons]
          rw [List.cons_append] at hdec
          rw [hdec, if_neg hs, if_neg hc]
          show (cutP (((c :: w) ++ dblP ((c :: r).drop (decodeL (c :: r)).2)).drop (c :: w).length)).map (fun l => (false, ((c :: w) ++ dblP ((c :: r).drop (decodeL (c :: r)).2)).take (c :: w).length, ()) :: l) = _
          rw [List.drop_left, List.take_left, h1]
          rfl
        · rw [flat_cons, if_neg Bool.false_ne_true, h2 e]
          show (c :: w) ++ _ = _
          rw [← hw]
          exact hsp.symm
theorem out_self : ∀ s : By, allS s = true → ∀ acc : By, acc.length + s.length ≤ 40 → outL ((signs s).map (·.1)) acc = acc ++ s := by
  refine signs_ind ?_ ?_
  · intro _ acc _
    rw [signs_nil, List.append_nil]
    rfl
  · intro l h ih ha acc hl
    rw [allS_cons h, Bool.and_eq_true, decide_eq_true_eq] at ha
    obtain ⟨hs, ha⟩ := ha
    have hb : ¬ ((decodeL l).1 = 65533 ∧ (decodeL l).2 = 1) := by
      rintro ⟨h1, _⟩
      rw [h1] at hs
      exact hs (by decide)
    have htk := take_encN l h hb
    have hle := decodeL_le l h
    have hlen : (l.take (decodeL l).2).length = (decodeL l).2 := by rw [List.length_take]; omega
    rw [signs_cons h, List.map_cons]
    unfold outL
    rw [if_neg hs, Int.toNat_natCast, ← htk, hlen, if_neg (by omega), ih ha _ (by rw [List.length_append, hlen, List.length_drop]; omega), List.append_assoc, List.take_append_drop]
theorem fill_dbl (s : By) (e : EnT) (hs : s.length ≤ 20) (ha : allS s = true) : fillT (dblP s) e = s ∧ checkT (dblP s) = true := by
  have hl := dbl_len s
  obtain ⟨l, h1, h2⟩ := cut_dbl s.length s (Nat.le_refl _) ha
  constructor
  · unfold fillT
    rw [if_neg (by omega), h1]
    simp only [h2 e]
    rw [out_self s ha [] (by simp only [List.length_nil]; omega)]
    rfl
  · unfold checkT
    rw [h1, decide_eq_true (by omega)]
    rfl
theorem dbl_loop (s : By) (e : EnT) (hs : s.length ≤ 1000) : ∀ (n i : Nat) (out : By), i + n = s.length → out.length ≤ 2 * i → TendsL M_conciergelaw22_PhrasePlain_l0 (s, (), out, (s.length : Int), (i : Int), e, ()) (s, (), out ++ dblP (s.drop i), e, ())
  | 0, i, out, h, ho => by
    refine TendsL.fin (.of fun F => ?_)
    unfold M_conciergelaw22_PhrasePlain_l0
    rw [if_neg (by rw [decide_eq_true_eq]; simp only; omega), List.drop_eq_nil_of_le (by omega)]
    show some (Sum.inr (s, (), out, e, ())) = some (Sum.inr (s, (), out ++ [], e, ()))
    rw [List.append_nil]
  | n + 1, i, out, h, ho => by
    have hi : i < s.length := by omega
    have hx : idx s (i : Int) = some s[i] := idx_at _ _ _ (List.getElem?_eq_getElem hi)
    have hw : IntKind.i64.wrap ((i : Int) + 1) = ((i + 1 : Nat) : Int) := by rw [wrap64 _ (by omega) (by omega)]; omega
    have hsb : sub s (i : Int) ((i + 1 : Nat) : Int) = some [s[i]] := by
      have := sub_nat s i (i + 1) (by omega) (by omega)
      rw [Nat.add_sub_cancel_left, List.drop_eq_getElem_cons hi] at this
      exact this
    rw [List.drop_eq_getElem_cons hi, dbl_cons]
    have ih := fun out => dbl_loop s e hs n (i + 1) out (by omega)
    generalize s[i] = c at *
    have n37 : ((c.toNat : Int) = 37) = (c = 37) := nvB c 37
    rw [← List.append_assoc]
    refine TendsL.step (x' := (s, (), out ++ (if c = 37 then [37, 37] else [c]), (s.length : Int), ((i + 1 : Nat) : Int), e, ())) (.of fun F => ?_) (ih _ (by rw [List.length_append]; split <;> simp only [List.length_cons, List.length_nil] <;> omega))
    unfold M_conciergelaw22_PhrasePlain_l0
    rw [if_pos (by rw [decide_eq_true_eq]; simp only; omega)]
    simp only [hw, hsb, hx, Option.bind_some, n37]
    rw [if_pos (by rw [decide_eq_true_eq]; simp only [List.length_singleton]; omega)]
    by_cases h37 : c = 37
    · subst h37
      rw [if_pos rfl]
      simp only [decide_true, if_true]
      rw [if_pos (by rw [decide_eq_true_eq]; simp only [List.length_append, List.length_singleton]; omega)]
      simp only [Option.bind_some, hw, List.append_assoc]
      rfl
    · rw [if_neg h37]
      simp only [decide_eq_false h37, Bool.false_eq_true, if_false, Option.bind_some, hw]
theorem phrasePlain_t (s : By) (e : EnT) : Tends (fun F => M_conciergelaw22_PhrasePlain F (s, e)) true := by
  unfold M_conciergelaw22_PhrasePlain
  refine Tends.bind awake22_t ?_
  refine Tends.neg (by decide) ?_
  by_cases h2 : 20 < s.length
  · refine Tends.bind (r := ((s, (), true, e, ()) : By × Unit × Bool × EnT × Unit)) (Tends.neg (by rw [decide_eq_true (by simp only; omega)]; decide) (.ret _)) ?_
    refine Tends.bind (r := ((s, (), true, e, ()) : By × Unit × Bool × EnT × Unit)) (Tends.neg Bool.noConfusion (.ret _)) ?_
    refine Tends.bind (r := ((s, (), true, e, ()) : By × Unit × Bool × EnT × Unit)) (Tends.neg Bool.noConfusion (.ret _)) ?_
    exact Tends.pos rfl (.ret _)
  refine Tends.bind (r := ((s, (), decide (s = []), e, ()) : By × Unit × Bool × EnT × Unit)) (Tends.pos (decide_eq_false (by simp only; omega)) (.ret _)) ?_
  by_cases h0 : s = []
  · refine Tends.bind (r := ((s, (), true, e, ()) : By × Unit × Bool × EnT × Unit)) (Tends.neg (by rw [decide_eq_true h0]; exact Bool.noConfusion) (.ret _)) ?_
    refine Tends.bind (r := ((s, (), true, e, ()) : By × Unit × Bool × EnT × Unit)) (Tends.neg Bool.noConfusion (.ret _)) ?_
    exact Tends.pos rfl (.ret _)
  refine Tends.bind (r := ((s, (), !rightB s 20, e, ()) : By × Unit × Bool × EnT × Unit)) (Tends.pos (decide_eq_false h0) (Tends.bind (refRight_tends s (by omega) 20) (.ret _))) ?_
  by_cases hr : rightB s 20 = true
  case neg =>
    have hr' : rightB s 20 = false := by simpa using hr
    rw [hr']
    refine Tends.bind (r := ((s, (), true, e, ()) : By × Unit × Bool × EnT × Unit)) (Tends.neg Bool.noConfusion (.ret _)) ?_
    exact Tends.pos rfl (.ret _)
  rw [hr]
  refine Tends.bind (r := ((s, (), !smallE e, e, ()) : By × Unit × Bool × EnT × Unit)) (Tends.pos rfl (Tends.bind (small_t [(0, e)] 1 (Nat.le_of_ble_eq_true rfl)) (.of fun F => by simp))) ?_
  by_cases hsm : smallE e = true
  case neg => exact Tends.pos (by simpa using hsm) (.ret _)
  refine Tends.neg (by simp [hsm]) ?_
  have hl := dbl_loop s e (by omega) s.length 0 [] (by omega) (Nat.zero_le _)
  rw [List.drop_zero, List.nil_append] at hl
  refine Tends.bind hl.run ?_
  have hdl := dbl_len s
  obtain ⟨f1, f2⟩ := fill_dbl s e (by omega) (right_all s 20 hr)
  refine Tends.bind (r := ((true, ()) : Bool × Unit)) (Tends.bind (fill_t (dblP s) e (by omega) (small_he e hsm)) ?_) (.ret _)
  refine Tends.pos (decide_eq_true f1) ?_
  refine Tends.bind (check_v (dblP s) (by omega)) ?_
  rw [f2]
  exact .ret _
theorem pure_conciergelaw22_PhrasePlain (s : By) (e : EnT) : ∃ F, M_conciergelaw22_PhrasePlain F (s, e) = some true := (phrasePlain_t s e).ex
end Go.Vm
