/- Phrases: gaps; the wake; the law of checks. No condition but on lengths. -/
import Derived.Test.YtocgjbdimjlfhaaGreatDoorPh5
namespace Go.Vm
open Go.Proofs
open Go.Lib (decodeL decodeN decodeL_N decode_N decodeN_shape decodeL_le)
set_option linter.unusedVariables false
set_option linter.unusedSimpArgs false
theorem gaps_cons (p : Pc) (l : List Pc) : gapsL (p :: l) = (if p.1 = true then [p.2.1] else []) ++ gapsL l := by
  unfold gapsL
  rw [List.filter_cons]
  split <;> rfl
theorem gaps_loop (l : List Pc) (hl : l.length ≤ 1000) : ∀ (n i : Nat) (out : List By), i + n = l.length → out.length ≤ i → TendsL M_phrase_Gaps_l0 ((), l, (l.length : Int), (i : Int), out, ()) ((), out ++ gapsL (l.drop i), ())
  | 0, i, out, h, ho => by
    refine TendsL.fin (.of fun F => ?_)
    unfold M_phrase_Gaps_l0
    rw [if_neg (by rw [decide_eq_true_eq]; simp only; omega), List.drop_eq_nil_of_le (by omega)]
    show some (Sum.inr ((), out, ())) = some (Sum.inr ((), out ++ [], ()))
    rw [List.append_nil]
  | n + 1, i, out, h, ho => by
    have hi : i < l.length := by omega
    have hx : idx l (i : Int) = some l[i] := idx_at _ _ _ (List.getElem?_eq_getElem hi)
    have hw : IntKind.i64.wrap ((i : Int) + 1) = ((i + 1 : Nat) : Int) := by rw [wrap64 _ (by omega) (by omega)]; omega
    rw [List.drop_eq_getElem_cons hi, gaps_cons]
    generalize l[i] = p at *
    have ih := gaps_loop l hl n (i + 1) (out ++ if p.1 = true then [p.2.1] else []) (by omega) (by rw [List.length_append]; split <;> simp <;> omega)
    rw [List.append_assoc] at ih
    refine TendsL.step (.of fun F => ?_) ih
    unfold M_phrase_Gaps_l0
    rw [if_pos (by rw [decide_eq_true_eq]; simp only; omega)]
    simp only [hx, Option.bind_some]
    by_cases hp : p.1 = true
    · rw [if_pos hp, if_pos hp, if_pos (by rw [decide_eq_true_eq]; simp only [List.length_singleton]; omega), Option.bind_some]
      simp only [hw]
    · rw [if_neg hp, if_neg hp, Option.bind_some, List.append_nil]
      simp only [hw]
def gapsT (s : By) : List By := gapsL (cutT s).1
theorem gaps_v (s : By) (hs : s.length ≤ 1000) : Tends (fun F => M_phrase_Gaps F s) (gapsT s) := by
  unfold M_phrase_Gaps gapsT
  refine Tends.bind (cut_t s hs) ?_
  have hl : (cutT s).1.length ≤ 1000 := by
    unfold cutT
    split
    · exact Nat.zero_le _
    · cases hc : cutP s with
      | none => exact Nat.zero_le _
      | some l =>
        have := (cut_gaps s.length s (Nat.le_refl _) l hc).1
        show l.length ≤ 1000
        omega
  have h := gaps_loop (cutT s).1 hl (cutT s).1.length 0 [] (by omega) (by simp)
  rw [List.drop_zero, List.nil_append] at h
  exact Tends.bind h.run (.ret _)
theorem gaps22_loop (s : By) (hs : s.length ≤ 1000) : ∀ (n p : Nat) (out : List By) (m : List Pc), s.length - p ≤ n → p ≤ s.length → out.length ≤ p → tokP (s.drop p) = some m → TendsL M_conciergeref22_Gaps_l0 (s, (), (p : Int), out, ()) ((), out ++ gapsL m, ()) := by
  intro n
  induction n with
  | zero =>
    intro p out m hn hp ho ht
    rw [List.drop_eq_nil_of_le (by omega), tokP_nil] at ht
    cases ht
    refine TendsL.fin (.of fun F => ?_)
    unfold M_conciergeref22_Gaps_l0
    rw [if_neg (by rw [decide_eq_true_eq]; simp only; omega)]
    show some (Sum.inr ((), out, ())) = some (Sum.inr ((), out ++ [], ()))
    rw [List.append_nil]
  | succ n ih =>
    intro p out m hn hp ho ht
    by_cases hlt : p < s.length
    case neg =>
      rw [List.drop_eq_nil_of_le (by omega), tokP_nil] at ht
      cases ht
      refine TendsL.fin (.of fun F => ?_)
      unfold M_conciergeref22_Gaps_l0
      rw [if_neg (by rw [decide_eq_true_eq]; simp only; omega)]
      show some (Sum.inr ((), out, ())) = some (Sum.inr ((), out ++ [], ()))
      rw [List.append_nil]
    have hd : s.drop p = s[p] :: s.drop (p + 1) := List.drop_eq_getElem_cons hlt
    have hx0 : idx s (p : Int) = some s[p] := idx_at _ _ _ (List.getElem?_eq_getElem hlt)
    have hse := sub_to_end s p (by omega)
    have hlen : (s.drop p).length = s.length - p := List.length_drop
    have hw1 : IntKind.i64.wrap ((p : Int) + 1) = ((p + 1 : Nat) : Int) := by rw [wrap64 _ (by omega) (by omega)]; omega
    have ih1 := fun out m => ih (p + 1) out m (by omega) (by omega)
    have hdd : ∀ m, (s.drop p).drop m = s.drop (p + m) := fun m => List.drop_drop
    have hsb : ∀ g : Nat, p + g ≤ s.length → sub s (p : Int) ((p + g : Nat) : Int) = some ((s.drop p).take g) := by
      intro g hg
      have := sub_nat s p (p + g) (by omega) hg
      rw [Nat.add_sub_cancel_left] at this
      exact this
    rw [hd] at hse hlen hdd hsb ht
    rw [tokP_cons] at ht
    generalize hr : s.drop (p + 1) = r at *
    generalize s[p] = c at *
    have n37 : ((c.toNat : Int) = 37) = (c = 37) := nvB c 37
    by_cases h37 : c = 37
    · rw [if_pos h37] at ht
      by_cases hg : gapN (c :: r) = 0
      · rw [if_pos hg] at ht; cases ht
      rw [if_neg hg] at ht
      obtain ⟨m', hm, rfl⟩ := Option.map_eq_some_iff.1 ht
      have hgle := gapN_le (c :: r)
      have h1 := gapN_one (c :: r)
      have hgt := gap22_t c r (by simp only [List.length_cons] at hlen; omega)
      have hw : IntKind.i64.wrap ((p : Int) + (gapN (c :: r) : Int)) = ((p + gapN (c :: r) : Nat) : Int) := by rw [wrap64 _ (by omega) (by omega)]; omega
      have hsg := hsb (gapN (c :: r)) (by omega)
      have ihg := ih (p + gapN (c :: r)) (out ++ [(c :: r).take (gapN (c :: r))]) m' (by omega) (by omega) (by rw [List.length_append, List.length_singleton]; omega) (by rw [← hdd]; exact hm)
      rw [gaps_cons, if_pos rfl, ← List.append_assoc]
      refine TendsL.step ?_ ihg
      unfold M_conciergeref22_Gaps_l0
      refine Tends.pos (by rw [decide_eq_true_eq]; simp only; omega) ?_
      refine Tends.bind (.of fun F => hx0) ?_
      refine Tends.bind (r := ((s, (), (p : Int), (gapN (c :: r) : Int), out ++ [(c :: r).take (gapN (c :: r))], ()) : By × Unit × Int × Int × List By × Unit)) ?_ (.of fun F => by simp only [hw])
      refine Tends.pos (by simp only [n37, decide_eq_true h37]) ?_
      refine Tends.bind (.of fun F => hse) ?_
      refine Tends.bind hgt ?_
      refine Tends.bind (r := ((s, (), (p : Int), (gapN (c :: r) : Int), out ++ [(c :: r).take (gapN (c :: r))], ()) : By × Unit × Int × Int × List By × Unit)) (Tends.bind (.of fun F => by simp only [hw]; exact hsg) ?_) (.ret _)
      exact Tends.pos (by rw [decide_eq_true_eq]; simp only [List.length_singleton]; omega) (.ret _)
    · rw [if_neg h37] at ht
      obtain ⟨m', hm, rfl⟩ := Option.map_eq_some_iff.1 ht
      rw [gaps_cons]
      refine TendsL.step (x' := (s, (), ((p + 1 : Nat) : Int), out, ())) (.of fun F => ?_) (ih1 out m' (by omega) hm)
      unfold M_conciergeref22_Gaps_l0
      rw [if_pos (by rw [decide_eq_true_eq]; simp only; omega)]
      simp only [hx0, Option.bind_some, n37, decide_eq_false h37, Bool.false_eq_true, if_false, hw1]
theorem gaps22_t (s : By) (hs : s.length ≤ 1000) : Tends (fun F => M_conciergeref22_Gaps F s) (gapsT s) := by
  unfold M_conciergeref22_Gaps gapsT
  refine Tends.bind (check22_t s hs) ?_
  unfold checkT cutT
  by_cases h6 : 60 < s.length
  · rw [if_pos h6, decide_eq_false (by omega)]
    exact Tends.pos rfl (.ret _)
  rw [if_neg h6, decide_eq_true (by omega)]
  have h := cut_tok s.length s (Nat.le_refl _)
  cases hc : cutP s with
  | none => exact Tends.pos rfl (.ret _)
  | some l =>
    rw [hc] at h
    obtain ⟨h1, m, h2, h3, _⟩ := h
    refine Tends.neg (by show ¬ (!true) = true; decide) ?_
    have hl := gaps22_loop s hs s.length 0 [] m (by omega) (by omega) (by simp) (by rw [List.drop_zero]; exact h2)
    rw [List.nil_append, ← h3] at hl
    exact Tends.bind hl.run (.ret _)
/-! ### the wake -/
theorem signs_ascii : ∀ s : By, (∀ b ∈ s, b.toNat < 128) → (signs s).map (·.1) = s.map fun b => (b.toNat : Int)
  | [], h => by rw [signs_nil]; rfl
  | c :: s, h => by
    rw [signs_one c (h c (List.mem_cons_self ..)), List.map_cons, List.map_cons, signs_ascii s fun b hb => h b (List.mem_cons_of_mem _ hb)]
abbrev wkP : By := [112, 97, 105, 100, 32, 37, 123, 115, 117, 109, 125, 32, 102, 111, 114, 32, 37, 107]
abbrev wkB : By := [123, 34, 115, 117, 109, 34, 58, 53, 125]
abbrev wkE : EnT := (0, [107, 49], 0, 0, 0, 0, [], 0, 0, 0, [], [], [], wkB, ())
def wkL : List Pc := [(false, [112], ()), (false, [97], ()), (false, [105], ()), (false, [100], ()), (false, [32], ()), (true, [37, 123, 115, 117, 109, 125], ()), (false, [32], ()), (false, [102], ()), (false, [111], ()), (false, [114], ()), (false, [32], ()), (true, [37, 107], ())]
theorem wk_cut : cutP wkP = some wkL := by kernel_rfl
theorem wk_all : allP wkB = .ok (.obj [([115, 117, 109], .int 5, ())]) := by kernel_rfl
theorem wk_five : allP [53] = .ok (.int 5) := by kernel_rfl
theorem itoa_5 : Go.Lib.itoa 5 = [53] := by unfold Go.Lib.itoa; rw [if_neg (by decide)]; exact Go.Lib.decDigits_one (by decide)
theorem wk_mem : memT wkB [115, 117, 109] = [53] := by
  have hv : vP wkB = .obj [([115, 117, 109], .int 5, ())] := by unfold vP; rw [wk_all]
  have h5 : vP [53] = .int 5 := by unfold vP; rw [wk_five]
  have hl : layP 7 (.int 5) = [53] := by rw [layP_B]; exact itoa_5
  have hf : firstM [115, 117, 109] [(([115, 117, 109], .int 5, ()) : Me)] = ([53], true) := by
    unfold firstM
    rw [if_pos rfl, hl]
  have hf2 : firstM [115, 117, 109] (objL (vP wkB)) = ([53], true) := by rw [hv]; exact hf
  unfold memT
  rw [hf2, if_pos rfl]
  show (if kindP (vP [53]) = 4 then textP (vP [53]) else [53]) = _
  rw [h5]
  exact if_neg (by decide)
theorem wk_flat : flatL (valT wkE) wkL = [112, 97, 105, 100, 32, 53, 32, 102, 111, 114, 32, 107, 49] := by
  have hm : valT wkE [37, 123, 115, 117, 109, 125] = memT wkB [115, 117, 109] := rfl
  unfold wkL
  simp only [flat_cons, hm, wk_mem]
  rfl
theorem wk_fill : fillT wkP wkE = [112, 97, 105, 100, 32, 53, 32, 102, 111, 114, 32, 107, 49] := by
  unfold fillT
  rw [if_neg (by decide), wk_cut]
  simp only [wk_flat]
  rw [signs_ascii _ (by decide)]
  kernel_rfl
theorem wk_cut2 : cutP [37, 98, 37, 37] = some [(true, [37, 98], ()), (true, [37, 37], ())] := by kernel_rfl
theorem wk_cut3 : cutP [37] = none := by kernel_rfl
theorem awake22_t : Tends (fun F => M_conciergelaw22_awake F ()) true := by
  have f1 := fill_t wkP wkE (by decide) ⟨by decide, by decide, by decide, by decide⟩
  rw [wk_fill] at f1
  have f2 := gaps_v [37, 98, 37, 37] (by decide)
  have e2 : gapsT [37, 98, 37, 37] = [[37, 98], [37, 37]] := by
    unfold gapsT cutT
    rw [if_neg (by decide), wk_cut2]
    rfl
  rw [e2] at f2
  have f3 := fun F => name_eq F [115, 117, 109]
  have e3 : nmP [115, 117, 109] = true := by decide
  rw [e3] at f3
  have f4 := check_v [37] (by decide)
  have e4 : checkT [37] = false := by unfold checkT; rw [wk_cut3]; rfl
  rw [e4] at f4
  unfold M_conciergelaw22_awake
  refine Tends.bind (Tends.bind f1 (Tends.pos rfl (Tends.bind f2 (.ret _)))) ?_
  refine Tends.bind (Tends.pos rfl (Tends.bind (.of f3) (.ret _))) ?_
  exact Tends.bind (Tends.pos rfl (Tends.bind f4 (.ret _))) (.ret _)
/-! ### the law of checks -/
theorem same_loop (l : List By) (hl : l.length ≤ 1000000) : ∀ (n i : Nat), i + n = l.length → TendsL M_conciergelaw22_PhraseChecks_l0 (l, l, (l.length : Int), (i : Int), ()) (.inl ())
  | 0, i, h => by
    refine TendsL.fin (.of fun F => ?_)
    unfold M_conciergelaw22_PhraseChecks_l0
    rw [if_neg (by rw [decide_eq_true_eq]; simp only; omega)]
  | n + 1, i, h => by
    have hi : i < l.length := by omega
    have hx : idx l (i : Int) = some l[i] := idx_at _ _ _ (List.getElem?_eq_getElem hi)
    have hw : IntKind.i64.wrap ((i : Int) + 1) = ((i + 1 : Nat) : Int) := by rw [wrap64 _ (by omega) (by omega)]; omega
    refine TendsL.step (.of fun F => ?_) (same_loop l hl n (i + 1) (by omega))
    unfold M_conciergelaw22_PhraseChecks_l0
    rw [if_pos (by rw [decide_eq_true_eq]; simp only; omega)]
    simp only [hx, Option.bind_some, decide_true, Bool.not_true, Bool.false_eq_true, if_false, hw]
theorem phraseChecks_t (s : By) : Tends (fun F => M_conciergelaw22_PhraseChecks F s) true := by
  unfold M_conciergelaw22_PhraseChecks
  refine Tends.bind awake22_t ?_
  refine Tends.neg (by decide) ?_
  by_cases h5 : 100 < s.length
  · exact Tends.pos (by rw [decide_eq_true_eq]; omega) (.ret _)
  refine Tends.neg (by rw [decide_eq_true_eq]; omega) ?_
  have hs : s.length ≤ 1000 := by omega
  refine Tends.bind (gaps_v s hs) ?_
  refine Tends.bind (gaps22_t s hs) ?_
  have hgl : (gapsT s).length ≤ 1000000 := by
    unfold gapsT
    have h1 : (gapsL (cutT s).1).length ≤ (cutT s).1.length := by unfold gapsL; rw [List.length_map]; exact List.length_filter_le ..
    have hl : (cutT s).1.length ≤ 1000 := by
      unfold cutT
      split
      · exact Nat.zero_le _
      · cases hc : cutP s with
        | none => exact Nat.zero_le _
        | some l =>
          have := (cut_gaps s.length s (Nat.le_refl _) l hc).1
          show l.length ≤ 1000
          omega
    omega
  refine Tends.bind (r := ((gapsT s, gapsT s, false, ()) : List By × List By × Bool × Unit)) ?_ ?_
  · refine Tends.bind (check_v s hs) ?_
    refine Tends.bind (check22_t s hs) ?_
    refine Tends.pos (by cases checkT s <;> rfl) ?_
    refine Tends.bind (.of fun F => name_eq F s) ?_
    refine Tends.bind (name22_t s (by omega)) (.of fun F => ?_)
    cases nmP s <;> rfl
  refine Tends.bind (r := ((gapsT s, gapsT s, false, ()) : List By × List By × Bool × Unit)) (Tends.pos rfl (.of fun F => by simp)) ?_
  refine Tends.neg Bool.false_ne_true ?_
  exact Tends.bind (same_loop (gapsT s) hgl (gapsT s).length 0 (by omega)).run (.of fun F => rfl)
theorem pure_conciergelaw22_PhraseChecks (s : By) : ∃ F, M_conciergelaw22_PhraseChecks F s = some true := (phraseChecks_t s).ex
end Go.Vm
