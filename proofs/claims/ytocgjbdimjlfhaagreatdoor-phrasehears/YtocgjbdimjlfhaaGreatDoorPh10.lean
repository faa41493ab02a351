/- Phrases: what is filled hangs on what fills the gaps that are there. No condition but on lengths. -/
import Derived.Test.YtocgjbdimjlfhaaGreatDoorPh8
namespace Go.Vm
open Go.Proofs
open Go.Lib (decodeL decodeN decodeL_N decode_N decodeN_shape decodeL_le)
set_option linter.unusedVariables false
set_option linter.unusedSimpArgs false
theorem cut_gapS : ∀ (n : Nat) (s : By), s.length ≤ n → ∀ l, cutP s = some l → ∀ p ∈ l, p.1 = true → gapS p.2.1
  | 0, s, h, l, hl => by
    obtain rfl : s = [] := List.length_eq_zero_iff.1 (by omega)
    rw [cutP_nil] at hl
    cases hl
    exact fun p hp => by cases hp
  | n + 1, s, h, l, hl => by
    cases s with
    | nil =>
      rw [cutP_nil] at hl
      cases hl
      exact fun p hp => by cases hp
    | cons c r =>
      have hp := decodeL_pos (c :: r)
      have h1 := gapN_one (c :: r)
      simp only [List.length_cons] at h
      rw [cutP_cons] at hl
      split at hl
      · cases hl
      split at hl
      · rename_i h37
        subst h37
        split at hl
        · cases hl
        · rename_i hg
          obtain ⟨l', h1, rfl⟩ := Option.map_eq_some_iff.1 hl
          have i2 := cut_gapS n ((37 :: r : By).drop (gapN (37 :: r))) (by rw [List.length_drop, List.length_cons]; omega) l' h1
          intro p hp
          rcases List.mem_cons.1 hp with rfl | hp
          · exact fun _ => gap_isS r hg
          · exact i2 p hp
      · obtain ⟨l', h1, rfl⟩ := Option.map_eq_some_iff.1 hl
        have i2 := cut_gapS n ((c :: r).drop (decodeL (c :: r)).2) (by rw [List.length_drop, List.length_cons]; omega) l' h1
        intro p hp
        rcases List.mem_cons.1 hp with rfl | hp
        · exact fun hh => absurd hh Bool.false_ne_true
        · exact i2 p hp
def Mix (a b b' : EnT) : Prop := (b'.key = b.key ∨ b'.key = a.key) ∧ (b'.method = b.method ∨ b'.method = a.method) ∧ (b'.path = b.path ∨ b'.path = a.path) ∧ (b'.body = b.body ∨ b'.body = a.body)
theorem mix_val {a b b' : EnT} (h : Mix a b b') (g : By) (hg : valT a g = valT b g) : valT a g = valT b' g := by
  obtain ⟨h1, h2, h3, h4⟩ := h
  cases g with
  | nil => rfl
  | cons x r =>
    cases r with
    | nil => rfl
    | cons b q =>
      unfold valT at hg ⊢
      simp only at hg ⊢
      by_cases c1 : b = 98
      · rw [if_pos c1, if_pos c1] at hg ⊢
        rcases h4 with h | h <;> rw [h]
        exact hg
      rw [if_neg c1, if_neg c1] at hg ⊢
      by_cases c2 : b = 107
      · rw [if_pos c2, if_pos c2] at hg ⊢
        rcases h1 with h | h <;> rw [h]
        exact hg
      rw [if_neg c2, if_neg c2] at hg ⊢
      by_cases c3 : b = 109
      · rw [if_pos c3, if_pos c3] at hg ⊢
        rcases h2 with h | h <;> rw [h]
        exact hg
      rw [if_neg c3, if_neg c3] at hg ⊢
      by_cases c4 : b = 112
      · rw [if_pos c4, if_pos c4] at hg ⊢
        rcases h3 with h | h <;> rw [h]
        exact hg
      rw [if_neg c4, if_neg c4] at hg ⊢
      by_cases c5 : b = 37
      · rw [if_pos c5, if_pos c5]
      rw [if_neg c5, if_neg c5] at hg ⊢
      rcases h4 with h | h <;> rw [h]
      exact hg
def hearE (a b : EnT) (g : By) : EnT := if g = [37, 107] then (b.1, a.2.1, b.2.2)
  else if g = [37, 109] then (b.1, b.2.1, b.2.2.1, b.2.2.2.1, b.2.2.2.2.1, b.2.2.2.2.2.1, b.2.2.2.2.2.2.1, b.2.2.2.2.2.2.2.1, b.2.2.2.2.2.2.2.2.1, b.2.2.2.2.2.2.2.2.2.1, b.2.2.2.2.2.2.2.2.2.2.1, a.2.2.2.2.2.2.2.2.2.2.2.1, b.2.2.2.2.2.2.2.2.2.2.2.2.1, b.2.2.2.2.2.2.2.2.2.2.2.2.2.1, ())
  else if g = [37, 112] then (b.1, b.2.1, b.2.2.1, b.2.2.2.1, b.2.2.2.2.1, b.2.2.2.2.2.1, b.2.2.2.2.2.2.1, b.2.2.2.2.2.2.2.1, b.2.2.2.2.2.2.2.2.1, b.2.2.2.2.2.2.2.2.2.1, b.2.2.2.2.2.2.2.2.2.2.1, b.2.2.2.2.2.2.2.2.2.2.2.1, a.2.2.2.2.2.2.2.2.2.2.2.2.1, b.2.2.2.2.2.2.2.2.2.2.2.2.2.1, ())
  else if g = [37, 37] then b
  else (b.1, b.2.1, b.2.2.1, b.2.2.2.1, b.2.2.2.2.1, b.2.2.2.2.2.1, b.2.2.2.2.2.2.1, b.2.2.2.2.2.2.2.1, b.2.2.2.2.2.2.2.2.1, b.2.2.2.2.2.2.2.2.2.1, b.2.2.2.2.2.2.2.2.2.2.1, b.2.2.2.2.2.2.2.2.2.2.2.1, b.2.2.2.2.2.2.2.2.2.2.2.2.1, a.2.2.2.2.2.2.2.2.2.2.2.2.2.1, ())
theorem hear_mix (a b : EnT) (g : By) : Mix a b (hearE a b g) := by
  unfold hearE
  repeat' split
  · exact ⟨.inr rfl, .inl rfl, .inl rfl, .inl rfl⟩
  · exact ⟨.inl rfl, .inr rfl, .inl rfl, .inl rfl⟩
  · exact ⟨.inl rfl, .inl rfl, .inr rfl, .inl rfl⟩
  · exact ⟨.inl rfl, .inl rfl, .inl rfl, .inl rfl⟩
  · exact ⟨.inl rfl, .inl rfl, .inl rfl, .inr rfl⟩
theorem hear_val (a b : EnT) (g : By) (hg : gapS g) : valT a g = valT (hearE a b g) g := by
  obtain ⟨c, q, rfl, hb⟩ := hg
  unfold hearE
  rcases hb with ⟨h, rfl⟩ | ⟨rfl, hq⟩
  · rcases h with rfl | rfl | rfl | rfl | rfl <;> rfl
  · rw [if_neg (by simp), if_neg (by simp), if_neg (by simp), if_neg (by simp)]
    rfl
def hearL (a : EnT) : List By → EnT → EnT
  | [], b => b
  | g :: l, b => hearL a l (hearE a b g)
theorem hearL_keep (a : EnT) (g : By) : ∀ (l : List By) (b : EnT), valT a g = valT b g → valT a g = valT (hearL a l b) g
  | [], b, h => h
  | x :: l, b, h => hearL_keep a g l _ (mix_val (hear_mix a b x) g h)
theorem hearL_val (a : EnT) : ∀ (l : List By) (b : EnT), (∀ g ∈ l, gapS g) → ∀ g ∈ l, valT a g = valT (hearL a l b) g
  | x :: l, b, h, g, hg => by
    rcases List.mem_cons.1 hg with rfl | hg
    · exact hearL_keep a g l _ (hear_val a b g (h g (List.mem_cons_self ..)))
    · exact hearL_val a l _ (fun y hy => h y (List.mem_cons_of_mem _ hy)) g hg
theorem flat_gaps (u v : By → By) : ∀ l : List Pc, (∀ g ∈ gapsL l, u g = v g) → flatL u l = flatL v l
  | [], h => rfl
  | p :: l, h => by
    rw [gaps_cons] at h
    rw [flat_cons, flat_cons, flat_gaps u v l fun g hg => h g (List.mem_append_right _ hg)]
    by_cases hp : p.1 = true
    · rw [if_pos hp, if_pos hp, h p.2.1 (by rw [if_pos hp]; simp)]
    · rw [if_neg hp, if_neg hp]
theorem fill_hear (s : By) (a b : EnT) : fillT s a = fillT s (hearL a (gapsT s) b) := by
  unfold fillT gapsT cutT
  by_cases h6 : 60 < s.length
  · rw [if_pos h6, if_pos h6]
  rw [if_neg h6, if_neg h6, if_neg h6]
  cases hc : cutP s with
  | none => rfl
  | some l =>
    have hg := cut_gapS s.length s (Nat.le_refl _) l hc
    show outL ((signs (flatL (valT a) l)).map (·.1)) [] = outL ((signs (flatL (valT (hearL a (gapsL l) b)) l)).map (·.1)) []
    rw [flat_gaps (valT a) (valT (hearL a (gapsL l) b)) l]
    refine hearL_val a (gapsL l) b fun g hg' => ?_
    obtain ⟨p, hp, rfl⟩ := List.mem_map.1 hg'
    obtain ⟨h1, h2⟩ := List.mem_filter.1 hp
    exact hg p h1 h2
theorem hear_loop (s : By) (l : List By) (a : EnT) (hl : l.length ≤ 1000000) : ∀ (n i : Nat) (b : EnT), i + n = l.length → TendsL M_conciergelaw22_PhraseHears_l0 (s, (), (), l, (l.length : Int), (i : Int), a, b, ()) (s, (), (), a, hearL a (l.drop i) b, ())
  | 0, i, b, h => by
    refine TendsL.fin (.of fun F => ?_)
    unfold M_conciergelaw22_PhraseHears_l0
    rw [if_neg (by rw [decide_eq_true_eq]; simp only; omega), List.drop_eq_nil_of_le (by omega)]
    rfl
  | n + 1, i, b, h => by
    have hi : i < l.length := by omega
    have hx : idx l (i : Int) = some l[i] := idx_at _ _ _ (List.getElem?_eq_getElem hi)
    have hw : IntKind.i64.wrap ((i : Int) + 1) = ((i + 1 : Nat) : Int) := by rw [wrap64 _ (by omega) (by omega)]; omega
    rw [List.drop_eq_getElem_cons hi]
    have ih := hear_loop s l a hl n (i + 1) (hearE a b l[i]) (by omega)
    generalize l[i] = g at *
    refine TendsL.step (.of fun F => ?_) ih
    unfold M_conciergelaw22_PhraseHears_l0
    rw [if_pos (by rw [decide_eq_true_eq]; simp only; omega)]
    simp only [hx, Option.bind_some]
    unfold hearE
    by_cases c1 : g = [37, 107]
    · rw [if_pos c1, if_pos (decide_eq_true c1)]
      simp only [Option.bind_some, hw]
    rw [if_neg c1, if_neg (by rw [decide_eq_true_eq]; exact c1)]
    by_cases c2 : g = [37, 109]
    · rw [if_pos c2, if_pos (decide_eq_true c2)]
      simp only [Option.bind_some, hw]
    rw [if_neg c2, if_neg (by rw [decide_eq_true_eq]; exact c2)]
    by_cases c3 : g = [37, 112]
    · rw [if_pos c3, if_pos (decide_eq_true c3)]
      simp only [Option.bind_some, hw]
    rw [if_neg c3, if_neg (by rw [decide_eq_true_eq]; exact c3)]
    by_cases c4 : g = [37, 37]
    · rw [if_pos c4, if_pos (decide_eq_true c4)]
      simp only [Option.bind_some, hw]
    rw [if_neg c4, if_neg (by rw [decide_eq_true_eq]; exact c4)]
    simp only [Option.bind_some, hw]
theorem mix_len {a b b' : EnT} (h : Mix a b b') (ha : a.key.length ≤ 1000 ∧ a.method.length ≤ 1000 ∧ a.path.length ≤ 1000 ∧ a.body.length ≤ 1000) (hb : b.key.length ≤ 1000 ∧ b.method.length ≤ 1000 ∧ b.path.length ≤ 1000 ∧ b.body.length ≤ 1000) : b'.key.length ≤ 1000 ∧ b'.method.length ≤ 1000 ∧ b'.path.length ≤ 1000 ∧ b'.body.length ≤ 1000 := by
  obtain ⟨h1, h2, h3, h4⟩ := h
  refine ⟨?_, ?_, ?_, ?_⟩
  · rcases h1 with h | h <;> rw [h]
    · exact hb.1
    · exact ha.1
  · rcases h2 with h | h <;> rw [h]
    · exact hb.2.1
    · exact ha.2.1
  · rcases h3 with h | h <;> rw [h]
    · exact hb.2.2.1
    · exact ha.2.2.1
  · rcases h4 with h | h <;> rw [h]
    · exact hb.2.2.2
    · exact ha.2.2.2
theorem hearL_len (a : EnT) (ha : a.key.length ≤ 1000 ∧ a.method.length ≤ 1000 ∧ a.path.length ≤ 1000 ∧ a.body.length ≤ 1000) : ∀ (l : List By) (b : EnT), (b.key.length ≤ 1000 ∧ b.method.length ≤ 1000 ∧ b.path.length ≤ 1000 ∧ b.body.length ≤ 1000) → (hearL a l b).key.length ≤ 1000 ∧ (hearL a l b).method.length ≤ 1000 ∧ (hearL a l b).path.length ≤ 1000 ∧ (hearL a l b).body.length ≤ 1000
  | [], b, hb => hb
  | g :: l, b, hb => hearL_len a ha l _ (mix_len (hear_mix a b g) ha hb)
theorem gapsT_len (s : By) (hs : s.length ≤ 1000) : (gapsT s).length ≤ 1000000 := by
  unfold gapsT
  have h1 : (gapsL (cutT s).1).length ≤ (cutT s).1.length := by unfold gapsL; rw [List.length_map]; exact List.length_filter_le ..
  have hl : (cutT s).1.length ≤ 1000 := by
    unfold cutT
    split
    · exact Nat.zero_le _
    · cases hc : cutP s with
      | none => exact Nat.zero_le _
      | some l =>
        have := (cut_gaps s.length s (Nat.le_refl _) l hc).1
        show l.length ≤ 1000
        omega
  omega
theorem phraseHears_t (s : By) (a b : EnT) : Tends (fun F => M_conciergelaw22_PhraseHears F (s, a, b)) true := by
  unfold M_conciergelaw22_PhraseHears
  refine Tends.bind awake22_t ?_
  refine Tends.neg (by decide) ?_
  by_cases h5 : 100 < s.length
  · refine Tends.bind (r := ((s, (), (), true, a, b, ()) : By × Unit × Unit × Bool × EnT × EnT × Unit)) (Tends.neg (by rw [decide_eq_true (by simp only; omega)]; decide) (.ret _)) ?_
    exact Tends.pos rfl (.ret _)
  refine Tends.bind (r := ((s, (), (), !(smallE a && smallE b), a, b, ()) : By × Unit × Unit × Bool × EnT × EnT × Unit)) (Tends.pos (decide_eq_false (by simp only; omega)) (Tends.bind (small_t [(0, a), (0, b)] 2 (Nat.le_of_ble_eq_true rfl)) (.of fun F => by simp))) ?_
  by_cases hsm : (smallE a && smallE b) = true
  case neg =>
    have hsm' : (smallE a && smallE b) = false := by simpa using hsm
    exact Tends.pos (by simp only [hsm']; rfl) (.ret _)
  refine Tends.neg (by simp only [hsm]; decide) ?_
  rw [Bool.and_eq_true] at hsm
  have ha := small_he a hsm.1
  have hb := small_he b hsm.2
  refine Tends.bind (gaps22_t s (by omega)) ?_
  have hl := hear_loop s (gapsT s) a (gapsT_len s (by omega)) (gapsT s).length 0 b (by omega)
  rw [List.drop_zero] at hl
  refine Tends.bind hl.run ?_
  refine Tends.bind (r := ((true, ()) : Bool × Unit)) (Tends.bind (fill_t s a (by omega) ha) (Tends.bind (fill_t s (hearL a (gapsT s) b) (by omega) (hearL_len a ha _ b hb)) (.of fun F => ?_))) (.ret _)
  rw [decide_eq_true (fill_hear s a b)]
theorem pure_conciergelaw22_PhraseHears (s : By) (a b : EnT) : ∃ F, M_conciergelaw22_PhraseHears F (s, a, b) = some true := (phraseHears_t s a b).ex
end Go.Vm
