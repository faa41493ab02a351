import Derived.Test.YtihpjgcbmipdbaaGreatDoorFjnum
import Derived.Test.YtihpjgcbmipdbaaGreatDoorPj8
import Derived.Test.YtihpjgcbmipdbaaGreatDoorFphr
import Derived.Test.YtihpjgcbmipdbaaGreatDoorFref4
import Derived.Test.YtihpjgcbmipdbaaGreatDoorPh1
import Derived.Test.YtihpjgcbmipdbaaGreatDoorFr9
/- JSON: the program's strings and numbers are the plain ones. No condition but on lengths. -/
namespace Go.Vm
open Go.Lib (decodeL decodeN decodeL_N decode_N decodeN_shape decodeL_le decNat decFrom digitVal atoi)
set_option linter.unusedVariables false
set_option linter.unusedSimpArgs false
/-! ### what escapes are made of -/
theorem hexD_asc {c : UInt8} {n : Nat} (h : hexD c = some n) : c.toNat < 128 := by
 unfold hexD at h
 repeat' split at h
 all_goals first | (cases h; done) | omega
theorem hexN_asc {s : By} {n : Nat} (h : hexN s = some n) : ∀ j, j < 4 → ∃ c, s[j]? = some c ∧ c.toNat < 128 := by
 unfold hexN at h
 split at h
 ·obtain ⟨a, ha, h⟩ := Option.bind_eq_some_iff.1 h
  obtain ⟨b, hb, h⟩ := Option.bind_eq_some_iff.1 h
  obtain ⟨c, hc, h⟩ := Option.bind_eq_some_iff.1 h
  obtain ⟨d, hd, h⟩ := Option.bind_eq_some_iff.1 h
  intro j hj
  match j, hj with
  | 0, _ => exact ⟨_, rfl, hexD_asc ha⟩
  | 1, _ => exact ⟨_, rfl, hexD_asc hb⟩
  | 2, _ => exact ⟨_, rfl, hexD_asc hc⟩
  | 3, _ => exact ⟨_, rfl, hexD_asc hd⟩
 ·cases h
theorem lowP_asc {n c k : Nat} {r : By} (h : lowP n r = some (c, k)) : k = 12 ∧ ∀ j, j < 6 → ∃ c, r[j]? = some c ∧ c.toNat < 128 := by
 unfold lowP at h
 split at h
 ·rename_i q
  obtain ⟨m, hm, h⟩ := Option.bind_eq_some_iff.1 h
  have h3 := hexN_asc hm
  by_cases hc : 56320 ≤ m ∧ m ≤ 57343
  ·rw [if_pos hc] at h
   injection h with h
   injection h with h4 h5
   refine ⟨h5.symm, fun j hj => ?_⟩
   match j, hj with
   | 0, _ => exact ⟨_, rfl, by decide⟩
   | 1, _ => exact ⟨_, rfl, by decide⟩
   | j + 2, hj => exact h3 j (by omega)
  ·rw [if_neg hc] at h; cases h
 ·cases h
theorem uniP_asc {r : By} {c k : Nat} (h : uniP r = some (c, k)) : ∀ j, j + 2 < k → ∃ c, r[j]? = some c ∧ c.toNat < 128 := by
 unfold uniP at h
 obtain ⟨n, hn, h⟩ := Option.bind_eq_some_iff.1 h
 have h1 := hexN_asc hn
 by_cases c1 : n < 55296 ∨ 57343 < n
 ·rw [if_pos c1] at h
  injection h with h
  injection h with h2 h3
  intro j hj
  exact h1 j (by omega)
 rw [if_neg c1] at h
 by_cases c2 : 56320 ≤ n
 ·rw [if_pos c2] at h; cases h
 rw [if_neg c2] at h
 obtain ⟨q1, q2⟩ := lowP_asc h
 intro j hj
 by_cases hj4 : j < 4
 ·exact h1 j hj4
 ·obtain ⟨c, h5, h6⟩ := q2 (j - 4) (by omega)
  rw [List.getElem?_drop, show 4 + (j - 4) = j by omega] at h5
  exact ⟨c, h5, h6⟩
theorem escP_asc {s : By} {c k : Nat} (h : escP s = some (c, k)) : ∀ j, j + 1 < k → ∃ c, s[j]? = some c ∧ c.toNat < 128 := by
 have two : ∀ (x : UInt8) (r : By), x.toNat < 128 → k = 2 → ∀ j, j + 1 < k → ∃ c, (x :: r)[j]? = some c ∧ c.toNat < 128 := by
  intro x r hx hk j hj
  have : j = 0 := by omega
  subst this
  exact ⟨x, rfl, hx⟩
 unfold escP at h
 split at h
 ·cases h
 ·rename_i x r
  by_cases h1 : x = 34 ∨ x = 92 ∨ x = 47
  ·rw [if_pos h1] at h
   injection h with h; injection h with _ h
   exact two x r (by rcases h1 with rfl | rfl | rfl <;> decide) h.symm
  rw [if_neg h1] at h
  by_cases h2 : x = 98
  ·rw [if_pos h2] at h; injection h with h; injection h with _ h; exact two x r (by rw [h2]; decide) h.symm
  rw [if_neg h2] at h
  by_cases h3 : x = 102
  ·rw [if_pos h3] at h; injection h with h; injection h with _ h; exact two x r (by rw [h3]; decide) h.symm
  rw [if_neg h3] at h
  by_cases h4 : x = 110
  ·rw [if_pos h4] at h; injection h with h; injection h with _ h; exact two x r (by rw [h4]; decide) h.symm
  rw [if_neg h4] at h
  by_cases h5 : x = 114
  ·rw [if_pos h5] at h; injection h with h; injection h with _ h; exact two x r (by rw [h5]; decide) h.symm
  rw [if_neg h5] at h
  by_cases h6 : x = 116
  ·rw [if_pos h6] at h; injection h with h; injection h with _ h; exact two x r (by rw [h6]; decide) h.symm
  rw [if_neg h6] at h
  by_cases h7 : x = 117
  ·rw [if_pos h7] at h
   intro j hj
   cases j with
   | zero => exact ⟨x, rfl, by rw [h7]; decide⟩
   | succ j => exact uniP_asc h j (by omega)
  ·rw [if_neg h7] at h; cases h
/-! ### signs -/
theorem dec_asc {c : UInt8} (q : By) (h : c.toNat < 128) : decodeL (c :: q) = (c.toNat, 1) := by
 rw [decodeL_N]
 unfold decodeN
 simp only [List.getD_cons_zero]
 rw [if_pos h]
theorem dec_big {c : UInt8} (q : By) (h : ¬ c.toNat < 128) : 128 ≤ (decodeL (c :: q)).1 := by
 rw [decodeL_N]
 rcases decodeN_shape (c :: q).length ((c :: q).getD 0 0).toNat ((c :: q).getD 1 0).toNat ((c :: q).getD 2 0).toNat ((c :: q).getD 3 0).toNat with ⟨h0, e⟩ | ⟨_, _, _, h1, e⟩ | ⟨_, _, _, _, h1, _, e⟩ | ⟨_, _, _, _, _, h1, _, e⟩ | e
 ·exact absurd h0 h
 ·rw [e]; exact h1
 ·rw [e]; exact Nat.le_trans (by decide) h1
 ·rw [e]; exact Nat.le_trans (by decide) h1
 ·rw [e]; exact (by decide : 128 ≤ 65533)
theorem runeLen_N (F c : Nat) (h : okR c) : M_unicode_utf8_RuneLen F (c : Int) = some ((encN c).length : Int) := by
 obtain ⟨h1, h2⟩ := h
 have gen : ∀ (A B C D E : Int) (n : Int), (if decide (n < 0) = true then some (-1) else if decide (n ≤ A) = true then some 1 else if decide (n ≤ B) = true then some 2 else (if decide (C ≤ n) = true then some (n, decide (n ≤ D), ()) else some (n, false, ()) : Option (Int × Bool × Unit)).bind fun v0 => if v0.2.1 = true then some (-1) else if decide (v0.1 ≤ E) = true then some 3 else if decide (v0.1 ≤ 1114111) = true then some 4 else some (-1 : Int)) =
   if n < 0 then some (-1) else if n ≤ A then some 1 else if n ≤ B then some 2 else if C ≤ n ∧ n ≤ D then some (-1) else if n ≤ E then some 3 else if n ≤ 1114111 then some 4 else some (-1) := by
  intro A B C D E n
  by_cases q1 : n < 0 <;> by_cases q2 : n ≤ A <;> by_cases q3 : n ≤ B <;> by_cases q4 : C ≤ n <;> by_cases q5 : n ≤ D <;> by_cases q6 : n ≤ E <;> simp only [q1, q2, q3, q4, q5, q6, decide_true, decide_false, if_true, if_false, Bool.false_eq_true, Option.bind_some, and_self, and_true, and_false, false_and, true_and, decide_eq_true_eq]
 refine (gen 127 2047 55296 57343 65535 (c : Int)).trans ?_
 rw [if_neg (by omega)]
 unfold encN
 by_cases c1 : c < 128
 ·rw [if_pos (by omega), if_pos c1]; rfl
 rw [if_neg (by omega), if_neg c1]
 by_cases c2 : c < 2048
 ·rw [if_pos (by omega), if_pos c2]; rfl
 rw [if_neg (by omega), if_neg c2, if_neg (by omega)]
 by_cases c3 : c < 65536
 ·rw [if_pos (by omega), if_pos c3]; rfl
 rw [if_neg (by omega), if_neg c3, if_pos (by omega)]; rfl
theorem fffd (q : By) (hne : q ≠ []) (h : (decodeL q).1 = 65533) : decide (q.take 3 = [239, 191, 189]) = !decide ((decodeL q).2 = 1) := by
 have e : encN 65533 = [239, 191, 189] := by decide
 by_cases h1 : (decodeL q).2 = 1
 ·have : ¬ q.take 3 = [239, 191, 189] := by
   intro hh
   have hq : q = encN 65533 ++ q.drop 3 := by rw [e, ← hh, List.take_append_drop]
   have := dec_encN 65533 (by decide) (q.drop 3)
   rw [← hq] at this
   rw [this] at h1
   exact absurd h1 (by decide)
  rw [decide_eq_false this, decide_eq_true h1]; rfl
 ·have ht := take_encN q hne (fun hh => h1 hh.2)
  rw [h, e] at ht
  have hl := congrArg List.length ht
  have hle := decodeL_le q hne
  rw [List.length_take, Nat.min_eq_left hle] at hl
  rw [hl] at ht
  rw [decide_eq_true (show q.take 3 = [239, 191, 189] from ht), decide_eq_false h1]; rfl
/-! ### strings -/
abbrev TS := Unit × By × Unit × Int × Unit × (By × Nat) × RS × (Unit × Unit × Unit) × By × Unit
def tS (R : By) (b : Int) (i : Nat) (rs : RS) (out : By) : TS := ((), R, (), b, (), (R, i), rs, ((), (), ()), out, ())
abbrev TY := Unit × RS × Unit ⊕ Unit × By × RS × Unit
def tR (s : By) (a : Int) (k e : Int) (out q : By) : TY := match txt q with
 | some (t, q') => .inr ((), out ++ t, st s q' k e, ())
 | none => .inl ((), (s, a, k, e, ()), ())
theorem text_skip (F : Nat) (R : By) (b : Int) (i : Nat) (s : By) (a k e : Int) (out : By) (h1 : i < R.length) (h2 : (i : Int) < b) : M_json_reader_text_l0 F (tS R b i (s, a, k, e, ()) out) = some (.inl (tS R b (i + runeLen R i) (s, a, k, e, ()) out)) := by
 unfold M_json_reader_text_l0 tS
 simp only [h1, h2, decide_true, if_true]
theorem text_skips (R : By) (s : By) (a k e : Int) (out : By) (y : TY) : ∀ (n i : Nat), i + n ≤ R.length → (∀ j, i ≤ j → j < i + n → ∃ c, R[j]? = some c ∧ c.toNat < 128) → TendsL M_json_reader_text_l0 (tS R ((i + n : Nat) : Int) (i + n) (s, a, k, e, ()) out) y → TendsL M_json_reader_text_l0 (tS R ((i + n : Nat) : Int) i (s, a, k, e, ()) out) y
 | 0, i, _, _, h => h
 | n + 1, i, hl, ha, h => by
  have ih := text_skips R s a k e out y n (i + 1) (by omega) (fun j h1 h2 => ha j (by omega) (by omega)) (by rw [show i + 1 + n = i + (n + 1) by omega]; exact h)
  rw [show i + 1 + n = i + (n + 1) by omega] at ih
  refine TendsL.step (.of fun F => text_skip F R _ i s a k e out (by omega) (by omega)) ?_
  obtain ⟨c, hc, hc2⟩ := ha i (Nat.le_refl _) (by omega)
  have hd : R.drop i = c :: R.drop (i + 1) := by
   obtain ⟨h5, h6⟩ := List.getElem?_eq_some_iff.1 hc
   rw [List.drop_eq_getElem_cons h5, h6]
  rw [runeLen_eq, hd, dec_asc _ hc2]
  exact ih
theorem text_loop (s R : By) (hR : R <:+ s) (hs : s.length ≤ 1000) (k e : Int) (a : Nat) (ha : s.length = R.length + a + 1) :
  ∀ (n i : Nat) (out : By), R.length - i ≤ n → i ≤ R.length → out.length ≤ 4 * i → TendsL M_json_reader_text_l0 (tS R (i : Int) i (s, (a : Int), k, e, ()) out) (tR s a k e out (R.drop i)) := by
 intro n
 induction n with
 | zero =>
  intro i out hn hi ho
  have : i = R.length := by omega
  subst this
  refine TendsL.fin (.of fun F => ?_)
  unfold M_json_reader_text_l0 tS tR
  rw [List.drop_length, txt_nil]
  simp
 | succ n ih =>
  intro i out hn hi ho
  by_cases hlt : i < R.length
  case neg =>
   have : i = R.length := by omega
   subst this
   refine TendsL.fin (.of fun F => ?_)
   unfold M_json_reader_text_l0 tS tR
   rw [List.drop_length, txt_nil]
   simp
  obtain ⟨c, q, hq⟩ : ∃ c q, R.drop i = c :: q := ⟨_, _, List.drop_eq_getElem_cons hlt⟩
  have hql : q.length + 1 = R.length - i := by have := congrArg List.length hq; simp at this; omega
  have hqs : c :: q <:+ s := hq ▸ (List.drop_suffix i R).trans hR
  have hnb : ¬ (i : Int) < (i : Int) := by omega
  have hra : runeAt R i = ((decodeL (c :: q)).1 : Int) := by rw [runeAt_eq, hq]
  have hrl : runeLen R i = (decodeL (c :: q)).2 := by rw [runeLen_eq, hq]
  have hok := rune_ok (c :: q)
  have hsub : sub R (i : Int) (R.length : Int) = some (c :: q) := by rw [sub_to_end R i hi, hq]
  rw [hq]
  by_cases c1 : c = 34
  ·subst c1
   have hd := dec_asc (c := 34) q (by decide)
   refine TendsL.fin (.of fun F => ?_)
   unfold tR
   rw [txt_cons, if_pos rfl]
   unfold M_json_reader_text_l0 tS
   have hv : runeAt R i = 34 := by rw [hra, hd]; rfl
   have hrn := runeLen_N F 34 (by decide)
   have hrn' : M_unicode_utf8_RuneLen F 34 = some ((encN 34).length : Int) := hrn
   simp only [hlt, decide_true, if_true, hnb, decide_false, Bool.false_eq_true, if_false, hv, hrn', Option.bind_some, M_strings_Builder_String, sumC_inr, List.append_nil]
   have hp : IntKind.i64.wrap ((a : Int) + IntKind.i64.wrap ((i : Int) + 2)) = ((s.length - q.length : Nat) : Int) := by
    rw [wrap64 ((i : Int) + 2) (by omega) (by omega), wrap64 _ (by omega) (by omega)]
    omega
   rw [hp]
   rfl
  by_cases c2 : c = 92
  ·subst c2
   have hd := dec_asc (c := 92) q (by decide)
   have hv : runeAt R i = 92 := by rw [hra, hd]; rfl
   have hl1 : runeLen R i = 1 := by rw [hrl, hd]
   have hrn := fun F => runeLen_N F 92 (by decide)
   have hrn' : ∀ F, M_unicode_utf8_RuneLen F 92 = some ((encN 92).length : Int) := hrn
   have hesc := escape_t q
   unfold escR at hesc
   unfold tR
   rw [txt_cons, if_neg (by decide), if_pos rfl]
   cases he : escP q with
   | none =>
    rw [he, outP_none] at hesc
    refine TendsL.fin ?_
    unfold M_json_reader_text_l0 tS
    simp only [hlt, decide_true, if_true, hnb, decide_false, Bool.false_eq_true, if_false, hv, hrn', Option.bind_some, hsub]
    have : ¬ (92 : Int) = 34 := by decide
    simp only [this, decide_false, Bool.false_eq_true, if_false]
    refine Tends.bind (hesc.bind (.ret _)) ?_
    exact .ret _
   | some x =>
    obtain ⟨n', k'⟩ := x
    rw [he, outP_some] at hesc
    obtain ⟨q1, q2, q3, q4⟩ := escP_ok he
    have hasc := escP_asc he
    have hk0 : ¬ (k' : Int) = 0 := by omega
    have hw : ∀ F, ∃ m, M_strings_Builder_WriteRune F (((), out, ()), (n' : Int)) = some ((m, ()), (), out ++ enc8 (n' : Int), ()) := fun F => write_eq F n' q1 out (by omega)
    rw [Option.bind_some]
    refine TendsL.step (x' := tS R ((i + 1 + (k' - 1) : Nat) : Int) (i + 1) (s, (a : Int), k, e, ()) (out ++ encN n')) ?_ ?_
    ·unfold M_json_reader_text_l0 tS
     simp only [hlt, decide_true, if_true, hnb, decide_false, Bool.false_eq_true, if_false, hv, hrn', Option.bind_some, hsub]
     have : ¬ (92 : Int) = 34 := by decide
     simp only [this, decide_false, Bool.false_eq_true, if_false]
     refine Tends.bind (hesc.bind (.ret _)) ?_
     refine .of fun F => ?_
     obtain ⟨m, hm⟩ := hw F
     simp only [sumC_inl, hk0, decide_false, Bool.false_eq_true, if_false, hm, Option.bind_some, hl1, enc8_val n' q1]
     rw [wrap64 _ (by omega) (by omega)]
     congr 7
     omega
    ·have hskip := text_skips R s a k e (out ++ encN n') (match (txt ((92 :: q).drop k')).map fun y => (encN n' ++ y.1, y.2) with
      | some (t, q') => .inr ((), out ++ t, st s q' k e, ())
      | none => .inl ((), (s, (a : Int), k, e, ()), ())) (k' - 1) (i + 1) (by omega) (fun j h1 h2 => ?_) ?_
     ·exact hskip
     ·obtain ⟨c, h5, h6⟩ := hasc (j - (i + 1)) (by omega)
      refine ⟨c, ?_, h6⟩
      have : (R.drop i)[j - i]? = some c := by
       rw [hq, show j - i = (j - (i + 1)) + 1 by omega]
       exact h5
      rw [List.getElem?_drop, show i + (j - i) = j by omega] at this
      exact this
     ·have hel := encN_len n'
      have := ih (i + 1 + (k' - 1)) (out ++ encN n') (by omega) (by omega) (by rw [List.length_append]; omega)
      have e1 : R.drop (i + 1 + (k' - 1)) = (92 :: q).drop k' := by
       rw [show i + 1 + (k' - 1) = i + k' by omega, ← List.drop_drop, hq]
      rw [e1] at this
      unfold tR at this
      cases ht : txt ((92 :: q).drop k') with
      | none => rw [ht] at this; exact this
      | some y => rw [ht] at this; simp only [List.append_assoc] at this; exact this
  ·-- a sign
   have hpos := decodeL_pos (c :: q)
   have hle := decodeL_le (c :: q) (by simp)
   have n34 : ¬ ((decodeL (c :: q)).1 : Int) = 34 := by
    by_cases hc : c.toNat < 128
    ·rw [dec_asc q hc]
     intro hh
     exact c1 (UInt8.toNat_inj.1 (show c.toNat = 34 by simp only at hh; omega))
    ·have := dec_big q hc; omega
   have n92 : ¬ ((decodeL (c :: q)).1 : Int) = 92 := by
    by_cases hc : c.toNat < 128
    ·rw [dec_asc q hc]
     intro hh
     exact c2 (UInt8.toNat_inj.1 (show c.toNat = 92 by simp only at hh; omega))
    ·have := dec_big q hc; omega
   unfold tR
   rw [txt_cons, if_neg c1, if_neg c2]
   have hrn := fun F => runeLen_N F _ hok
   have hw : ∀ F, ∃ m, M_strings_Builder_WriteRune F (((), out, ()), ((decodeL (c :: q)).1 : Int)) = some ((m, ()), (), out ++ enc8 ((decodeL (c :: q)).1 : Int), ()) := fun F => write_eq F _ hok out (by omega)
   rw [enc8_val _ hok] at hw
   have hencp := encN_pos (decodeL (c :: q)).1
   have hff := fffd (c :: q) (by simp)
   have hle' := hle
   rw [List.length_cons] at hle'
   have hten := take_encN (c :: q) (by simp)
   generalize hD1 : (decodeL (c :: q)).1 = D1 at *
   generalize hD2 : (decodeL (c :: q)).2 = D2 at *
   generalize hFF : (65533 : Nat) = FF at *
   have hFFi : (65533 : Int) = (FF : Int) := by rw [← hFF]; rfl
   have hlen3 : ([239, 191, 189] : By).length = 3 := rfl
   by_cases b1 : D1 < 32
   ·have b1' : (D1 : Int) < 32 := by omega
    rw [if_pos (.inl b1)]
    refine TendsL.fin (.of fun F => ?_)
    unfold M_json_reader_text_l0 tS
    simp only [hlt, decide_true, if_true, hnb, decide_false, Bool.false_eq_true, if_false, hra, hrn, Option.bind_some, n34, n92, b1', Bool.true_eq_false, sumC_inl]
   have b1' : ¬ (D1 : Int) < 32 := by omega
   have stepOk : (D1 = FF → ¬ D2 = 1) → TendsL M_json_reader_text_l0 (tS R (i : Int) i (s, (a : Int), k, e, ()) out) (match (txt ((c :: q).drop D2)).map fun y => ((c :: q).take D2 ++ y.1, y.2) with
     | some (t, q') => .inr ((), out ++ t, st s q' k e, ())
     | none => .inl ((), (s, (a : Int), k, e, ()), ())) := by
    intro hgood
    have ht := hten (fun hh => hgood hh.1 hh.2)
    have hlD : (encN D1).length = D2 := by rw [← ht, List.length_take, Nat.min_eq_left hle]
    rw [hlD] at hrn
    refine TendsL.step (x' := tS R ((i + D2 : Nat) : Int) (i + D2) (s, (a : Int), k, e, ()) (out ++ encN D1)) (.of fun F => ?_) ?_
    ·obtain ⟨m, hm⟩ := hw F
     unfold M_json_reader_text_l0 tS
     have hD0 : ¬ (D2 : Int) = 0 := by omega
     by_cases b2 : D1 = FF
     ·have b2' : (D1 : Int) = (FF : Int) := by rw [b2]
      have h3 := hff b2
      rw [decide_eq_false (hgood b2)] at h3
      simp only [hlt, decide_true, if_true, hnb, decide_false, Bool.false_eq_true, if_false, hra, hrl, hrn, Option.bind_some, n34, n92, b1', hFFi, decide_eq_true b2', hsub, hasP_eq, hlen3, h3, Bool.not_false, Bool.not_true, sumC_inl, hD0, hm]
      rw [wrap64 _ (by omega) (by omega)]
      rfl
     ·have b2' : ¬ (D1 : Int) = (FF : Int) := by omega
      simp only [hlt, decide_true, if_true, hnb, decide_false, Bool.false_eq_true, if_false, hra, hrl, hrn, Option.bind_some, n34, n92, b1', hFFi, decide_eq_false b2', sumC_inl, hD0, hm]
      rw [wrap64 _ (by omega) (by omega)]
      rfl
    ·have hel := encN_len D1
     simp only [List.length_cons] at hle
     have := ih (i + D2) (out ++ encN D1) (by omega) (by omega) (by rw [List.length_append]; omega)
     have e1 : R.drop (i + D2) = (c :: q).drop D2 := by rw [← List.drop_drop, hq]
     rw [e1] at this
     rw [ht]
     unfold tR at this
     cases hx : txt ((c :: q).drop D2) with
     | none => rw [hx] at this; exact this
     | some y => rw [hx] at this; simp only [List.append_assoc] at this; exact this
   by_cases b2 : D1 = FF ∧ D2 = 1
   ·rw [if_pos (.inr b2)]
    obtain ⟨b2, b3⟩ := b2
    have b2' : (D1 : Int) = (FF : Int) := by rw [b2]
    have h3 := hff b2
    rw [decide_eq_true b3] at h3
    refine TendsL.fin (.of fun F => ?_)
    unfold M_json_reader_text_l0 tS
    simp only [hlt, decide_true, if_true, hnb, decide_false, Bool.false_eq_true, if_false, hra, hrl, hrn, Option.bind_some, n34, n92, b1', hFFi, decide_eq_true b2', hsub, hasP_eq, hlen3, h3, Bool.not_false, Bool.not_true, sumC_inl]
   ·rw [if_neg (fun hh => hh.elim b1 b2)]
    exact stepOk (fun h1 h2 => b2 ⟨h1, h2⟩)
theorem text_t (s r : By) (h : 34 :: r <:+ s) (hs : s.length ≤ 1000) (k e : Int) : Tends (fun F => M_json_reader_text F (st s (34 :: r) k e)) (match txt r with
  | some (t, q) => (t, st s q k e)
  | none => ([], st s (34 :: r) k (if e = 0 then 3 else e))) := by
 have hl := suf_len h
 simp only [List.length_cons] at hl
 have hr : r <:+ s := tail_suf h
 have hloop := text_loop s r hr hs k e (s.length - (r.length + 1)) (by omega) r.length 0 [] (by omega) (by omega) (by simp)
 unfold M_json_reader_text
 have hsub : sub s (IntKind.i64.wrap (((s.length - (34 :: r).length : Nat) : Int) + 1)) (s.length : Int) = some r := by rw [next_suf h hs, sub_suf hr]
 unfold st
 simp only [hsub, Option.bind_some]
 refine Tends.bind hloop.run ?_
 unfold tR
 rw [List.drop_zero]
 cases ht : txt r with
 | none =>
  refine .of fun F => ?_
  simp only [sumC_inl, fail_eq, Option.bind_some, List.length_cons]
 | some y =>
  refine .of fun F => ?_
  simp only [sumC_inr, st, List.nil_append]
/-! ### numbers -/
theorem atoi_digs {l : By} (h : ∀ c ∈ l, isDig c = true) (hne : l ≠ []) : decNat l = some (valD l) := by
 have main : ∀ (l : By) (n : Nat), (∀ c ∈ l, isDig c = true) → decFrom n l = some (l.foldl (fun n c => n * 10 + (c.toNat - 48)) n) := by
  intro l
  induction l with
  | nil => intro n _; rfl
  | cons c l ih =>
   intro n hd
   have hc := hd c (List.mem_cons_self ..)
   have hv : digitVal c = some (c.toNat - 48) := by
    unfold digitVal
    simp [isDig] at hc
    rw [if_pos ⟨hc.1, hc.2⟩]
   unfold decFrom
   rw [hv]
   exact ih _ (fun x hx => hd x (List.mem_cons_of_mem _ hx))
 unfold decNat valD
 rw [main l 0 h]
 cases l with
 | nil => exact absurd rfl hne
 | cons c l => rfl
theorem num_step (F : Nat) (s : By) (a k e : Int) (c : UInt8) (q : By) (hq : c :: q <:+ s) (hs : s.length ≤ 1000) (hd : isDig c = true) (f : Nat) (c0 : UInt8) (hf : idx s (f : Int) = some c0) (hfl : f ≤ s.length - (c :: q).length) (hcnt : s.length - (c :: q).length - f < 15) :
  M_json_reader_number_l0 F ((), ((s.length - (c :: q).length : Nat) : Int), (f : Int), (s, a, k, e, ()), ()) = some (if c0 = 48 then .inr ((), ((s.length - q.length : Nat) : Int), (s, a, k, e, ()), ()) else .inl ((), ((s.length - q.length : Nat) : Int), (f : Int), (s, a, k, e, ()), ())) := by
 simp [isDig] at hd
 have d1 : (48 : Int) ≤ (c.toNat : Int) := by omega
 have d2 : (c.toNat : Int) ≤ 57 := by omega
 have e1 := at_in hq
 have e2 := idx_suf hq
 have e3 := next_suf hq hs
 have hl := suf_len hq
 have d3 : IntKind.i64.wrap (((s.length - (c :: q).length : Nat) : Int) - (f : Int)) < 15 := by rw [wrap64 _ (by omega) (by omega)]; omega
 unfold M_json_reader_number_l0
 simp only [e1, decide_true, if_true, e2, Option.bind_some, d1, d2, d3, hf, e3]
 by_cases hc : c0 = 48
 ·subst hc
  rfl
 ·have : ¬ (c0.toNat : Int) = 48 := by
   intro hh
   exact hc (UInt8.toNat_inj.1 (show c0.toNat = 48 by omega))
  simp only [this, decide_false, Bool.false_eq_true, if_false, hc]
theorem num_stop (F : Nat) (s : By) (a k e : Int) (x : By) (hx : x <:+ s) (hs : s.length ≤ 1000) (f : Nat) (hfl : f ≤ s.length - x.length) (h : x = [] ∨ (∃ c q, x = c :: q ∧ isDig c = false) ∨ 15 ≤ s.length - x.length - f) :
  M_json_reader_number_l0 F ((), ((s.length - x.length : Nat) : Int), (f : Int), (s, a, k, e, ()), ()) = some (.inr ((), ((s.length - x.length : Nat) : Int), (s, a, k, e, ()), ())) := by
 have hl := suf_len hx
 unfold M_json_reader_number_l0
 cases x with
 | nil =>
  have : ¬ ((s.length - ([] : By).length : Nat) : Int) < (s.length : Int) := at_end
  simp only [this, decide_false, Bool.false_eq_true, if_false, Option.bind_some]
 | cons c q =>
  have e1 := at_in hx
  have e2 := idx_suf hx
  by_cases hd : isDig c = true
  ·simp [isDig] at hd
   have d1 : (48 : Int) ≤ (c.toNat : Int) := by omega
   have d2 : (c.toNat : Int) ≤ 57 := by omega
   have h15 : 15 ≤ s.length - (c :: q).length - f := by
    rcases h with h | ⟨c', q', h, h'⟩ | h
    ·cases h
    ·injection h with h1 h2; subst h1; simp [isDig] at h'; omega
    ·exact h
   have d3 : ¬ IntKind.i64.wrap (((s.length - (c :: q).length : Nat) : Int) - (f : Int)) < 15 := by rw [wrap64 _ (by omega) (by omega)]; omega
   simp only [e1, decide_true, if_true, e2, Option.bind_some, d1, d2, d3, decide_false, Bool.false_eq_true, if_false]
  ·simp [isDig] at hd
   by_cases d1 : 48 ≤ c.toNat
   ·have d1' : (48 : Int) ≤ (c.toNat : Int) := by omega
    have d2 : ¬ (c.toNat : Int) ≤ 57 := by have := hd d1; omega
    simp only [e1, decide_true, if_true, e2, Option.bind_some, d1', d2, decide_false, Bool.false_eq_true, if_false]
   ·have d1' : ¬ (48 : Int) ≤ (c.toNat : Int) := by omega
    simp only [e1, decide_true, if_true, e2, Option.bind_some, d1', decide_false, Bool.false_eq_true, if_false]
theorem num_more (s : By) (hs : s.length ≤ 1000) (a k e : Int) (f : Nat) (c0 : UInt8) (hf : idx s (f : Int) = some c0) (h48 : c0 ≠ 48) : ∀ (n : Nat) (x : By), x <:+ s → x.length ≤ n → f ≤ s.length - x.length → s.length - x.length - f ≤ 15 →
  TendsL M_json_reader_number_l0 ((), ((s.length - x.length : Nat) : Int), (f : Int), (s, a, k, e, ()), ()) ((), ((s.length - (x.drop ((x.takeWhile isDig).take (15 - (s.length - x.length - f))).length).length : Nat) : Int), (s, a, k, e, ()), ()) := by
 intro n
 induction n with
 | zero =>
  intro x hx hn hfl h15
  have : x = [] := List.length_eq_zero_iff.1 (by omega)
  subst this
  exact TendsL.fin (.of fun F => (num_stop F s a k e [] hx hs f hfl (.inl rfl)).trans (by simp))
 | succ n ih =>
  intro x hx hn hfl h15
  cases x with
  | nil => exact TendsL.fin (.of fun F => (num_stop F s a k e [] hx hs f hfl (.inl rfl)).trans (by simp))
  | cons c q =>
   have hl := suf_len hx
   simp only [List.length_cons] at hl hn
   by_cases hd : isDig c = true
   ·by_cases hc : s.length - (c :: q).length - f < 15
    ·have i2 := ih q (tail_suf hx) (by omega) (by simp only [List.length_cons] at hfl; omega) (by simp only [List.length_cons] at hc; omega)
     refine TendsL.step (.of fun F => (num_step F s a k e c q hx hs hd f c0 hf hfl hc).trans (by rw [if_neg h48])) ?_
     have e1 : 15 - (s.length - (c :: q).length - f) = (15 - (s.length - q.length - f)) + 1 := by simp only [List.length_cons] at hc hfl ⊢; omega
     rw [List.takeWhile_cons_of_pos hd, e1, List.take_succ_cons, List.length_cons, List.drop_succ_cons]
     exact i2
    ·have : 15 - (s.length - (c :: q).length - f) = 0 := by omega
     rw [this, List.take_zero, List.length_nil, List.drop_zero]
     exact TendsL.fin (.of fun F => num_stop F s a k e _ hx hs f hfl (.inr (.inr (by omega))))
   ·have hd' : isDig c = false := by simpa using hd
    rw [List.takeWhile_cons_of_neg hd, List.take_nil, List.length_nil, List.drop_zero]
    exact TendsL.fin (.of fun F => num_stop F s a k e _ hx hs f hfl (.inr (.inl ⟨c, q, rfl, hd'⟩)))
theorem num_loop (s : By) (hs : s.length ≤ 1000) (a k e : Int) (x : By) (hx : x <:+ s) :
  TendsL M_json_reader_number_l0 ((), ((s.length - x.length : Nat) : Int), ((s.length - x.length : Nat) : Int), (s, a, k, e, ()), ()) ((), ((s.length - (x.drop (digs x).length).length : Nat) : Int), (s, a, k, e, ()), ()) := by
 cases x with
 | nil => exact TendsL.fin (.of fun F => num_stop F s a k e [] hx hs _ (Nat.le_refl _) (.inl rfl))
 | cons c q =>
  have hf := idx_suf hx
  by_cases hd : isDig c = true
  ·by_cases hc : c = 48
   ·subst hc
    refine TendsL.fin (.of fun F => (num_step F s a k e 48 q hx hs hd _ 48 hf (Nat.le_refl _) (by omega)).trans ?_)
    rw [if_pos rfl]
    rfl
   ·have := num_more s hs a k e _ c hf hc _ (c :: q) hx (Nat.le_refl _) (Nat.le_refl _) (by omega)
    unfold digs
    simp only
    rw [if_neg hc]
    rw [Nat.sub_self, Nat.sub_zero] at this
    exact this
  ·have hd' : isDig c = false := by simpa using hd
   have hc : c ≠ 48 := by rintro rfl; exact hd (by decide)
   unfold digs
   simp only
   rw [if_neg hc, List.takeWhile_cons_of_neg hd]
   exact TendsL.fin (.of fun F => num_stop F s a k e _ hx hs _ (Nat.le_refl _) (.inr (.inl ⟨c, q, rfl, hd'⟩)))
theorem sub_mid {s r : By} (h : r <:+ s) (m : Nat) (hm : m ≤ r.length) : sub s ((s.length - r.length : Nat) : Int) ((s.length - (r.length - m) : Nat) : Int) = some (r.take m) := by
 have hl := suf_len h
 rw [sub_nat s _ _ (by omega) (by omega)]
 obtain ⟨t, rfl⟩ := h
 have e1 : (t ++ r).length - r.length = t.length := by simp
 rw [e1, List.drop_left' rfl]
 congr 2
 simp
 omega
theorem number_t (s q : By) (c : UInt8) (h : c :: q <:+ s) (hs : s.length ≤ 1000) (k : Int) (hc : c = 45 ∨ isDig c = true) : Tends (fun F => M_json_reader_number F (st s (c :: q) k 0)) (match numP (c :: q) with
  | some (n, r) => (.int n, st s r k 0)
  | none => (.nil, st s (c :: q) k 3)) := by
 have hl := suf_len h
 simp only [List.length_cons] at hl
 have fin : ∀ (a : By) (n : Option Int) (y : By), Go.Lib.atoi a = n → a.length ≤ 18 → Tends (fun F => (M_strconv_Atoi F a).bind fun v11 => some ((), ((s.length - y.length : Nat) : Int), v11.1, v11.2, ((s, ((s.length - (c :: q).length : Nat) : Int), k, 0, ()) : RS), ())) (match n with
   | some n => ((), ((s.length - y.length : Nat) : Int), n, false, (s, ((s.length - (c :: q).length : Nat) : Int), k, 0, ()), ())
   | none => ((), ((s.length - y.length : Nat) : Int), 0, true, (s, ((s.length - (c :: q).length : Nat) : Int), k, 0, ()), ())) := by
  intro a n y ha hla
  refine .of fun F => ?_
  unfold M_strconv_Atoi MAtoi
  rw [if_pos (by simpa using hla), ha, Option.bind_some]
  cases n <;> rfl
 unfold M_json_reader_number
 have e1 := idx_suf h
 unfold st
 simp only [e1, Option.bind_some]
 by_cases c45 : c = 45
 ·subst c45
  have e3 := next_suf h hs
  have e4 : (((45 : UInt8).toNat : Int)) = 45 := rfl
  simp only [e4, decide_true, if_true, e3, Option.bind_some]
  refine Tends.bind (num_loop s hs _ k 0 q (tail_suf h)).run ?_
  have hdl := digs_len q
  have hsub := sub_mid h ((digs q).length + 1) (by simp only [List.length_cons]; omega)
  have e5 : (45 :: q).length - ((digs q).length + 1) = (q.drop (digs q).length).length := by simp only [List.length_cons, List.length_drop]; omega
  rw [e5] at hsub
  have htk : (45 :: q).take ((digs q).length + 1) = 45 :: digs q := by rw [List.take_succ_cons, ← digs_prefix q]
  rw [htk] at hsub
  simp only [hsub, Option.bind_some]
  unfold numP
  simp only [if_true]
  by_cases hne : digs q = []
  ·rw [if_pos hne]
   have hat : Go.Lib.atoi (45 :: digs q) = none := by rw [hne]; rfl
   refine Tends.bind (fin _ _ (q.drop (digs q).length) hat (by simp; omega)) ?_
   refine .of fun F => ?_
   simp only [Bool.not_true, Bool.not_false, if_true, fail_eq, Option.bind_some]
  ·rw [if_neg hne]
   have hat : Go.Lib.atoi (45 :: digs q) = some (-(valD (digs q) : Int)) := by
    show (if ((45 : UInt8) == 45) = true then Option.map (fun m : Nat => -(m : Int)) (decNat (digs q)) else if ((45 : UInt8) == 43) = true then Option.map (fun m : Nat => (m : Int)) (decNat (digs q)) else Option.map (fun m : Nat => (m : Int)) (decNat (45 :: digs q))) = _
    rw [if_pos (by decide), atoi_digs (digs_dig q) hne]
    rfl
   refine Tends.bind (fin _ _ (q.drop (digs q).length) hat (by simp; omega)) ?_
   exact .of fun F => rfl
 ·have hd : isDig c = true := hc.resolve_left c45
  have n45 : ¬ (c.toNat : Int) = 45 := by
   intro hh
   exact c45 (UInt8.toNat_inj.1 (show c.toNat = 45 by omega))
  simp only [n45, decide_false, Bool.false_eq_true, if_false, Option.bind_some]
  refine Tends.bind (num_loop s hs _ k 0 (c :: q) h).run ?_
  have hdl := digs_len (c :: q)
  have hsub := sub_mid h (digs (c :: q)).length hdl.2
  have e5 : (c :: q).length - (digs (c :: q)).length = ((c :: q).drop (digs (c :: q)).length).length := by simp
  rw [e5, ← digs_prefix (c :: q)] at hsub
  simp only [hsub, Option.bind_some]
  unfold numP
  simp only
  rw [if_neg c45]
  have hne : digs (c :: q) ≠ [] := by
   unfold digs
   simp only
   split
   ·simp
   ·rw [List.takeWhile_cons_of_pos hd]; simp
  rw [if_neg hne]
  obtain ⟨x, l, hxl⟩ : ∃ x l, digs (c :: q) = x :: l := by
   cases hh : digs (c :: q) with
   | nil => exact absurd hh hne
   | cons x l => exact ⟨x, l, rfl⟩
  have hxd : isDig x = true := digs_dig (c :: q) x (by rw [hxl]; exact List.mem_cons_self ..)
  have hat : Go.Lib.atoi (digs (c :: q)) = some (valD (digs (c :: q)) : Int) := by
   have hdn := atoi_digs (digs_dig (c :: q)) hne
   rw [hxl] at hdn ⊢
   show (if (x == 45) = true then Option.map (fun m : Nat => -(m : Int)) (decNat l) else if (x == 43) = true then Option.map (fun m : Nat => (m : Int)) (decNat l) else Option.map (fun m : Nat => (m : Int)) (decNat (x :: l))) = _
   rw [if_neg (by rw [beq_iff_eq]; rintro rfl; exact absurd hxd (by decide)), if_neg (by rw [beq_iff_eq]; rintro rfl; exact absurd hxd (by decide)), hdn]
   rfl
  refine Tends.bind (fin _ _ ((c :: q).drop (digs (c :: q)).length) hat (by omega)) ?_
  exact .of fun F => rfl
end Go.Vm
/- Phrases: the program's names, gaps, pieces are the plain ones. No condition but on lengths. -/
namespace Go.Vm
open Go.Lib (decodeL decodeN decodeL_N decode_N decodeN_shape decodeL_le)
set_option linter.unusedVariables false
set_option linter.unusedSimpArgs false
/-! ### names -/
theorem dw_nil (p : UInt8 → Bool) : ∀ l : By, l.dropWhile p = [] ↔ ∀ x ∈ l, p x = true
 | [] => by simp
 | c :: l => by
  by_cases h : p c = true
  ·rw [List.dropWhile_cons_of_pos h, dw_nil p l]
   simp [h]
  ·rw [List.dropWhile_cons_of_neg h]
   simp [h]
theorem trimS_nil (l cs : By) : Go.Lib.trimS l cs = [] ↔ l.all (fun c => cs.contains c) = true := by
 unfold Go.Lib.trimS Go.Lib.trimLeftS Go.Lib.trimRightS
 rw [List.all_eq_true]
 constructor
 ·intro h
  rw [dw_nil] at h
  have hn : l.reverse.dropWhile (fun c => cs.contains c) = [] := by
   cases hx : l.reverse.dropWhile (fun c => cs.contains c) with
   | nil => rfl
   | cons y t =>
    have hne : l.reverse.dropWhile (fun c => cs.contains c) ≠ [] := by rw [hx]; simp
    have h1 := List.head_dropWhile_not (fun c => cs.contains c) hne
    simp only [hx, List.head_cons] at h1
    have h2 := h y (by rw [hx]; simp)
    rw [h1] at h2
    cases h2
  rw [dw_nil] at hn
  intro x hx
  exact hn x (by simpa using hx)
 ·intro h
  have : l.reverse.dropWhile (fun c => cs.contains c) = [] := by
   rw [dw_nil]
   intro x hx
   exact h x (by simpa using hx)
  rw [this]
  rfl
abbrev nmS : By := [97, 98, 99, 100, 101, 102, 103, 104, 105, 106, 107, 108, 109, 110, 111, 112, 113, 114, 115, 116, 117, 118, 119, 120, 121, 122, 48, 49, 50, 51, 52, 53, 54, 55, 56, 57]
theorem nm_tab : ∀ c : Fin 256, nmS.contains (UInt8.ofNat c.val) = isNm (UInt8.ofNat c.val) := by decide +kernel
theorem nm_at (c : UInt8) : nmS.contains c = isNm c := by
 have := nm_tab ⟨c.toNat, c.toNat_lt⟩
 simpa using this
theorem name_eq (F : Nat) (x : By) : M_phrase_Name F x = some (nmP x) := by
 unfold M_phrase_Name nmP
 by_cases h0 : x = []
 ·subst h0; rfl
 ·have hpos := List.length_pos_iff.2 h0
  rw [decide_eq_false h0]
  by_cases h12 : x.length ≤ 12
  ·have h12' : (x.length : Int) ≤ 12 := by omega
   have ht : M_strings_Trim F (x, nmS) = some (Go.Lib.trimS x nmS) := by
    unfold M_strings_Trim MTrim
    rw [if_pos (by rw [decide_eq_true_eq]; simp only; omega), if_pos (by show decide (nmS.length ≤ 4294967280) = true; decide), if_pos (by show (nmS.all fun b => decide (b.toNat < 128)) = true; decide)]
   simp only [Bool.not_false, if_true, decide_eq_true h12', Option.bind_some, ht]
   rw [decide_eq_true (show 1 ≤ x.length from hpos), decide_eq_true h12, Bool.and_true, Bool.and_true]
   congr 1
   rw [Bool.eq_iff_iff, decide_eq_true_eq, trimS_nil]
   have : (fun c => nmS.contains c) = isNm := funext nm_at
   rw [this]
  ·have h12' : ¬ (x.length : Int) ≤ 12 := by omega
   simp only [Bool.not_false, if_true, decide_eq_false h12', Option.bind_some, Bool.false_eq_true, if_false, decide_eq_false h12, Bool.and_false]
/-! ### gaps -/
theorem gap_tab : ∀ c : Fin 256, (M_strings_IndexByte 0 (([37, 98, 107, 109, 112] : By), ((c.val : Nat) : Int))).map (fun i => decide (0 ≤ i)) = some (decide (UInt8.ofNat c.val = 37 ∨ UInt8.ofNat c.val = 98 ∨ UInt8.ofNat c.val = 107 ∨ UInt8.ofNat c.val = 109 ∨ UInt8.ofNat c.val = 112)) := by decide +kernel
theorem gap_at (F : Nat) (c : UInt8) : ∃ i, M_strings_IndexByte F (([37, 98, 107, 109, 112] : By), (c.toNat : Int)) = some i ∧ decide (0 ≤ i) = decide (c = 37 ∨ c = 98 ∨ c = 107 ∨ c = 109 ∨ c = 112) := by
 have h := gap_tab ⟨c.toNat, c.toNat_lt⟩
 have h' : (M_strings_IndexByte F (([37, 98, 107, 109, 112] : By), (c.toNat : Int))).map (fun i => decide (0 ≤ i)) = _ := h
 obtain ⟨i, h1, h2⟩ := Option.map_eq_some_iff.1 h'
 refine ⟨i, h1, ?_⟩
 rw [h2]
 simp
theorem idx125 : ∀ q : By, Go.Lib.indexByte q 125 = if (q.takeWhile (fun c => c != 125)).length < q.length then ((q.takeWhile (fun c => c != 125)).length : Int) else -1
 | [] => rfl
 | c :: q => by
  have ih := idx125 q
  unfold Go.Lib.indexByte
  by_cases hc : c = 125
  ·subst hc
   rw [if_pos (by decide), List.takeWhile_cons_of_neg (by decide), if_pos (by simp)]
   rfl
  ·rw [if_neg (by simpa using hc), List.takeWhile_cons_of_pos (by simpa using hc), List.length_cons, List.length_cons]
   by_cases hl : (q.takeWhile (fun c => c != 125)).length < q.length
   ·have e : Go.Lib.indexByte q 125 = ((q.takeWhile (fun c => c != 125)).length : Int) := by rw [ih, if_pos hl]
    rw [e, if_neg (by simp), if_pos (by omega)]
    rfl
   ·have e : Go.Lib.indexByte q 125 = -1 := by rw [ih, if_neg hl]
    rw [e, if_pos (by decide), if_neg (by omega)]
theorem byte125 (F : Nat) (x : By) : M_strings_IndexByte F (x, 125) = some (Go.Lib.indexByte x 125) := rfl
theorem gap_eq (F : Nat) (r : By) (hr : r.length ≤ 1000) : M_phrase_gap F (37 :: r) = some ((37 :: r : By).take (gapN (37 :: r))) := by
 unfold M_phrase_gap
 cases r with
 | nil => rfl
 | cons b q =>
  have h2 : ¬ (((37 :: b :: q : By).length : Nat) : Int) < 2 := by simp; omega
  have hi : idx (37 :: b :: q : By) 1 = some b := idx_at _ 1 _ rfl
  obtain ⟨i, g1, g2⟩ := gap_at F b
  rw [if_neg (by rw [decide_eq_true_eq]; exact h2), hi, Option.bind_some, g1, Option.bind_some, g2]
  unfold gapN
  simp only
  by_cases hc : b = 37 ∨ b = 98 ∨ b = 107 ∨ b = 109 ∨ b = 112
  ·rw [if_pos (decide_eq_true hc), if_pos hc]
   have hs := sub_nat (37 :: b :: q : By) 0 2 (by decide) (by simp)
   have hs' : sub (37 :: b :: q : By) 0 2 = some ((37 :: b :: q : By).take 2) := hs
   rw [hs', Option.bind_some]
  ·rw [if_neg (by rw [decide_eq_true_eq]; exact hc), if_neg hc]
   have n123 := nv b 123
   rw [show ((123 : UInt8).toNat : Int) = 123 from rfl] at n123
   simp only [byte125, Option.bind_some, n123]
   by_cases hb : b = 123
   ·subst hb
    have e : Go.Lib.indexByte (37 :: 123 :: q) 125 = if (q.takeWhile (fun c => c != 125)).length < q.length then (((q.takeWhile (fun c => c != 125)).length + 2 : Nat) : Int) else -1 := by
     rw [idx125, List.takeWhile_cons_of_pos (by decide), List.takeWhile_cons_of_pos (by decide)]
     simp only [List.length_cons]
     by_cases hl : (q.takeWhile (fun c => c != 125)).length < q.length
     ·rw [if_pos hl, if_pos (by omega)]
     ·rw [if_neg hl, if_neg (by omega)]
    rw [e]
    rw [if_pos rfl]
    by_cases hl : (q.takeWhile (fun c => c != 125)).length < q.length
    ·rw [if_pos hl]
     have hneg : ¬ (((q.takeWhile (fun c => c != 125)).length + 2 : Nat) : Int) < 0 := by omega
     have hs : sub (37 :: 123 :: q : By) 2 (((q.takeWhile (fun c => c != 125)).length + 2 : Nat) : Int) = some (q.takeWhile (fun c => c != 125)) := by
      have := sub_nat (37 :: 123 :: q : By) 2 ((q.takeWhile (fun c => c != 125)).length + 2) (by omega) (by simp; omega)
      refine (this : _ = _).trans ?_
      rw [show (37 :: 123 :: q : By).drop 2 = q from rfl, Nat.add_sub_cancel]
      congr 1
      conv => rhs; rw [← List.take_length (l := q.takeWhile (fun c => c != 125))]
      exact (congrArg (List.take _) (List.takeWhile_append_dropWhile (p := fun c => c != 125) (l := q)).symm).trans (List.take_append_of_le_length (Nat.le_refl _))
     simp only [decide_true, Bool.not_true, if_true, decide_eq_false hneg, Option.bind_some, hs, name_eq]
     by_cases hn : nmP (q.takeWhile (fun c => c != 125)) = true
     ·have hg : (if (q.takeWhile (fun c => c != 125)).length < q.length ∧ nmP (q.takeWhile (fun c => c != 125)) = true then (q.takeWhile (fun c => c != 125)).length + 3 else 0) = (q.takeWhile (fun c => c != 125)).length + 3 := if_pos ⟨hl, hn⟩
      rw [hg, hn]
      have hs2 : sub (37 :: 123 :: q : By) 0 (IntKind.i64.wrap ((((q.takeWhile (fun c => c != 125)).length + 2 : Nat) : Int) + 1)) = some ((37 :: 123 :: q : By).take ((q.takeWhile (fun c => c != 125)).length + 3)) := by
       have h3 : IntKind.i64.wrap ((((q.takeWhile (fun c => c != 125)).length + 2 : Nat) : Int) + 1) = (((q.takeWhile (fun c => c != 125)).length + 3 : Nat) : Int) := by
        simp only [List.length_cons] at hr
        rw [wrap64 _ (by omega) (by omega)]
        omega
       rw [h3]
       have := sub_nat (37 :: 123 :: q : By) 0 ((q.takeWhile (fun c => c != 125)).length + 3) (by omega) (by simp; omega)
       rw [List.drop_zero, Nat.sub_zero] at this
       exact this
      simp only [Bool.not_true, Bool.false_eq_true, if_false, hs2, Option.bind_some]
     ·have hn' : nmP (q.takeWhile (fun c => c != 125)) = false := by simpa using hn
      have hg : (if (q.takeWhile (fun c => c != 125)).length < q.length ∧ nmP (q.takeWhile (fun c => c != 125)) = true then (q.takeWhile (fun c => c != 125)).length + 3 else 0) = 0 := if_neg (fun hh => hn hh.2)
      rw [hg, hn']
      rfl
    ·have hg : (if (q.takeWhile (fun c => c != 125)).length < q.length ∧ nmP (q.takeWhile (fun c => c != 125)) = true then (q.takeWhile (fun c => c != 125)).length + 3 else 0) = 0 := if_neg (fun hh => hl hh.1)
     rw [hg, if_neg hl]
     rfl
   ·rw [if_neg hb, decide_eq_false hb]
    rfl
where
 nv (c k : UInt8) : ((c.toNat : Int) = (k.toNat : Int)) = (c = k) := by
  apply propext
  constructor
  ·intro hh; exact UInt8.toNat_inj.1 (by omega)
  ·intro hh; rw [hh]
/-! ### pieces -/
abbrev CS := By × Unit × Int × Unit × (By × Nat) × List Pc × Unit
def cS (s : By) (b : Int) (p : Nat) (out : List Pc) : CS := (s, (), b, (), (s, p), out, ())
theorem cut_skip (F : Nat) (s : By) (b : Int) (p : Nat) (out : List Pc) (h : p < s.length) (hb : (p : Int) < b) : M_phrase_cut_l0 F (cS s b p out) = some (.inl (cS s b (p + runeLen s p) out)) := by
 unfold M_phrase_cut_l0 cS
 rw [if_pos (by rw [decide_eq_true_eq]; exact h), if_pos (by rw [decide_eq_true_eq]; exact hb)]
theorem cut_skips (s : By) (out : List Pc) (y : Unit × List Pc × Unit ⊕ Unit × Bool × List Pc × Unit) : ∀ (n p : Nat), p + n ≤ s.length → (∀ b ∈ (s.drop p).take n, plnB b) → TendsL M_phrase_cut_l0 (cS s ((p + n : Nat) : Int) (p + n) out) y → TendsL M_phrase_cut_l0 (cS s ((p + n : Nat) : Int) p out) y
 | 0, p, h, hb, hy => hy
 | n + 1, p, h, hb, hy => by
  have hp : p < s.length := by omega
  have hd : s.drop p = s[p] :: s.drop (p + 1) := List.drop_eq_getElem_cons hp
  have hpl : plnB s[p] := hb s[p] (by rw [hd, List.take_succ_cons]; exact List.mem_cons_self ..)
  have hrl : runeLen s p = 1 := by rw [runeLen_eq, hd, dec_one _ (by have := hpl.2; omega)]
  have e : p + (n + 1) = p + 1 + n := by omega
  rw [e] at hy ⊢
  refine TendsL.step (.of fun F => cut_skip F s _ p out hp (by omega)) ?_
  rw [hrl]
  exact cut_skips s out y n (p + 1) (by omega) (fun b hb' => hb b (by rw [hd, List.take_succ_cons]; exact List.mem_cons_of_mem _ hb')) hy
def cutR (out : List Pc) (x : Option (List Pc)) : Unit × List Pc × Unit ⊕ Unit × Bool × List Pc × Unit := match x with
 | some l => .inl ((), out ++ l, ())
 | none => .inr ((), false, [], ())
theorem cut_loop (s : By) (hs : s.length ≤ 1000) : ∀ (n p : Nat) (b : Int) (out : List Pc), p ≤ s.length → s.length - p ≤ n → b ≤ (p : Int) → out.length + (s.length - p) ≤ 1000 → TendsL M_phrase_cut_l0 (cS s b p out) (cutR out (cutP (s.drop p))) := by
 intro n
 induction n with
 | zero =>
  intro p b out hp hn hb ho
  rw [List.drop_eq_nil_of_le (by omega), cutP_nil]
  refine TendsL.fin (.of fun F => ?_)
  unfold M_phrase_cut_l0 cS
  rw [if_neg (by rw [decide_eq_true_eq]; simp only; omega)]
  show _ = some (Sum.inr (Sum.inl ((), out ++ [], ())))
  rw [List.append_nil]
 | succ n ih =>
  intro p b out hp hn hb ho
  by_cases hlt : p < s.length
  case neg =>
   rw [List.drop_eq_nil_of_le (by omega), cutP_nil]
   refine TendsL.fin (.of fun F => ?_)
   unfold M_phrase_cut_l0 cS
   rw [if_neg (by rw [decide_eq_true_eq]; exact hlt)]
   show _ = some (Sum.inr (Sum.inl ((), out ++ [], ())))
   rw [List.append_nil]
  have hd : s.drop p = s[p] :: s.drop (p + 1) := List.drop_eq_getElem_cons hlt
  have hra := runeAt_eq s p
  have hrl := runeLen_eq s p
  have hnb : ¬ (p : Int) < b := by omega
  have hlen : (s.drop p).length = s.length - p := List.length_drop
  rw [hd] at hra hrl hlen ⊢
  rw [cutP_cons]
  generalize hr : s.drop (p + 1) = r at *
  generalize hc : s[p] = c at *
  have hle := decodeL_le (c :: r) (by simp)
  have hpos := decodeL_pos (c :: r)
  have hok := rune_ok (c :: r)
  by_cases hs0 : sortI ((decodeL (c :: r)).1 : Int) = 0
  ·rw [if_pos hs0]
   refine TendsL.fin (.of fun F => ?_)
   unfold M_phrase_cut_l0 cS
   rw [if_pos (by rw [decide_eq_true_eq]; exact hlt), if_neg (by rw [decide_eq_true_eq]; exact hnb)]
   simp only [hra, sort_eq, Option.bind_some, hs0]
   rfl
  rw [if_neg hs0]
  have hbad : ¬ ((decodeL (c :: r)).1 = 65533 ∧ (decodeL (c :: r)).2 = 1) := by
   rintro ⟨h1, _⟩
   rw [h1] at hs0
   exact hs0 (by decide)
  have hten := take_encN (c :: r) (by simp) hbad
  have hel : (encN (decodeL (c :: r)).1).length = (decodeL (c :: r)).2 := by rw [← hten, List.length_take]; omega
  have hrn := fun F => runeLen_N F _ hok
  have hsub : ∀ m : Nat, m ≤ (c :: r : By).length → sub s (p : Int) (IntKind.i64.wrap ((p : Int) + (m : Int))) = some ((c :: r).take m) := by
   intro m hm
   have hw : IntKind.i64.wrap ((p : Int) + (m : Int)) = ((p + m : Nat) : Int) := by rw [wrap64 _ (by omega) (by omega)]; omega
   rw [hw, sub_nat s p (p + m) (by omega) (by omega), hd, Nat.add_sub_cancel_left]
  have hsub1 := hsub (decodeL (c :: r)).2 hle
  have hpm : p + (decodeL (c :: r)).2 ≤ s.length := by omega
  have hdd : ∀ m, (c :: r : By).drop m = s.drop (p + m) := by
   intro m
   rw [← List.drop_drop, hd]
  by_cases h37 : c = 37
  ·rw [if_pos h37]
   subst h37
   have hd1 : decodeL (37 :: r) = (37, 1) := dec_one 37 (by decide) r
   have hse : sub s (p : Int) (s.length : Int) = some (37 :: r) := by rw [sub_to_end s p (by omega), hd]
   have hgp := fun F => gap_eq F r (by simp only [List.length_cons] at hlen; omega)
   have hgle := gapN_le (37 :: r)
   have hra' : runeAt s p = 37 := by rw [hra, hd1]; rfl
   have hrl' : runeLen s p = 1 := by rw [hrl, hd1]
   have hs37 : decide (sortI 37 = 0) = false := by decide
   have hrn37 : ∀ F, M_unicode_utf8_RuneLen F 37 = some 1 := fun F => rfl
   have hsub37 : sub s (p : Int) (IntKind.i64.wrap ((p : Int) + 1)) = some [37] := hsub 1 (by simp)
   by_cases hg : gapN (37 :: r) = 0
   ·rw [if_pos hg]
    refine TendsL.fin (.of fun F => ?_)
    have hgp' := hgp F
    rw [hg, List.take_zero] at hgp'
    unfold M_phrase_cut_l0 cS
    rw [if_pos (by rw [decide_eq_true_eq]; exact hlt), if_neg (by rw [decide_eq_true_eq]; exact hnb)]
    simp only [hra', hrl', sort_eq, Option.bind_some, hs37, Bool.false_eq_true, if_false, hrn37, hsub37, decide_true, if_true, hse, hgp']
    rfl
   ·rw [if_neg hg]
    have hgl : ((37 :: r : By).take (gapN (37 :: r))).length = gapN (37 :: r) := by rw [List.length_take]; omega
    have hgne : ¬ (37 :: r : By).take (gapN (37 :: r)) = [] := by
     intro hh
     rw [hh] at hgl
     exact hg hgl.symm
    have hw : IntKind.i64.wrap ((p : Int) + (gapN (37 :: r) : Int)) = ((p + gapN (37 :: r) : Nat) : Int) := by rw [wrap64 _ (by omega) (by omega)]; omega
    have h1 := gapN_one (37 :: r)
    refine TendsL.step (x' := cS s ((p + gapN (37 :: r) : Nat) : Int) (p + 1) (out ++ [(true, (37 :: r : By).take (gapN (37 :: r)), ())])) (.of fun F => ?_) ?_
    ·unfold M_phrase_cut_l0 cS
     rw [if_pos (by rw [decide_eq_true_eq]; exact hlt), if_neg (by rw [decide_eq_true_eq]; exact hnb)]
     simp only [hra', hrl', sort_eq, Option.bind_some, hs37, Bool.false_eq_true, if_false, hrn37, hsub37, decide_true, if_true, hse, hgp F, decide_eq_false hgne, sumC_inl, hgl, hw]
     rw [if_pos (by rw [decide_eq_true_eq]; simp only [List.length_singleton]; omega)]
    ·have hsk := cut_skips s (out ++ [(true, (37 :: r : By).take (gapN (37 :: r)), ())]) (cutR out ((cutP ((37 :: r : By).drop (gapN (37 :: r)))).map fun l => (true, (37 :: r : By).take (gapN (37 :: r)), ()) :: l)) (gapN (37 :: r) - 1) (p + 1) (by omega) ?_ ?_
     ·rw [show p + 1 + (gapN (37 :: r) - 1) = p + gapN (37 :: r) by omega] at hsk
      exact hsk
     ·intro b hb'
      refine gapN_bytes r b ?_
      rw [hr] at hb'
      obtain ⟨k, hk⟩ : ∃ k, gapN (37 :: r) = k + 1 := ⟨gapN (37 :: r) - 1, by omega⟩
      rw [hk] at hb' ⊢
      rw [List.take_succ_cons]
      exact List.mem_cons_of_mem _ hb'
     ·rw [show p + 1 + (gapN (37 :: r) - 1) = p + gapN (37 :: r) by omega]
      have := ih (p + gapN (37 :: r)) ((p + gapN (37 :: r) : Nat) : Int) (out ++ [(true, (37 :: r : By).take (gapN (37 :: r)), ())]) (by omega) (by omega) (by omega) (by rw [List.length_append, List.length_singleton]; omega)
      rw [← hdd] at this
      cases hx : cutP ((37 :: r : By).drop (gapN (37 :: r))) with
      | none => rw [hx] at this; exact this
      | some l =>
       rw [hx] at this
       unfold cutR at this ⊢
       simp only [Option.map_some] at this ⊢
       rw [List.append_assoc] at this
       exact this
  ·rw [if_neg h37]
   have hn37 : ¬ ((decodeL (c :: r)).1 : Int) = 37 := by
    intro hh
    have h1 : (decodeL (c :: r)).1 = 37 := by omega
    rw [h1] at hten
    have e : encN 37 = [37] := rfl
    obtain ⟨k, hk⟩ : ∃ k, (decodeL (c :: r)).2 = k + 1 := ⟨(decodeL (c :: r)).2 - 1, by omega⟩
    rw [e, hk, List.take_succ_cons] at hten
    injection hten with h2 _
    exact h37 h2
   have htl : ((c :: r).take (decodeL (c :: r)).2).length = (decodeL (c :: r)).2 := by rw [List.length_take]; omega
   have hw : IntKind.i64.wrap ((p : Int) + ((decodeL (c :: r)).2 : Int)) = ((p + (decodeL (c :: r)).2 : Nat) : Int) := by rw [wrap64 _ (by omega) (by omega)]; omega
   rw [hw] at hsub1
   refine TendsL.step (x' := cS s ((p + (decodeL (c :: r)).2 : Nat) : Int) (p + (decodeL (c :: r)).2) (out ++ [(false, (c :: r).take (decodeL (c :: r)).2, ())])) (.of fun F => ?_) ?_
   ·unfold M_phrase_cut_l0 cS
    rw [if_pos (by rw [decide_eq_true_eq]; exact hlt), if_neg (by rw [decide_eq_true_eq]; exact hnb)]
    simp only [hra, hrl, sort_eq, Option.bind_some, decide_eq_false hs0, Bool.false_eq_true, if_false, hrn F, hel, hsub1, decide_eq_false hn37, sumC_inl, htl, hw]
    rw [if_pos (by rw [decide_eq_true_eq]; simp only [List.length_singleton]; omega)]
   ·have := ih (p + (decodeL (c :: r)).2) ((p + (decodeL (c :: r)).2 : Nat) : Int) (out ++ [(false, (c :: r).take (decodeL (c :: r)).2, ())]) hpm (by omega) (by omega) (by rw [List.length_append, List.length_singleton]; omega)
    rw [← hdd] at this
    cases hx : cutP ((c :: r).drop (decodeL (c :: r)).2) with
    | none => rw [hx] at this; exact this
    | some l =>
     rw [hx] at this
     unfold cutR at this ⊢
     simp only [Option.map_some] at this ⊢
     rw [List.append_assoc] at this
     exact this
def cutT (s : By) : List Pc × Bool := if 60 < s.length then ([], false) else match cutP s with
 | some l => (l, true)
 | none => ([], false)
theorem cut_t (s : By) (hs : s.length ≤ 1000) : Tends (fun F => M_phrase_cut F s) (cutT s) := by
 unfold M_phrase_cut cutT
 by_cases h6 : 60 < s.length
 ·rw [if_pos h6]
  exact Tends.pos (by rw [decide_eq_true_eq]; omega) (.ret _)
 ·rw [if_neg h6]
  refine Tends.neg (by rw [decide_eq_true_eq]; omega) ?_
  have h := cut_loop s hs s.length 0 0 [] (by omega) (by omega) (by decide) (by simp; omega)
  rw [List.drop_zero] at h
  refine Tends.bind h.run ?_
  cases cutP s with
  | none => exact .of fun F => rfl
  | some l => exact .of fun F => rfl
end Go.Vm
/- The document's first sign and a sign's bytes, plainly. No condition but on lengths. -/
namespace Go.Vm
open Go.Lib (decodeL decodeN decodeL_N decode_N decodeN_shape decodeL_le)
set_option linter.unusedVariables false
set_option linter.unusedSimpArgs false
theorem tail_eq (F : Nat) (l : List UInt8) (k : Nat) : M_conciergeref04_tail F (l, (k : Int)) = some (decide (k < l.length ∧ 128 ≤ (l.getD k 0).toNat ∧ (l.getD k 0).toNat < 192)) := by
 unfold M_conciergeref04_tail
 simp only [idx_lit]
 by_cases h : k < l.length
 ·have h' : (k : Int) < (l.length : Int) := by omega
  simp only [idx_lit, h, h', decide_true, if_true, Option.bind_some, true_and, some_ite, prod_ite, ite_self, Bool.if_false_right]
  rw [Option.some.injEq, Bool.eq_iff_iff]
  simp
  omega
 ·have h' : ¬ (k : Int) < (l.length : Int) := by omega
  simp [h, h']
set_option maxHeartbeats 1000000 in
theorem first_eq (F : Nat) (l : List UInt8) (hn : l ≠ []) : M_conciergeref04_First F l = some (((decodeL l).1 : Int), ((decodeL l).2 : Int)) := by
 have h0 : 0 < l.length := List.length_pos_iff.2 hn
 have k0 := (l.getD 0 0).toNat_lt
 have k1 := (l.getD 1 0).toNat_lt
 have k2 := (l.getD 2 0).toNat_lt
 have k3 := (l.getD 3 0).toNat_lt
 have t1 := tail_eq F l 1
 have t2 := tail_eq F l 2
 have t3 := tail_eq F l 3
 have i0 := idx_lit l 0
 have i1 := idx_lit l 1
 have i2 := idx_lit l 2
 have i3 := idx_lit l 3
 simp only [Int.cast_ofNat_Int] at t1 t2 t3 i0 i1 i2 i3
 rw [decodeL_N]
 unfold M_conciergeref04_First
 generalize hc0 : l.getD 0 0 = c0 at *
 generalize hc1 : l.getD 1 0 = c1 at *
 generalize hc2 : l.getD 2 0 = c2 at *
 generalize hc3 : l.getD 3 0 = c3 at *
 clear hc0 hc1 hc2 hc3
 simp only [i0, if_pos h0, Option.bind_some]
 simp (disch := omega) only [wrap64]
 rcases decodeN_shape l.length c0.toNat c1.toNat c2.toNat c3.toNat with ⟨p1, e⟩ | ⟨p1, p2, p3, p4, e⟩ | ⟨p1, p2, p3, p4, p5, p6, e⟩ | ⟨p1, p2, p3, p4, p5, p6, p7, e⟩ | e
 ·rw [e]
  have q1 : (c0.toNat : Int) < 128 := by omega
  simp only [t1, t2, t3, some_ite, prod_ite, ite_self, Option.bind_some, Option.bind_none, Bool.if_false_right, Bool.if_false_left, sumC_ite, sumC_inl, sumC_inr, decide_true, decide_false, if_true, if_false, Bool.and_true, Bool.true_and, Bool.and_false, Bool.false_and, Bool.false_eq_true, true_and, and_true, false_and, and_false, decide_eq_true_eq, q1]
  rfl
 ·rw [e]
  have q1 : ¬ (c0.toNat : Int) < 128 := by omega
  have q2 : (194 : Int) ≤ (c0.toNat : Int) := by omega
  have q3 : (c0.toNat : Int) < 224 := by omega
  have q4 : 128 ≤ c1.toNat := by omega
  have q5 : c1.toNat < 192 := by omega
  simp only [t1, t2, t3, some_ite, prod_ite, ite_self, Option.bind_some, Option.bind_none, Bool.if_false_right, Bool.if_false_left, sumC_ite, sumC_inl, sumC_inr, decide_true, decide_false, if_true, if_false, Bool.and_true, Bool.true_and, Bool.and_false, Bool.false_and, Bool.false_eq_true, true_and, and_true, false_and, and_false, decide_eq_true_eq, q1, q2, q3, q4, q5, p2, i1]
  simp (disch := omega) only [wrap64]
  simp only [Option.some.injEq, Prod.mk.injEq]
  omega
 ·rw [e]
  have q1 : ¬ (c0.toNat : Int) < 128 := by omega
  have q2 : (194 : Int) ≤ (c0.toNat : Int) := by omega
  have q3 : ¬ (c0.toNat : Int) < 224 := by omega
  have q6 : (224 : Int) ≤ (c0.toNat : Int) := by omega
  have q7 : (c0.toNat : Int) < 240 := by omega
  have q4 : 128 ≤ c1.toNat := by omega
  have q5 : c1.toNat < 192 := by omega
  have q8 : 128 ≤ c2.toNat := by omega
  have q9 : c2.toNat < 192 := by omega
  have q0 : 1 < l.length := by omega
  simp only [t1, t2, t3, some_ite, prod_ite, ite_self, Option.bind_some, Option.bind_none, Bool.if_false_right, Bool.if_false_left, sumC_ite, sumC_inl, sumC_inr, decide_true, decide_false, if_true, if_false, Bool.and_true, Bool.true_and, Bool.and_false, Bool.false_and, Bool.false_eq_true, true_and, and_true, false_and, and_false, decide_eq_true_eq, q1, q2, q3, q4, q5, q6, q7, q8, q9, q0, p2, i1, i2]
  simp (disch := omega) only [wrap64]
  have r1 : (2048 : Int) ≤ ((c0.toNat : Int) - 224) * 4096 + ((c1.toNat : Int) - 128) * 64 + (c2.toNat : Int) - 128 := by omega
  by_cases r2 : ((c0.toNat : Int) - 224) * 4096 + ((c1.toNat : Int) - 128) * 64 + (c2.toNat : Int) - 128 < 55296
  ·simp only [t1, t2, t3, some_ite, prod_ite, ite_self, Option.bind_some, Option.bind_none, Bool.if_false_right, Bool.if_false_left, sumC_ite, sumC_inl, sumC_inr, decide_true, decide_false, if_true, if_false, Bool.and_true, Bool.true_and, Bool.and_false, Bool.false_and, Bool.false_eq_true, true_and, and_true, false_and, and_false, decide_eq_true_eq, r1, r2, Bool.true_eq_false]
   simp only [Option.some.injEq, Prod.mk.injEq]
   omega
  ·have r3 : (57343 : Int) < ((c0.toNat : Int) - 224) * 4096 + ((c1.toNat : Int) - 128) * 64 + (c2.toNat : Int) - 128 := by omega
   simp only [t1, t2, t3, some_ite, prod_ite, ite_self, Option.bind_some, Option.bind_none, Bool.if_false_right, Bool.if_false_left, sumC_ite, sumC_inl, sumC_inr, decide_true, decide_false, if_true, if_false, Bool.and_true, Bool.true_and, Bool.and_false, Bool.false_and, Bool.false_eq_true, true_and, and_true, false_and, and_false, decide_eq_true_eq, r1, r2, r3]
   simp only [Option.some.injEq, Prod.mk.injEq]
   omega
 ·rw [e]
  have q1 : ¬ (c0.toNat : Int) < 128 := by omega
  have q2 : (194 : Int) ≤ (c0.toNat : Int) := by omega
  have q3 : ¬ (c0.toNat : Int) < 224 := by omega
  have q6 : (224 : Int) ≤ (c0.toNat : Int) := by omega
  have q7 : ¬ (c0.toNat : Int) < 240 := by omega
  have qa : (240 : Int) ≤ (c0.toNat : Int) := by omega
  have qb : (c0.toNat : Int) < 245 := by omega
  have q4 : 128 ≤ c1.toNat := by omega
  have q5 : c1.toNat < 192 := by omega
  have q8 : 128 ≤ c2.toNat := by omega
  have q9 : c2.toNat < 192 := by omega
  have qc : 128 ≤ c3.toNat := by omega
  have qd : c3.toNat < 192 := by omega
  have q0 : 1 < l.length := by omega
  have qe : 2 < l.length := by omega
  simp only [t1, t2, t3, some_ite, prod_ite, ite_self, Option.bind_some, Option.bind_none, Bool.if_false_right, Bool.if_false_left, sumC_ite, sumC_inl, sumC_inr, decide_true, decide_false, if_true, if_false, Bool.and_true, Bool.true_and, Bool.and_false, Bool.false_and, Bool.false_eq_true, true_and, and_true, false_and, and_false, decide_eq_true_eq, q1, q2, q3, q4, q5, q6, q7, q8, q9, q0, qa, qb, qc, qd, qe, p2, i1, i2, i3]
  simp (disch := omega) only [wrap64]
  have r1 : (65536 : Int) ≤ ((c0.toNat : Int) - 240) * 262144 + ((c1.toNat : Int) - 128) * 4096 + ((c2.toNat : Int) - 128) * 64 + (c3.toNat : Int) - 128 := by omega
  have r2 : ((c0.toNat : Int) - 240) * 262144 + ((c1.toNat : Int) - 128) * 4096 + ((c2.toNat : Int) - 128) * 64 + (c3.toNat : Int) - 128 ≤ 1114111 := by omega
  simp only [t1, t2, t3, some_ite, prod_ite, ite_self, Option.bind_some, Option.bind_none, Bool.if_false_right, Bool.if_false_left, sumC_ite, sumC_inl, sumC_inr, decide_true, decide_false, if_true, if_false, Bool.and_true, Bool.true_and, Bool.and_false, Bool.false_and, Bool.false_eq_true, true_and, and_true, false_and, and_false, decide_eq_true_eq, r1, r2]
  simp only [Option.some.injEq, Prod.mk.injEq]
  omega
 ·rw [e]
  have q1 : ¬ (c0.toNat : Int) < 128 := by
   intro h
   unfold decodeN at e
   rw [if_pos (by omega)] at e
   simp only [Prod.mk.injEq] at e
   omega
  have hb : ¬ (194 ≤ c0.toNat ∧ c0.toNat < 224 ∧ 1 < l.length ∧ 128 ≤ c1.toNat ∧ c1.toNat < 192) := by
   intro h
   unfold decodeN at e
   rw [if_neg (by omega), if_pos (by omega), if_pos (by omega)] at e
   simp only [Prod.mk.injEq] at e
   omega
  have hc : ¬ (224 ≤ c0.toNat ∧ c0.toNat < 240 ∧ 1 < l.length ∧ 128 ≤ c1.toNat ∧ c1.toNat < 192 ∧ 2 < l.length ∧ 128 ≤ c2.toNat ∧ c2.toNat < 192 ∧
    2048 ≤ ((c0.toNat : Int) - 224) * 4096 + ((c1.toNat : Int) - 128) * 64 + (c2.toNat : Int) - 128 ∧ (((c0.toNat : Int) - 224) * 4096 + ((c1.toNat : Int) - 128) * 64 + (c2.toNat : Int) - 128 < 55296 ∨ 57343 < ((c0.toNat : Int) - 224) * 4096 + ((c1.toNat : Int) - 128) * 64 + (c2.toNat : Int) - 128)) := by
   intro h
   unfold decodeN at e
   rw [if_neg (by omega), if_neg (by omega), if_pos (by omega), if_pos (by omega)] at e
   simp only [Prod.mk.injEq] at e
   omega
  have hd : ¬ (240 ≤ c0.toNat ∧ c0.toNat < 245 ∧ 1 < l.length ∧ 128 ≤ c1.toNat ∧ c1.toNat < 192 ∧ 2 < l.length ∧ 128 ≤ c2.toNat ∧ c2.toNat < 192 ∧ 3 < l.length ∧ 128 ≤ c3.toNat ∧ c3.toNat < 192 ∧
    65536 ≤ ((c0.toNat : Int) - 240) * 262144 + ((c1.toNat : Int) - 128) * 4096 + ((c2.toNat : Int) - 128) * 64 + (c3.toNat : Int) - 128 ∧ ((c0.toNat : Int) - 240) * 262144 + ((c1.toNat : Int) - 128) * 4096 + ((c2.toNat : Int) - 128) * 64 + (c3.toNat : Int) - 128 ≤ 1114111) := by
   intro h
   unfold decodeN at e
   rw [if_neg (by omega), if_neg (by omega), if_neg (by omega), if_pos (by omega), if_pos (by omega)] at e
   simp only [Prod.mk.injEq] at e
   omega
  clear e
  by_cases g1 : c0.toNat < 194
  ·have q2 : ¬ (194 : Int) ≤ (c0.toNat : Int) := by omega
   have q6 : ¬ (224 : Int) ≤ (c0.toNat : Int) := by omega
   have qa : ¬ (240 : Int) ≤ (c0.toNat : Int) := by omega
   simp only [t1, t2, t3, some_ite, prod_ite, ite_self, Option.bind_some, Option.bind_none, Bool.if_false_right, Bool.if_false_left, sumC_ite, sumC_inl, sumC_inr, decide_true, decide_false, if_true, if_false, Bool.and_true, Bool.true_and, Bool.and_false, Bool.false_and, Bool.false_eq_true, true_and, and_true, false_and, and_false, decide_eq_true_eq, q1, q2, q6, qa]
   rfl
  have q2 : (194 : Int) ≤ (c0.toNat : Int) := by omega
  by_cases g2 : c0.toNat < 224
  ·have q3 : (c0.toNat : Int) < 224 := by omega
   have q6 : ¬ (224 : Int) ≤ (c0.toNat : Int) := by omega
   have qa : ¬ (240 : Int) ≤ (c0.toNat : Int) := by omega
   have q4 : ¬ (1 < l.length ∧ 128 ≤ c1.toNat ∧ c1.toNat < 192) := by omega
   simp only [t1, t2, t3, some_ite, prod_ite, ite_self, Option.bind_some, Option.bind_none, Bool.if_false_right, Bool.if_false_left, sumC_ite, sumC_inl, sumC_inr, decide_true, decide_false, if_true, if_false, Bool.and_true, Bool.true_and, Bool.and_false, Bool.false_and, Bool.false_eq_true, true_and, and_true, false_and, and_false, decide_eq_true_eq, q1, q2, q3, q4, q6, qa]
   rfl
  have q3 : ¬ (c0.toNat : Int) < 224 := by omega
  have q6 : (224 : Int) ≤ (c0.toNat : Int) := by omega
  by_cases g3 : c0.toNat < 240
  ·have q7 : (c0.toNat : Int) < 240 := by omega
   have qa : ¬ (240 : Int) ≤ (c0.toNat : Int) := by omega
   by_cases q4 : 1 < l.length ∧ 128 ≤ c1.toNat ∧ c1.toNat < 192
   ·by_cases q5 : 2 < l.length ∧ 128 ≤ c2.toNat ∧ c2.toNat < 192
    ·obtain ⟨z1, z2, z3⟩ := q4
     obtain ⟨z4, z5, z6⟩ := q5
     simp only [t1, t2, t3, some_ite, prod_ite, ite_self, Option.bind_some, Option.bind_none, Bool.if_false_right, Bool.if_false_left, sumC_ite, sumC_inl, sumC_inr, decide_true, decide_false, if_true, if_false, Bool.and_true, Bool.true_and, Bool.and_false, Bool.false_and, Bool.false_eq_true, true_and, and_true, false_and, and_false, decide_eq_true_eq, q1, q2, q3, q6, q7, qa, z1, z2, z3, z4, z5, z6, i1, i2]
     simp (disch := omega) only [wrap64]
     by_cases r1 : (2048 : Int) ≤ ((c0.toNat : Int) - 224) * 4096 + ((c1.toNat : Int) - 128) * 64 + (c2.toNat : Int) - 128
     ·have r2 : ¬ ((c0.toNat : Int) - 224) * 4096 + ((c1.toNat : Int) - 128) * 64 + (c2.toNat : Int) - 128 < 55296 := by omega
      have r3 : ¬ (57343 : Int) < ((c0.toNat : Int) - 224) * 4096 + ((c1.toNat : Int) - 128) * 64 + (c2.toNat : Int) - 128 := by omega
      simp only [t1, t2, t3, some_ite, prod_ite, ite_self, Option.bind_some, Option.bind_none, Bool.if_false_right, Bool.if_false_left, sumC_ite, sumC_inl, sumC_inr, decide_true, decide_false, if_true, if_false, Bool.and_true, Bool.true_and, Bool.and_false, Bool.false_and, Bool.false_eq_true, true_and, and_true, false_and, and_false, decide_eq_true_eq, r1, r2, r3, qa]
      rfl
     ·simp only [t1, t2, t3, some_ite, prod_ite, ite_self, Option.bind_some, Option.bind_none, Bool.if_false_right, Bool.if_false_left, sumC_ite, sumC_inl, sumC_inr, decide_true, decide_false, if_true, if_false, Bool.and_true, Bool.true_and, Bool.and_false, Bool.false_and, Bool.false_eq_true, true_and, and_true, false_and, and_false, decide_eq_true_eq, r1, qa]
      rfl
    ·simp only [t1, t2, t3, some_ite, prod_ite, ite_self, Option.bind_some, Option.bind_none, Bool.if_false_right, Bool.if_false_left, sumC_ite, sumC_inl, sumC_inr, decide_true, decide_false, if_true, if_false, Bool.and_true, Bool.true_and, Bool.and_false, Bool.false_and, Bool.false_eq_true, true_and, and_true, false_and, and_false, decide_eq_true_eq, q1, q2, q3, q4, q5, q6, q7, qa]
     rfl
   ·simp only [t1, t2, t3, some_ite, prod_ite, ite_self, Option.bind_some, Option.bind_none, Bool.if_false_right, Bool.if_false_left, sumC_ite, sumC_inl, sumC_inr, decide_true, decide_false, if_true, if_false, Bool.and_true, Bool.true_and, Bool.and_false, Bool.false_and, Bool.false_eq_true, true_and, and_true, false_and, and_false, decide_eq_true_eq, q1, q2, q3, q4, q6, q7, qa]
    rfl
  have q7 : ¬ (c0.toNat : Int) < 240 := by omega
  have qa : (240 : Int) ≤ (c0.toNat : Int) := by omega
  by_cases g4 : c0.toNat < 245
  ·have qb : (c0.toNat : Int) < 245 := by omega
   by_cases q4 : 1 < l.length ∧ 128 ≤ c1.toNat ∧ c1.toNat < 192
   ·by_cases q5 : 2 < l.length ∧ 128 ≤ c2.toNat ∧ c2.toNat < 192
    ·by_cases q8 : 3 < l.length ∧ 128 ≤ c3.toNat ∧ c3.toNat < 192
     ·obtain ⟨z1, z2, z3⟩ := q4
      obtain ⟨z4, z5, z6⟩ := q5
      obtain ⟨z7, z8, z9⟩ := q8
      simp only [t1, t2, t3, some_ite, prod_ite, ite_self, Option.bind_some, Option.bind_none, Bool.if_false_right, Bool.if_false_left, sumC_ite, sumC_inl, sumC_inr, decide_true, decide_false, if_true, if_false, Bool.and_true, Bool.true_and, Bool.and_false, Bool.false_and, Bool.false_eq_true, true_and, and_true, false_and, and_false, decide_eq_true_eq, q1, q2, q3, q6, q7, qa, qb, z1, z2, z3, z4, z5, z6, z7, z8, z9, i1, i2, i3]
      simp (disch := omega) only [wrap64]
      by_cases r1 : (65536 : Int) ≤ ((c0.toNat : Int) - 240) * 262144 + ((c1.toNat : Int) - 128) * 4096 + ((c2.toNat : Int) - 128) * 64 + (c3.toNat : Int) - 128
      ·have r2 : ¬ ((c0.toNat : Int) - 240) * 262144 + ((c1.toNat : Int) - 128) * 4096 + ((c2.toNat : Int) - 128) * 64 + (c3.toNat : Int) - 128 ≤ 1114111 := by omega
       simp only [t1, t2, t3, some_ite, prod_ite, ite_self, Option.bind_some, Option.bind_none, Bool.if_false_right, Bool.if_false_left, sumC_ite, sumC_inl, sumC_inr, decide_true, decide_false, if_true, if_false, Bool.and_true, Bool.true_and, Bool.and_false, Bool.false_and, Bool.false_eq_true, true_and, and_true, false_and, and_false, decide_eq_true_eq, r1, r2]
       rfl
      ·simp only [t1, t2, t3, some_ite, prod_ite, ite_self, Option.bind_some, Option.bind_none, Bool.if_false_right, Bool.if_false_left, sumC_ite, sumC_inl, sumC_inr, decide_true, decide_false, if_true, if_false, Bool.and_true, Bool.true_and, Bool.and_false, Bool.false_and, Bool.false_eq_true, true_and, and_true, false_and, and_false, decide_eq_true_eq, r1]
       rfl
     ·simp only [t1, t2, t3, some_ite, prod_ite, ite_self, Option.bind_some, Option.bind_none, Bool.if_false_right, Bool.if_false_left, sumC_ite, sumC_inl, sumC_inr, decide_true, decide_false, if_true, if_false, Bool.and_true, Bool.true_and, Bool.and_false, Bool.false_and, Bool.false_eq_true, true_and, and_true, false_and, and_false, decide_eq_true_eq, q1, q2, q3, q4, q5, q6, q7, q8, qa, qb]
      rfl
    ·simp only [t1, t2, t3, some_ite, prod_ite, ite_self, Option.bind_some, Option.bind_none, Bool.if_false_right, Bool.if_false_left, sumC_ite, sumC_inl, sumC_inr, decide_true, decide_false, if_true, if_false, Bool.and_true, Bool.true_and, Bool.and_false, Bool.false_and, Bool.false_eq_true, true_and, and_true, false_and, and_false, decide_eq_true_eq, q1, q2, q3, q4, q5, q6, q7, qa, qb]
     rfl
   ·simp only [t1, t2, t3, some_ite, prod_ite, ite_self, Option.bind_some, Option.bind_none, Bool.if_false_right, Bool.if_false_left, sumC_ite, sumC_inl, sumC_inr, decide_true, decide_false, if_true, if_false, Bool.and_true, Bool.true_and, Bool.and_false, Bool.false_and, Bool.false_eq_true, true_and, and_true, false_and, and_false, decide_eq_true_eq, q1, q2, q3, q4, q6, q7, qa, qb]
    rfl
  have qb : ¬ (c0.toNat : Int) < 245 := by omega
  simp only [t1, t2, t3, some_ite, prod_ite, ite_self, Option.bind_some, Option.bind_none, Bool.if_false_right, Bool.if_false_left, sumC_ite, sumC_inl, sumC_inr, decide_true, decide_false, if_true, if_false, Bool.and_true, Bool.true_and, Bool.and_false, Bool.false_and, Bool.false_eq_true, true_and, and_true, false_and, and_false, decide_eq_true_eq, q1, q2, q3, q6, q7, qa, qb]
  rfl
end Go.Vm
/- A sign's bytes as the document has them, plainly. No condition but on lengths. -/
namespace Go.Vm
open Go.Lib (decodeL decodeN decodeL_N decode_N decodeN_shape decodeL_le)
set_option linter.unusedVariables false
set_option linter.unusedSimpArgs false
end Go.Vm
