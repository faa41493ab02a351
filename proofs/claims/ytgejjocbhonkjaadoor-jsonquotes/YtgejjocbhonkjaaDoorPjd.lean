/- JSON: the law of quotes (its seat holds no more of the document than Quote). -/
import Derived.Test.YtgejjocbhonkjaaDoorFr9
import Derived.Test.YtgejjocbhonkjaaDoorFlaw9
import Derived.Test.YtgejjocbhonkjaaDoorPu3
import Derived.Test.YtgejjocbhonkjaaDoorPj11
import Derived.Lib.ValidLaws
namespace Go.Vm
open Go.Proofs
open Go.Lib (decodeL decodeN decodeL_N decode_N decodeN_shape decodeL_le decDigits itoa validD)
set_option linter.unusedVariables false
set_option linter.unusedSimpArgs false

theorem nvB (c k : UInt8) : ((c.toNat : Int) = (k.toNat : Int)) = (c = k) := by
  apply propext
  constructor
  · intro hh; exact UInt8.toNat_inj.1 (by omega)
  · intro hh; rw [hh]

/-! ### quotes -/
abbrev hexS : By := [48, 49, 50, 51, 52, 53, 54, 55, 56, 57, 97, 98, 99, 100, 101, 102]
theorem hex_sub : ∀ c : Fin 32, sub hexS (IntKind.u8.wrap (((c.val : Nat) : Int).tdiv 16)) (IntKind.u8.wrap (IntKind.u8.wrap (((c.val : Nat) : Int).tdiv 16) + 1)) = some [hexC (c.val / 16)] ∧ sub hexS (((c.val : Nat) : Int).tmod 16) (IntKind.u8.wrap (((c.val : Nat) : Int).tmod 16 + 1)) = some [hexC (c.val % 16)] := by decide +kernel
theorem quote9_step (F : Nat) (t out : By) (i : Nat) (c : UInt8) (hc : t[i]? = some c) (ht : t.length ≤ 1000000) (ho : out.length ≤ 10000000) :
    M_conciergeref09_Quote_l0 F (t, hexS, out, (i : Int), ()) = some (.inl (t, hexS, out ++ quoB c, ((i + 1 : Nat) : Int), ())) := by
  have hi : i < t.length := by
    rcases Nat.lt_or_ge i t.length with h | h
    · exact h
    · rw [List.getElem?_eq_none h] at hc; cases hc
  have h0 : (i : Int) < (t.length : Int) := by omega
  have hx := idx_at t i c hc
  have hw : IntKind.i64.wrap ((i : Int) + 1) = ((i + 1 : Nat) : Int) := by rw [wrap64 _ (by omega) (by omega)]; omega
  have hs : sub t (i : Int) ((i + 1 : Nat) : Int) = some [c] := by
    rw [sub_nat t _ _ (by omega) (by omega)]
    have : t.drop i = c :: t.drop (i + 1) := by
      rw [List.drop_eq_getElem_cons hi]
      congr 1
      rw [List.getElem?_eq_getElem hi] at hc
      exact Option.some.inj hc
    rw [this, show i + 1 - i = 1 by omega]
    rfl
  have n34 := nvB c 34; have n92 := nvB c 92; have n8 := nvB c 8; have n9 := nvB c 9; have n10 := nvB c 10; have n12 := nvB c 12; have n13 := nvB c 13
  rw [show ((34 : UInt8).toNat : Int) = 34 from rfl] at n34
  rw [show ((92 : UInt8).toNat : Int) = 92 from rfl] at n92
  rw [show ((8 : UInt8).toNat : Int) = 8 from rfl] at n8
  rw [show ((9 : UInt8).toNat : Int) = 9 from rfl] at n9
  rw [show ((10 : UInt8).toNat : Int) = 10 from rfl] at n10
  rw [show ((12 : UInt8).toNat : Int) = 12 from rfl] at n12
  rw [show ((13 : UInt8).toNat : Int) = 13 from rfl] at n13
  have big : ∀ m : Nat, m ≤ 100 → decide (out.length + m ≤ 9223372036854775807) = true := fun m hm => by rw [decide_eq_true_eq]; omega
  unfold M_conciergeref09_Quote_l0
  rw [if_pos (by simpa using h0)]
  simp only [hx, Option.bind_some, n34, n92]
  by_cases c1 : c = 34 ∨ c = 92
  · have e1 : (if decide (c = 34) = false then some (t, hexS, out, (i : Int), (c.toNat : Int), decide (c = 92), ()) else some (t, hexS, out, (i : Int), (c.toNat : Int), true, ()) : Option (By × By × By × Int × Int × Bool × Unit)) = some (t, hexS, out, (i : Int), (c.toNat : Int), true, ()) := by
      by_cases h : c = 34
      · rw [decide_eq_true h]; rfl
      · rw [decide_eq_false h, decide_eq_true (c1.resolve_left h)]; rfl
    rw [e1, Option.bind_some]
    simp only [hw, hs, Option.bind_some, if_true]
    rw [if_pos (by rw [decide_eq_true_eq]; simp only [List.length_append, List.length_cons, List.length_nil]; omega), if_pos (by rw [decide_eq_true_eq]; simp only [List.length_append, List.length_cons, List.length_nil]; omega), Option.bind_some]
    simp only [hw]
    unfold quoB
    rw [if_pos c1, List.append_assoc]
    rfl
  have c34 : ¬ c = 34 := fun h => c1 (.inl h)
  have c92 : ¬ c = 92 := fun h => c1 (.inr h)
  rw [decide_eq_false c34, decide_eq_false c92, if_pos rfl, Option.bind_some]
  simp only [Bool.false_eq_true, if_false, n8, n9, n10, n12, n13, hw]
  unfold quoB
  rw [if_neg c1]
  have fin : ∀ (w z : By), w.length ≤ 10 → z = w → (if decide (out.length + w.length ≤ 9223372036854775807) = true then some (t, hexS, out ++ w, (i : Int), ()) else none : Option (By × By × By × Int × Unit)).bind (fun v7 => some (Sum.inl (v7.1, v7.2.1, v7.2.2.1, IntKind.i64.wrap (v7.2.2.2.1 + 1), ()))) = some (Sum.inl (t, hexS, out ++ z, ((i + 1 : Nat) : Int), ()) : (By × By × By × Int × Unit) ⊕ (By × Unit)) := by
    intro w z hwl hz
    rw [if_pos (big _ (by omega)), Option.bind_some, hz]
    simp only [hw]
  by_cases c8 : c = 8
  · rw [if_pos (decide_eq_true c8), if_pos c8]; exact fin [92, 98] _ (by decide) rfl
  rw [if_neg (by simpa using c8), if_neg c8]
  by_cases c9 : c = 9
  · rw [if_pos (decide_eq_true c9), if_pos c9]; exact fin [92, 116] _ (by decide) rfl
  rw [if_neg (by simpa using c9), if_neg c9]
  by_cases c10 : c = 10
  · rw [if_pos (decide_eq_true c10), if_pos c10]; exact fin [92, 110] _ (by decide) rfl
  rw [if_neg (by simpa using c10), if_neg c10]
  by_cases c12 : c = 12
  · rw [if_pos (decide_eq_true c12), if_pos c12]; exact fin [92, 102] _ (by decide) rfl
  rw [if_neg (by simpa using c12), if_neg c12]
  by_cases c13 : c = 13
  · rw [if_pos (decide_eq_true c13), if_pos c13]; exact fin [92, 114] _ (by decide) rfl
  rw [if_neg (by simpa using c13), if_neg c13]
  by_cases c32 : c.toNat < 32
  · have c32' : (c.toNat : Int) < 32 := by omega
    rw [if_pos (decide_eq_true c32'), if_pos c32]
    obtain ⟨x1, x2⟩ := hex_sub ⟨c.toNat, c32⟩
    simp only at x1 x2
    rw [if_pos (by rw [decide_eq_true_eq]; simp only [List.length_append, List.length_cons, List.length_nil]; omega), x1, Option.bind_some, if_pos (by rw [decide_eq_true_eq]; simp only [List.length_append, List.length_cons, List.length_nil]; omega), x2, Option.bind_some, if_pos (by rw [decide_eq_true_eq]; simp only [List.length_append, List.length_cons, List.length_nil]; omega), Option.bind_some]
    simp only [hw, List.append_assoc]
    rfl
  · have c32' : ¬ (c.toNat : Int) < 32 := by omega
    rw [if_neg (by simpa using c32'), if_neg c32, hs, Option.bind_some]
    exact fin [c] _ (by simp) rfl
theorem quote9_loop (t : By) (ht : t.length ≤ 1000000) : ∀ (n i : Nat) (out : By), i + n = t.length → out.length + 6 * n ≤ 10000000 → TendsL M_conciergeref09_Quote_l0 (t, hexS, out, (i : Int), ()) (out ++ quoL (t.drop i), ())
  | 0, i, out, h, ho => by
    refine TendsL.fin (.of fun F => ?_)
    unfold M_conciergeref09_Quote_l0
    rw [if_neg (by simp; omega), List.drop_eq_nil_of_le (by omega)]
    show _ = some (Sum.inr (out ++ [], ()))
    rw [List.append_nil]
  | n + 1, i, out, h, ho => by
    have hi : i < t.length := by omega
    have hd := List.drop_eq_getElem_cons hi
    have hl := quoB_len t[i]
    refine TendsL.step (.of fun F => quote9_step F t out i t[i] (List.getElem?_eq_getElem hi) ht (by omega)) ?_
    have := quote9_loop t ht n (i + 1) (out ++ quoB t[i]) (by omega) (by rw [List.length_append]; omega)
    rw [hd]
    rw [List.append_assoc] at this
    exact this
theorem quoL_le (t : By) : (quoL t).length ≤ 6 * t.length := by
  induction t with
  | nil => exact Nat.le_refl _
  | cons c t ih =>
    have := quoB_len c
    show (quoB c ++ quoL t).length ≤ _
    rw [List.length_append, List.length_cons]
    omega
theorem quote9_t (t : By) (ht : t.length ≤ 1000000) : Tends (fun F => M_conciergeref09_Quote F t) (quo t) := by
  unfold M_conciergeref09_Quote
  have h := quote9_loop t ht t.length 0 [34] (by omega) (by simp; omega)
  refine Tends.bind h.run ?_
  have := quoL_le t
  refine Tends.pos (by rw [decide_eq_true_eq]; simp; omega) (.of fun F => ?_)
  rfl


/-! ### what the program tells -/
def kindP : JV → Int
  | .nil => 0
  | .null => 1
  | .bool _ => 2
  | .int _ => 3
  | .str _ => 4
  | .list _ => 5
  | .obj _ => 6
def textP : JV → By
  | .str t => t
  | _ => []
def vP (s : By) : JV := match allP s with
  | .ok v => v
  | .error _ => .nil
theorem parse_v (s : By) (hs : s.length ≤ 1000) : Tends (fun F => M_json_parse F s) (vP s, (formP s).2) := by
  refine Tends.eq (parse_t s hs) ?_
  unfold vP formP
  cases allP s <;> rfl
theorem kind_t (s : By) (hs : s.length ≤ 1000) : Tends (fun F => M_json_Kind F s) (kindP (vP s)) := by
  unfold M_json_Kind
  refine Tends.bind (parse_v s hs) ?_
  cases vP s <;> exact .ret _
theorem text_v (s : By) (hs : s.length ≤ 1000) : Tends (fun F => M_json_Text F s) (textP (vP s), decide (kindP (vP s) = 4)) := by
  unfold M_json_Text
  refine Tends.bind (parse_v s hs) ?_
  cases vP s <;> exact .ret _

/-! ### the wake -/
theorem itoa_1 : itoa 1 = [49] := by unfold itoa; rw [if_neg (by decide)]; exact Go.Lib.decDigits_one (by decide)
theorem itoa_0 : itoa 0 = [48] := by unfold itoa; rw [if_neg (by decide)]; exact Go.Lib.decDigits_one (by decide)
def wakeV : JV := .obj [([97], .str [195, 169, 10], ()), ([98], .list [.int 1, .int 0], ())]
theorem wake_1 : allP [32, 123, 34, 98, 34, 58, 91, 49, 44, 45, 48, 93, 44, 32, 34, 97, 34, 58, 34, 92, 117, 48, 48, 101, 57, 92, 110, 34, 125] = .ok wakeV := by kernel_rfl
theorem wake_2 : allP [34, 97, 92, 47, 34] = .ok (.str [97, 47]) := by kernel_rfl
theorem wake_3 : allP [91, 93] = .ok (.list []) := by kernel_rfl
theorem wake_lay : layP 8 wakeV = [123, 34, 97, 34, 58, 34, 195, 169, 92, 110, 34, 44, 34, 98, 34, 58, 91, 49, 44, 48, 93, 125] := by
  have : layP 8 wakeV = 123 :: (joinB [quo [97] ++ 58 :: quo [195, 169, 10], quo [98] ++ 58 :: (91 :: (joinB [itoa 1, itoa 0] ++ [93]))] ++ [125]) := rfl
  rw [this, itoa_1, itoa_0]
  rfl
theorem awake9_t : Tends (fun F => M_conciergelaw09_awake F ()) true := by
  have f1 := form_t [32, 123, 34, 98, 34, 58, 91, 49, 44, 45, 48, 93, 44, 32, 34, 97, 34, 58, 34, 92, 117, 48, 48, 101, 57, 92, 110, 34, 125] (by decide)
  unfold formP at f1
  rw [wake_1] at f1
  simp only [wake_lay] at f1
  have f2 := text_v [34, 97, 92, 47, 34] (by decide)
  unfold vP at f2
  rw [wake_2] at f2
  have f3 := kind_t [91, 93] (by decide)
  unfold vP at f3
  rw [wake_3] at f3
  unfold M_conciergelaw09_awake
  refine Tends.bind f1 ?_
  refine Tends.bind f2 ?_
  refine Tends.bind (.of fun F => rfl) ?_
  refine Tends.bind (.of fun F => rfl) ?_
  refine Tends.bind (.of fun F => rfl) ?_
  refine Tends.bind (Tends.pos rfl (Tends.bind f3 (.ret _))) ?_
  exact .ret _


/-! ### right texts -/
theorem valid_okT (s : By) : validD s = true → OkT s := by
  induction s using signs_ind with
  | h0 => exact fun _ => .nil
  | h1 l hne ih =>
    intro h
    rw [Go.Lib.validD_step l hne] at h
    by_cases hb : (decodeL l).1 = 65533 ∧ (decodeL l).2 = 1
    · rw [if_pos hb] at h; cases h
    · rw [if_neg hb] at h
      have ht := take_encN l hne hb
      rw [← List.take_append_drop (decodeL l).2 l, ht]
      exact .cons _ _ (rune_ok l) (ih h)
/-- All signs are right ones. -/
def rightL (l : List (Int × List UInt8)) : Bool := l.all fun x => !(decide (x.1 = 65533)) || decide (x.2.length = 3)
theorem valid_right (s : By) : validD s = rightL (signs s) := by
  induction s using signs_ind with
  | h0 => rw [signs_nil]; rfl
  | h1 l hne ih =>
    rw [Go.Lib.validD_step l hne, signs_cons hne]
    have hle := decodeL_le l hne
    have htl : (l.take (decodeL l).2).length = (decodeL l).2 := by rw [List.length_take]; omega
    show _ = ((!(decide (((decodeL l).1 : Int) = 65533)) || decide ((l.take (decodeL l).2).length = 3)) && rightL (signs (l.drop (decodeL l).2)))
    rw [← ih, htl]
    by_cases hb : (decodeL l).1 = 65533 ∧ (decodeL l).2 = 1
    · rw [if_pos hb, hb.2]
      have : (((decodeL l).1 : Nat) : Int) = 65533 := by rw [hb.1]; rfl
      rw [decide_eq_true this]
      rfl
    · rw [if_neg hb]
      by_cases h1 : (decodeL l).1 = 65533
      · have ht := take_encN l hne hb
        have h3 : (encN (decodeL l).1).length = 3 := by rw [h1]; rfl
        rw [← ht, htl] at h3
        rw [h3]
        simp
      · have : ¬ (((decodeL l).1 : Nat) : Int) = 65533 := by omega
        rw [decide_eq_false this]
        simp
theorem quo_all {s : By} (h : OkT s) (hl : (quo s).length ≤ 400) : allP (quo s) = .ok (.str s) := by
  unfold allP
  rw [if_neg (by omega)]
  have := val_print 8 8 (.str s) [] h (fun c q e => by cases e)
  have e : layP 8 (.str s) = quo s := rfl
  rw [List.append_nil, e] at this
  rw [this]
  rfl
theorem okT_valid {s : By} (h : validD s = true) : OkT s := valid_okT s h
theorem jquote_t (s : By) (hs : s.length ≤ 1000) : Tends (fun F => M_json_Quote F s) (if s.length ≤ 400 ∧ validD s = true then (quo s, true) else ([], false)) := by
  unfold M_json_Quote
  have hv : ∀ F, M_unicode_utf8_ValidString F s = some (validD s) := by
    intro F
    unfold M_unicode_utf8_ValidString MValid
    rw [if_pos (by rw [decide_eq_true_eq]; omega)]
  by_cases h4 : s.length ≤ 400
  · have h4' : ¬ (400 : Int) < (s.length : Int) := by omega
    refine Tends.bind (r := ((s, !(validD s), ()) : By × Bool × Unit)) (Tends.pos (decide_eq_false h4') (Tends.bind (.of hv) (.ret _))) ?_
    cases hb : validD s with
    | true =>
      rw [if_pos ⟨h4, rfl⟩]
      refine Tends.neg Bool.false_ne_true ?_
      have hq := quoL_le s
      refine Tends.bind (quote_t [] s (okT_valid hb) (by unfold quo; simp; omega)) ?_
      exact .ret _
    | false =>
      rw [if_neg (fun hh => Bool.false_ne_true hh.2)]
      exact Tends.pos rfl (.ret _)
  · have h4' : (400 : Int) < (s.length : Int) := by omega
    rw [if_neg (fun hh => h4 hh.1)]
    refine Tends.bind (r := ((s, true, ()) : By × Bool × Unit)) (Tends.neg (by rw [decide_eq_true h4']; decide) (.ret _)) ?_
    exact Tends.pos rfl (.ret _)

/-! ### the law -/
abbrev Sg := Int × List UInt8
def posS (l : List Sg) (i : Nat) : Nat := ((l.take i).flatMap (·.2)).length
theorem posS_next (l : List Sg) (i : Nat) (h : i < l.length) : posS l (i + 1) = posS l i + l[i].2.length := by
  unfold posS
  rw [List.take_succ_eq_append_getElem h, List.flatMap_append, List.length_append]
  simp
theorem ats_len : ∀ (l : List Sg) (p : Nat), (ats p l).length = l.length
  | [], p => rfl
  | x :: l, p => by
    show (ats (p + x.2.length) l).length + 1 = l.length + 1
    rw [ats_len l]
theorem ats_get : ∀ (l : List Sg) (p i : Nat), i < l.length → (ats p l)[i]? = some ((p + posS l i : Nat) : Int)
  | [], p, i, h => absurd h (Nat.not_lt_zero _)
  | x :: l, p, 0, h => by
    show some (p : Int) = _
    rfl
  | x :: l, p, i + 1, h => by
    show (ats (p + x.2.length) l)[i]? = _
    rw [ats_get l (p + x.2.length) i (by simpa using h)]
    have : posS (x :: l) (i + 1) = x.2.length + posS l i := by unfold posS; simp
    rw [this, Nat.add_assoc]
theorem right_loop (s : By) (l : List Sg) (hl : l.length ≤ 1000) (hsl : s.length ≤ 1000) (hpos : posS l l.length = s.length) : ∀ (n i : Nat) (b : Bool), i + n = l.length →
    TendsL M_conciergelaw09_JsonQuotes_l0 (s, l.map (·.1), ats 0 l, b, ((l.map (·.1)).length : Int), (i : Int), ()) (s, b && rightL (l.drop i), ())
  | 0, i, b, h => by
    refine TendsL.fin (.of fun F => ?_)
    unfold M_conciergelaw09_JsonQuotes_l0
    rw [if_neg (by rw [decide_eq_true_eq, List.length_map]; simp only; omega), List.drop_eq_nil_of_le (by omega)]
    show some (Sum.inr (s, b, ())) = some (Sum.inr (s, b && true, ()))
    rw [Bool.and_true]
  | n + 1, i, b, h => by
    have hi : i < l.length := by omega
    have hr : idx (l.map (·.1)) (i : Int) = some l[i].1 := idx_at _ _ _ (by simp [hi])
    have ha : idx (ats 0 l) (i : Int) = some ((posS l i : Nat) : Int) := by
      have := idx_at (ats 0 l) i _ (ats_get l 0 i hi)
      rw [Nat.zero_add] at this
      exact this
    have hnext := posS_next l i hi
    have hmono : posS l (i + 1) ≤ s.length := by
      rw [← hpos]
      unfold posS
      rw [List.take_length]
      have : l.flatMap (·.2) = (l.take (i + 1)).flatMap (·.2) ++ (l.drop (i + 1)).flatMap (·.2) := by rw [← List.flatMap_append, List.take_append_drop]
      rw [this, List.length_append]
      omega
    have hw : IntKind.i64.wrap ((i : Int) + 1) = ((i + 1 : Nat) : Int) := by rw [wrap64 _ (by omega) (by omega)]; omega
    have hd : IntKind.i64.wrap (((posS l (i + 1) : Nat) : Int) - ((posS l i : Nat) : Int)) = (l[i].2.length : Int) := by rw [wrap64 _ (by omega) (by omega)]; omega
    rw [List.drop_eq_getElem_cons hi]
    have hR : (b && rightL (l[i] :: l.drop (i + 1))) = ((b && (!(decide (l[i].1 = 65533)) || decide (l[i].2.length = 3))) && rightL (l.drop (i + 1))) := by
      rw [Bool.and_assoc]; rfl
    rw [hR]
    refine TendsL.step (x' := (s, l.map (·.1), ats 0 l, b && (!(decide (l[i].1 = 65533)) || decide (l[i].2.length = 3)), ((l.map (·.1)).length : Int), ((i + 1 : Nat) : Int), ())) ?_ (right_loop s l hl hsl hpos n (i + 1) _ (by omega))
    unfold M_conciergelaw09_JsonQuotes_l0
    refine Tends.pos (by rw [decide_eq_true_eq, List.length_map]; simp only; omega) ?_
    refine Tends.bind (r := ((s, l.map (·.1), ats 0 l, b, (i : Int), ((posS l (i + 1) : Nat) : Int), ((l.map (·.1)).length : Int), (i : Int), ()) : By × List Int × List Int × Bool × Int × Int × Int × Int × Unit)) ?_ ?_
    · by_cases hlast : i + 1 < l.length
      · have ha1 : idx (ats 0 l) ((i + 1 : Nat) : Int) = some ((posS l (i + 1) : Nat) : Int) := by
          have := idx_at (ats 0 l) (i + 1) _ (ats_get l 0 (i + 1) hlast)
          rw [Nat.zero_add] at this
          exact this
        refine Tends.pos (by rw [decide_eq_true_eq]; simp only [hw, ats_len]; omega) ?_
        refine Tends.bind (.of fun F => ?_) (.ret _)
        simp only [hw]
        exact ha1
      · refine Tends.neg (by rw [decide_eq_true_eq]; simp only [hw, ats_len]; omega) (.of fun F => ?_)
        have : i + 1 = l.length := by omega
        rw [this, hpos]
    · cases b with
      | false =>
        refine Tends.neg Bool.false_ne_true (.of fun F => ?_)
        simp only [hw, Bool.false_and]
      | true =>
        refine Tends.pos rfl ?_
        refine Tends.bind (.of fun F => hr) ?_
        by_cases h6 : l[i].1 = 65533
        · refine Tends.pos (by rw [decide_eq_true h6]; rfl) ?_
          refine Tends.bind (.of fun F => ha) (.of fun F => ?_)
          simp only [hd, hw, decide_eq_true h6]
          have e : decide ((l[i].2.length : Int) = 3) = decide (l[i].2.length = 3) := by
            by_cases h3 : l[i].2.length = 3
            · rw [decide_eq_true h3, decide_eq_true (by omega)]
            · rw [decide_eq_false h3, decide_eq_false (by omega)]
          rw [e]
          rfl
        · refine Tends.neg (by rw [decide_eq_false h6]; decide) (.of fun F => ?_)
          simp only [hw, decide_eq_false h6]
          rfl
theorem jsonQuotes_t (s : By) : Tends (fun F => M_conciergelaw09_JsonQuotes F s) true := by
  unfold M_conciergelaw09_JsonQuotes
  refine Tends.bind awake9_t ?_
  refine Tends.neg (by decide) ?_
  by_cases h5 : 450 < s.length
  · exact Tends.pos (by rw [decide_eq_true_eq]; omega) (.ret _)
  refine Tends.neg (by rw [decide_eq_true_eq]; omega) ?_
  have hq := jquote_t s (by omega)
  have hr := quote9_t s (by omega)
  have hl := signs_len s
  have hpos : posS (signs s) (signs s).length = s.length := by
    unfold posS
    rw [List.take_length, signs_bytes]
  have hloop := right_loop s (signs s) (by omega) (by omega) hpos (signs s).length 0 (decide ((s.length : Int) ≤ 400)) (by omega)
  rw [List.drop_zero, ← valid_right] at hloop
  refine Tends.bind (signs_tends s (by omega)) ?_
  refine Tends.bind hloop.run ?_
  refine Tends.bind hq ?_
  by_cases hok : s.length ≤ 400 ∧ validD s = true
  · rw [if_pos hok, hok.2, decide_eq_true (show (s.length : Int) ≤ 400 by omega)]
    refine Tends.neg (by simp) ?_
    refine Tends.neg (by simp) ?_
    refine Tends.bind hr ?_
    refine Tends.neg (by simp) ?_
    by_cases hbig : 400 < (quo s).length
    · exact Tends.pos (by rw [decide_eq_true_eq]; simp only; omega) (.ret _)
    refine Tends.neg (by rw [decide_eq_true_eq]; simp only; omega) ?_
    have hall := quo_all (okT_valid hok.2) (by omega)
    have ht := text_v (quo s) (by omega)
    have hf := form_t (quo s) (by omega)
    unfold vP at ht
    unfold formP at hf
    rw [hall] at ht hf
    refine Tends.bind ht ?_
    refine Tends.bind hf ?_
    refine .of fun F => ?_
    have e : layP 8 (.str s) = quo s := rfl
    simp [textP, kindP, e]
  · rw [if_neg hok]
    have hb : (decide ((s.length : Int) ≤ 400) && validD s) = false := by
      rw [Bool.eq_false_iff]
      intro hh
      rw [Bool.and_eq_true, decide_eq_true_eq] at hh
      exact hok ⟨by omega, hh.2⟩
    rw [hb]
    refine Tends.neg (by simp) ?_
    refine Tends.pos (by simp) (.of fun F => ?_)
    rfl
theorem pure_conciergelaw09_JsonQuotes (s : By) : ∃ F, M_conciergelaw09_JsonQuotes F s = some true := (jsonQuotes_t s).ex
end Go.Vm
