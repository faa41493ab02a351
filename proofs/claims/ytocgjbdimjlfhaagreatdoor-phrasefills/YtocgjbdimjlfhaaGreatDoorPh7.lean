import Derived.Test.YtocgjbdimjlfhaaGreatDoorPh5
/- Phrases: gaps; the wake; the law of checks. No condition but on lengths. -/
namespace Go.Vm
open Go.Proofs
open Go.Lib (decodeL decodeN decodeL_N decode_N decodeN_shape decodeL_le)
set_option linter.unusedVariables false
set_option linter.unusedSimpArgs false
theorem gaps_cons (p : Pc) (l : List Pc) : gapsL (p :: l) = (if p.1 = true then [p.2.1] else []) ++ gapsL l := by
 unfold gapsL
 rw [List.filter_cons]
 split <;> rfl
theorem gaps_loop (l : List Pc) (hl : l.length ≤ 1000) : ∀ (n i : Nat) (out : List By), i + n = l.length → out.length ≤ i → TendsL M_phrase_Gaps_l0 ((), l, (l.length : Int), (i : Int), out, ()) ((), out ++ gapsL (l.drop i), ())
 | 0, i, out, h, ho => by
  refine TendsL.fin (.of fun F => ?_)
  unfold M_phrase_Gaps_l0
  rw [if_neg (by rw [decide_eq_true_eq]; simp only; omega), List.drop_eq_nil_of_le (by omega)]
  show some (Sum.inr ((), out, ())) = some (Sum.inr ((), out ++ [], ()))
  rw [List.append_nil]
 | n + 1, i, out, h, ho => by
  have hi : i < l.length := by omega
  have hx : idx l (i : Int) = some l[i] := idx_at _ _ _ (List.getElem?_eq_getElem hi)
  have hw : IntKind.i64.wrap ((i : Int) + 1) = ((i + 1 : Nat) : Int) := by rw [wrap64 _ (by omega) (by omega)]; omega
  rw [List.drop_eq_getElem_cons hi, gaps_cons]
  generalize l[i] = p at *
  have ih := gaps_loop l hl n (i + 1) (out ++ if p.1 = true then [p.2.1] else []) (by omega) (by rw [List.length_append]; split <;> simp <;> omega)
  rw [List.append_assoc] at ih
  refine TendsL.step (.of fun F => ?_) ih
  unfold M_phrase_Gaps_l0
  rw [if_pos (by rw [decide_eq_true_eq]; simp only; omega)]
  simp only [hx, Option.bind_some]
  by_cases hp : p.1 = true
  ·rw [if_pos hp, if_pos hp, if_pos (by rw [decide_eq_true_eq]; simp only [List.length_singleton]; omega), Option.bind_some]
   simp only [hw]
  ·rw [if_neg hp, if_neg hp, Option.bind_some, List.append_nil]
   simp only [hw]
def gapsT (s : By) : List By := gapsL (cutT s).1
theorem gaps_v (s : By) (hs : s.length ≤ 1000) : Tends (fun F => M_phrase_Gaps F s) (gapsT s) := by
 unfold M_phrase_Gaps gapsT
 refine Tends.bind (cut_t s hs) ?_
 have hl : (cutT s).1.length ≤ 1000 := by
  unfold cutT
  split
  ·exact Nat.zero_le _
  ·cases hc : cutP s with
   | none => exact Nat.zero_le _
   | some l =>
    have := (cut_gaps s.length s (Nat.le_refl _) l hc).1
    show l.length ≤ 1000
    omega
 have h := gaps_loop (cutT s).1 hl (cutT s).1.length 0 [] (by omega) (by simp)
 rw [List.drop_zero, List.nil_append] at h
 exact Tends.bind h.run (.ret _)
theorem signs_ascii : ∀ s : By, (∀ b ∈ s, b.toNat < 128) → (signs s).map (·.1) = s.map fun b => (b.toNat : Int)
 | [], h => by rw [signs_nil]; rfl
 | c :: s, h => by
  rw [signs_one c (h c (List.mem_cons_self ..)), List.map_cons, List.map_cons, signs_ascii s fun b hb => h b (List.mem_cons_of_mem _ hb)]
abbrev wkP : By := [112, 97, 105, 100, 32, 37, 123, 115, 117, 109, 125, 32, 102, 111, 114, 32, 37, 107]
abbrev wkB : By := [123, 34, 115, 117, 109, 34, 58, 53, 125]
abbrev wkE : EnT := (0, [107, 49], 0, 0, 0, 0, [], 0, 0, 0, [], [], [], wkB, ())
def wkL : List Pc := [(false, [112], ()), (false, [97], ()), (false, [105], ()), (false, [100], ()), (false, [32], ()), (true, [37, 123, 115, 117, 109, 125], ()), (false, [32], ()), (false, [102], ()), (false, [111], ()), (false, [114], ()), (false, [32], ()), (true, [37, 107], ())]
theorem wk_cut : cutP wkP = some wkL := by kernel_rfl
theorem wk_all : allP wkB = .ok (.obj [([115, 117, 109], .int 5, ())]) := by kernel_rfl
theorem wk_five : allP [53] = .ok (.int 5) := by kernel_rfl
theorem itoa_5 : Go.Lib.itoa 5 = [53] := by unfold Go.Lib.itoa; rw [if_neg (by decide)]; exact Go.Lib.decDigits_one (by decide)
theorem wk_mem : memT wkB [115, 117, 109] = [53] := by
 have hv : vP wkB = .obj [([115, 117, 109], .int 5, ())] := by unfold vP; rw [wk_all]
 have h5 : vP [53] = .int 5 := by unfold vP; rw [wk_five]
 have hl : layP 7 (.int 5) = [53] := by rw [layP_B]; exact itoa_5
 have hf : firstM [115, 117, 109] [(([115, 117, 109], .int 5, ()) : Me)] = ([53], true) := by
  unfold firstM
  rw [if_pos rfl, hl]
 have hf2 : firstM [115, 117, 109] (objL (vP wkB)) = ([53], true) := by rw [hv]; exact hf
 unfold memT
 rw [hf2, if_pos rfl]
 show (if kindP (vP [53]) = 4 then textP (vP [53]) else [53]) = _
 rw [h5]
 exact if_neg (by decide)
theorem wk_flat : flatL (valT wkE) wkL = [112, 97, 105, 100, 32, 53, 32, 102, 111, 114, 32, 107, 49] := by
 have hm : valT wkE [37, 123, 115, 117, 109, 125] = memT wkB [115, 117, 109] := rfl
 unfold wkL
 simp only [flat_cons, hm, wk_mem]
 rfl
theorem wk_fill : fillT wkP wkE = [112, 97, 105, 100, 32, 53, 32, 102, 111, 114, 32, 107, 49] := by
 unfold fillT
 rw [if_neg (by decide), wk_cut]
 simp only [wk_flat]
 rw [signs_ascii _ (by decide)]
 kernel_rfl
theorem wk_cut2 : cutP [37, 98, 37, 37] = some [(true, [37, 98], ()), (true, [37, 37], ())] := by kernel_rfl
theorem wk_cut3 : cutP [37] = none := by kernel_rfl
theorem awake22_t : Tends (fun F => M_conciergelaw22_awake F ()) true := by
 have f1 := fill_t wkP wkE (by decide) ⟨by decide, by decide, by decide, by decide⟩
 rw [wk_fill] at f1
 have f2 := gaps_v [37, 98, 37, 37] (by decide)
 have e2 : gapsT [37, 98, 37, 37] = [[37, 98], [37, 37]] := by
  unfold gapsT cutT
  rw [if_neg (by decide), wk_cut2]
  rfl
 rw [e2] at f2
 have f3 := fun F => name_eq F [115, 117, 109]
 have e3 : nmP [115, 117, 109] = true := by decide
 rw [e3] at f3
 have f4 := check_v [37] (by decide)
 have e4 : checkT [37] = false := by unfold checkT; rw [wk_cut3]; rfl
 rw [e4] at f4
 unfold M_conciergelaw22_awake
 refine Tends.bind (Tends.bind f1 (Tends.pos rfl (Tends.bind f2 (.ret _)))) ?_
 refine Tends.bind (Tends.pos rfl (Tends.bind (.of f3) (.ret _))) ?_
 exact Tends.bind (Tends.pos rfl (Tends.bind f4 (.ret _))) (.ret _)
/-! ### the law of checks -/
end Go.Vm
/- Phrases: what the document fills is the plain text. No condition but on lengths. -/
namespace Go.Vm
open Go.Proofs
open Go.Lib (decodeL decodeN decodeL_N decode_N decodeN_shape decodeL_le)
set_option linter.unusedVariables false
set_option linter.unusedSimpArgs false
/-! ### members -/
theorem mem22_loop (g name body : By) (V : V9) (l : List Me) (hl : l.length ≤ 1000) (hb : body.length ≤ 1000) (hn : V.2.2.2.2.1 = l.map (·.1)) (hi : ∀ (i : Nat) (h : i < l.length), V.2.2.2.2.2.1[i]? = some (layP 7 l[i].2.1)) (h7 : ∀ m ∈ l, (layP 7 m.2.1).length ≤ 400)
  (hg : sub g 2 (IntKind.i64.wrap ((g.length : Int) - 1)) = some name) : ∀ (n i : Nat), i + n = l.length → TendsL M_conciergeref22_value_l0 (g, (), (i : Int), V, ()) (if (firstM name (l.drop i)).2 = true then .inr ((if kindP (vP (firstM name (l.drop i)).1) = 4 then textP (vP (firstM name (l.drop i)).1) else (firstM name (l.drop i)).1), ()) else .inl ())
 | 0, i, h => by
  refine TendsL.fin (.of fun F => ?_)
  unfold M_conciergeref22_value_l0
  rw [if_neg (by rw [decide_eq_true_eq]; simp only [hn, List.length_map]; omega), List.drop_eq_nil_of_le (by omega)]
  rfl
 | n + 1, i, h => by
  have hil : i < l.length := by omega
  have hx : idx V.2.2.2.2.1 (i : Int) = some l[i].1 := by rw [hn]; exact idx_at _ _ _ (by simp [hil])
  have hx3 : idx V.2.2.2.2.2.1 (i : Int) = some (layP 7 l[i].2.1) := idx_at _ _ _ (hi i hil)
  have hw : IntKind.i64.wrap ((i : Int) + 1) = ((i + 1 : Nat) : Int) := by rw [wrap64 _ (by omega) (by omega)]; omega
  have ih := mem22_loop g name body V l hl hb hn hi h7 hg n (i + 1) (by omega)
  have h4 := h7 l[i] (List.getElem_mem hil)
  rw [List.drop_eq_getElem_cons hil]
  generalize l[i] = m at *
  unfold firstM
  by_cases hc : m.1 = name
  ·rw [if_pos hc]
   have ho := of9_t (layP 7 m.2.1) (by omega)
   obtain ⟨q1, q2, _⟩ := ofP_parts (layP 7 m.2.1)
   refine TendsL.fin ?_
   unfold M_conciergeref22_value_l0
   refine Tends.pos (by rw [decide_eq_true_eq]; simp only [hn, List.length_map]; omega) ?_
   refine Tends.bind (r := ((g, (), (i : Int), true, V, ()) : By × Unit × Int × Bool × V9 × Unit)) (Tends.bind (.of fun F => hx) (Tends.bind (.of fun F => hg) (.of fun F => by rw [decide_eq_true hc]))) ?_
   refine Tends.pos rfl ?_
   refine Tends.bind (r := (((), (i : Int), (), V, (ofP (layP 7 m.2.1)).1, ()) : Unit × Int × Unit × V9 × V9 × Unit)) (Tends.bind (.of fun F => hx3) (Tends.bind ho (.ret _))) ?_
   rw [if_pos rfl]
   simp only
   by_cases hk : kindP (vP (layP 7 m.2.1)) = 4
   ·rw [if_pos hk, ← q2]
    exact Tends.pos (by rw [decide_eq_true_eq, q1]; exact hk) (.ret _)
   ·rw [if_neg hk]
    refine Tends.neg (by rw [decide_eq_true_eq, q1]; exact hk) ?_
    exact Tends.bind (.of fun F => hx3) (.ret _)
  ·rw [if_neg hc]
   refine TendsL.step (x' := (g, (), ((i + 1 : Nat) : Int), V, ())) ?_ ih
   unfold M_conciergeref22_value_l0
   refine Tends.pos (by rw [decide_eq_true_eq]; simp only [hn, List.length_map]; omega) ?_
   refine Tends.bind (r := ((g, (), (i : Int), false, V, ()) : By × Unit × Int × Bool × V9 × Unit)) (Tends.bind (.of fun F => hx) (Tends.bind (.of fun F => hg) (.of fun F => by rw [decide_eq_false hc]))) ?_
   exact Tends.neg Bool.false_ne_true (.of fun F => by simp only [hw])
def gapS (g : By) : Prop := ∃ b q, g = 37 :: b :: q ∧ (((b = 37 ∨ b = 98 ∨ b = 107 ∨ b = 109 ∨ b = 112) ∧ q = []) ∨ (b = 123 ∧ q ≠ []))
theorem gap_isS (r : By) (h : gapN (37 :: r) ≠ 0) : gapS ((37 :: r : By).take (gapN (37 :: r))) := by
 unfold gapN at h ⊢
 cases r with
 | nil => exact absurd rfl h
 | cons b q =>
  simp only at h ⊢
  by_cases hc : b = 37 ∨ b = 98 ∨ b = 107 ∨ b = 109 ∨ b = 112
  ·rw [if_pos hc]
   exact ⟨b, [], rfl, .inl ⟨hc, rfl⟩⟩
  ·rw [if_neg hc] at h ⊢
   by_cases hb : b = 123
   ·rw [if_pos hb] at h ⊢
    by_cases hk : (q.takeWhile (fun c => c != 125)).length < q.length ∧ nmP (q.takeWhile (fun c => c != 125)) = true
    ·rw [if_pos hk]
     refine ⟨b, q.take ((q.takeWhile (fun c => c != 125)).length + 1), ?_, ?_⟩
     ·rw [show (q.takeWhile (fun c => c != 125)).length + 3 = ((q.takeWhile (fun c => c != 125)).length + 1) + 1 + 1 by omega, List.take_succ_cons, List.take_succ_cons]
     ·refine .inr ⟨hb, ?_⟩
      intro hh
      have := congrArg List.length hh
      rw [List.length_take] at this
      simp only [List.length_nil] at this
      omega
    ·rw [if_neg hk] at h; exact absurd rfl h
   ·rw [if_neg hb] at h; exact absurd rfl h
theorem value22_t (g : By) (e : EnT) (hg : gapS g) (hpl : g.length ≤ 1000) (he : e.body.length ≤ 1000) : Tends (fun F => M_conciergeref22_value F (g, e)) (valT e g) := by
 obtain ⟨b, q, rfl, hb⟩ := hg
 unfold M_conciergeref22_value
 rcases hb with ⟨h, rfl⟩ | ⟨rfl, hq⟩
 ·rcases h with rfl | rfl | rfl | rfl | rfl
  ·show Tends _ ([37] : By)
   exact Tends.neg (by simp) (Tends.neg (by simp) (Tends.neg (by simp) (Tends.neg (by simp) (Tends.pos (by simp) (.ret _)))))
  ·show Tends _ e.body
   exact Tends.pos (by simp) (.ret _)
  ·show Tends _ e.key
   exact Tends.neg (by simp) (Tends.pos (by simp) (.ret _))
  ·show Tends _ e.method
   exact Tends.neg (by simp) (Tends.neg (by simp) (Tends.pos (by simp) (.ret _)))
  ·show Tends _ e.path
   exact Tends.neg (by simp) (Tends.neg (by simp) (Tends.neg (by simp) (Tends.pos (by simp) (.ret _))))
 ·show Tends _ (memT e.body (q.take (q.length - 1)))
  refine Tends.neg (by simp) (Tends.neg (by simp) (Tends.neg (by simp) (Tends.neg (by simp) (Tends.neg (by simp) ?_))))
  refine Tends.bind (of9_t e.body he) ?_
  obtain ⟨_, _, _, q4, q5⟩ := ofP_parts e.body
  have hv := vP_ok e.body
  have hnames : (ofP e.body).1.2.2.2.2.1 = (objL (vP e.body)).map (·.1) := q4.trans (names_objL _)
  have hitems : ∀ (i : Nat) (h : i < (objL (vP e.body)).length), (ofP e.body).1.2.2.2.2.2.1[i]? = some (layP 7 (objL (vP e.body))[i].2.1) := by
   rw [q5]
   cases hc : vP e.body with
   | obj l =>
    intro i h
    have h' : i < l.length := h
    show (l.map fun m => itmP 8 m.2.1)[i]? = some (layP 7 l[i].2.1)
    rw [List.getElem?_map, List.getElem?_eq_getElem h']
    rfl
   | _ => intro i h; exact absurd h (Nat.not_lt_zero _)
  have hll : (objL (vP e.body)).length ≤ 1000 ∧ ∀ m ∈ objL (vP e.body), (layP 7 m.2.1).length ≤ 400 := by
   cases hc : vP e.body with
   | obj l =>
    obtain ⟨_, h2, h3⟩ := obj_facts hv hc
    exact ⟨by show l.length ≤ 1000; omega, fun m hm => (h3 m hm).2⟩
   | _ => exact ⟨Nat.zero_le _, fun m hm => by cases hm⟩
  have hql := List.length_pos_iff.2 hq
  simp only [List.length_cons] at hpl
  have hs : sub (37 :: 123 :: q : By) 2 (IntKind.i64.wrap (((37 :: 123 :: q : By).length : Int) - 1)) = some (q.take (q.length - 1)) := by
   have hw : IntKind.i64.wrap (((37 :: 123 :: q : By).length : Int) - 1) = ((q.length + 1 : Nat) : Int) := by
    simp only [List.length_cons]
    rw [wrap64 _ (by omega) (by omega)]
    omega
   rw [hw]
   have := sub_nat (37 :: 123 :: q : By) 2 (q.length + 1) (by omega) (by simp)
   rw [show (37 :: 123 :: q : By).drop 2 = q from rfl, show q.length + 1 - 2 = q.length - 1 by omega] at this
   exact this
  have hL := mem22_loop (37 :: 123 :: q) (q.take (q.length - 1)) e.body (ofP e.body).1 (objL (vP e.body)) hll.1 he hnames hitems hll.2 hs (objL (vP e.body)).length 0 (by omega)
  rw [List.drop_zero] at hL
  refine Tends.bind hL.run ?_
  unfold memT
  by_cases h2 : (firstM (q.take (q.length - 1)) (objL (vP e.body))).2 = true
  ·rw [if_pos h2, if_pos h2]
   exact .ret _
  ·rw [if_neg h2, if_neg h2]
   exact .ret _
/-! ### filling -/
theorem fill22_loop (s : By) (hs : s.length ≤ 1000) (e : EnT) (he : e.key.length ≤ 1000 ∧ e.method.length ≤ 1000 ∧ e.path.length ≤ 1000 ∧ e.body.length ≤ 1000) : ∀ (n p : Nat) (out : By) (m : List Pc), s.length - p ≤ n → p ≤ s.length → out.length ≤ 1000 * p → tokP (s.drop p) = some m → TendsL M_conciergeref22_Fill_l0 (s, (), out, (p : Int), e, ()) (out ++ flatL (valT e) m, ()) := by
 intro n
 induction n with
 | zero =>
  intro p out m hn hp ho ht
  rw [List.drop_eq_nil_of_le (by omega), tokP_nil] at ht
  cases ht
  refine TendsL.fin (.of fun F => ?_)
  unfold M_conciergeref22_Fill_l0
  rw [if_neg (by rw [decide_eq_true_eq]; simp only; omega)]
  show some (Sum.inr (out, ())) = some (Sum.inr (out ++ [], ()))
  rw [List.append_nil]
 | succ n ih =>
  intro p out m hn hp ho ht
  by_cases hlt : p < s.length
  case neg =>
   rw [List.drop_eq_nil_of_le (by omega), tokP_nil] at ht
   cases ht
   refine TendsL.fin (.of fun F => ?_)
   unfold M_conciergeref22_Fill_l0
   rw [if_neg (by rw [decide_eq_true_eq]; simp only; omega)]
   show some (Sum.inr (out, ())) = some (Sum.inr (out ++ [], ()))
   rw [List.append_nil]
  have hd : s.drop p = s[p] :: s.drop (p + 1) := List.drop_eq_getElem_cons hlt
  have hx0 : idx s (p : Int) = some s[p] := idx_at _ _ _ (List.getElem?_eq_getElem hlt)
  have hse := sub_to_end s p (by omega)
  have hlen : (s.drop p).length = s.length - p := List.length_drop
  have hw1 : IntKind.i64.wrap ((p : Int) + 1) = ((p + 1 : Nat) : Int) := by rw [wrap64 _ (by omega) (by omega)]; omega
  have ih1 := fun out m => ih (p + 1) out m (by omega) (by omega)
  have hdd : ∀ m, (s.drop p).drop m = s.drop (p + m) := fun m => List.drop_drop
  have hsb : ∀ g : Nat, p + g ≤ s.length → sub s (p : Int) ((p + g : Nat) : Int) = some ((s.drop p).take g) := by
   intro g hg
   have := sub_nat s p (p + g) (by omega) hg
   rw [Nat.add_sub_cancel_left] at this
   exact this
  rw [hd] at hse hlen hdd hsb ht
  rw [tokP_cons] at ht
  generalize hr : s.drop (p + 1) = r at *
  generalize s[p] = c at *
  have n37 : ((c.toNat : Int) = 37) = (c = 37) := nvB c 37
  by_cases h37 : c = 37
  ·rw [if_pos h37] at ht
   by_cases hg : gapN (c :: r) = 0
   ·rw [if_pos hg] at ht; cases ht
   rw [if_neg hg] at ht
   obtain ⟨m', hm, rfl⟩ := Option.map_eq_some_iff.1 ht
   have hgle := gapN_le (c :: r)
   have h1 := gapN_one (c :: r)
   have hgt := gap22_t c r (by simp only [List.length_cons] at hlen; omega)
   have hw : IntKind.i64.wrap ((p : Int) + (gapN (c :: r) : Int)) = ((p + gapN (c :: r) : Nat) : Int) := by rw [wrap64 _ (by omega) (by omega)]; omega
   have hsg := hsb (gapN (c :: r)) (by omega)
   have hgS : gapS ((c :: r).take (gapN (c :: r))) := by
    subst h37
    exact gap_isS r hg
   have hvl := valT_len e ((c :: r).take (gapN (c :: r))) he
   have hvt := value22_t ((c :: r).take (gapN (c :: r))) e hgS (by simp only [List.length_take]; omega) he.2.2.2
   have ihg := ih (p + gapN (c :: r)) (out ++ valT e ((c :: r).take (gapN (c :: r)))) m' (by omega) (by omega) (by rw [List.length_append]; omega) (by rw [← hdd]; exact hm)
   rw [flat_cons, if_pos rfl, ← List.append_assoc]
   refine TendsL.step ?_ ihg
   unfold M_conciergeref22_Fill_l0
   refine Tends.pos (by rw [decide_eq_true_eq]; simp only; omega) ?_
   refine Tends.bind (.of fun F => hx0) ?_
   refine Tends.bind (r := ((s, (), out ++ valT e ((c :: r).take (gapN (c :: r))), (p : Int), (gapN (c :: r) : Int), e, ()) : By × Unit × By × Int × Int × EnT × Unit)) ?_ (.of fun F => by simp only [hw])
   refine Tends.pos (by simp only [n37, decide_eq_true h37]) ?_
   refine Tends.bind (.of fun F => hse) ?_
   refine Tends.bind hgt ?_
   refine Tends.bind (r := ((s, (), out ++ valT e ((c :: r).take (gapN (c :: r))), (p : Int), (gapN (c :: r) : Int), e, ()) : By × Unit × By × Int × Int × EnT × Unit)) (Tends.bind (.of fun F => by simp only [hw]; exact hsg) ?_) (.ret _)
   refine Tends.bind hvt ?_
   exact Tends.pos (by rw [decide_eq_true_eq]; simp only; omega) (.ret _)
  ·rw [if_neg h37] at ht
   obtain ⟨m', hm, rfl⟩ := Option.map_eq_some_iff.1 ht
   have hs1 : sub s (p : Int) ((p + 1 : Nat) : Int) = some [c] := hsb 1 (by omega)
   rw [flat_cons, if_neg Bool.false_ne_true, ← List.append_assoc]
   refine TendsL.step (x' := (s, (), out ++ [c], ((p + 1 : Nat) : Int), e, ())) (.of fun F => ?_) (ih1 (out ++ [c]) m' (by rw [List.length_append, List.length_singleton]; omega) hm)
   unfold M_conciergeref22_Fill_l0
   rw [if_pos (by rw [decide_eq_true_eq]; simp only; omega)]
   simp only [hx0, Option.bind_some, n37, decide_eq_false h37, Bool.false_eq_true, if_false, hw1, hs1]
   rw [if_pos (by rw [decide_eq_true_eq]; simp only [List.length_singleton]; omega)]
   simp only [Option.bind_some, hw1]
theorem out22_loop (l : List Int) (hl : l.length ≤ 1000000) (hok : ∀ n ∈ l, ∃ c : Nat, n = (c : Int) ∧ okR c) : ∀ (n i : Nat) (acc : By), i + n = l.length → acc.length ≤ 40 → TendsL M_conciergeref22_Fill_l1 (acc, l, (i : Int), ()) (outL (l.drop i) acc, ())
 | 0, i, acc, h, ha => by
  refine TendsL.fin (.of fun F => ?_)
  unfold M_conciergeref22_Fill_l1
  rw [if_neg (by rw [decide_eq_true_eq]; simp only; omega), List.drop_eq_nil_of_le (by omega)]
  rfl
 | n + 1, i, acc, h, ha => by
  have hi : i < l.length := by omega
  have hx0 : idx l (i : Int) = some l[i] := idx_at _ _ _ (List.getElem?_eq_getElem hi)
  have hw : IntKind.i64.wrap ((i : Int) + 1) = ((i + 1 : Nat) : Int) := by rw [wrap64 _ (by omega) (by omega)]; omega
  have ih := fun acc => out22_loop l hl hok n (i + 1) acc (by omega)
  obtain ⟨c, hc, hco⟩ := hok l[i] (List.getElem_mem hi)
  rw [List.drop_eq_getElem_cons hi]
  rw [hc] at hx0 ⊢
  have hb := fun F => refBytes_eq F c hco
  rw [enc8_val c hco] at hb
  unfold outL
  rw [Int.toNat_natCast]
  have hpl : (if sortI (c : Int) = 0 then [63] else encN c : By).length ≤ 4 := by
   split
   ·exact Nat.le_of_ble_eq_true rfl
   ·exact encN_len _
  have hbody : ∀ F, M_conciergeref22_Fill_l1 F (acc, l, (i : Int), ()) = if decide (40 < IntKind.i64.wrap ((acc.length : Int) + ((if sortI (c : Int) = 0 then [63] else encN c : By).length : Int))) = true then some (Sum.inr (acc, ())) else if decide (acc.length + (if sortI (c : Int) = 0 then [63] else encN c : By).length ≤ 9223372036854775807) = true then some (Sum.inl (acc ++ (if sortI (c : Int) = 0 then [63] else encN c), l, IntKind.i64.wrap ((i : Int) + 1), ())) else none := by
   intro F
   unfold M_conciergeref22_Fill_l1
   rw [if_pos (by rw [decide_eq_true_eq]; simp only; omega)]
   simp only [hx0, Option.bind_some, refSort_eq]
   by_cases h0 : sortI (c : Int) = 0
   ·rw [if_pos h0, if_neg (by rw [decide_eq_true h0]; decide)]
    rfl
   ·rw [if_neg h0, if_pos (by rw [decide_eq_false h0]; rfl), hb]
    rfl
  generalize (if sortI (c : Int) = 0 then [63] else encN c : By) = w at hpl hbody
  have hwl : IntKind.i64.wrap ((acc.length : Int) + (w.length : Int)) = ((acc.length + w.length : Nat) : Int) := by rw [wrap64 _ (by omega) (by omega)]; omega
  by_cases h40 : 40 < acc.length + w.length
  ·rw [if_pos h40]
   refine TendsL.fin (.of fun F => (hbody F).trans ?_)
   rw [hwl, if_pos (by rw [decide_eq_true_eq]; omega)]
  ·rw [if_neg h40]
   refine TendsL.step (.of fun F => (hbody F).trans ?_) (ih (acc ++ w) (by rw [List.length_append]; omega))
   rw [hwl, if_neg (by rw [decide_eq_true_eq]; omega), if_pos (by rw [decide_eq_true_eq]; omega), hw]
theorem signs_okR : ∀ s : By, ∀ n ∈ (signs s).map (·.1), ∃ c : Nat, n = (c : Int) ∧ okR c := by
 refine signs_ind ?_ ?_
 ·rw [signs_nil]; intro n hn; cases hn
 ·intro l h ih n hn
  rw [signs_cons h, List.map_cons] at hn
  rcases List.mem_cons.1 hn with rfl | hn
  ·exact ⟨_, rfl, rune_ok l⟩
  ·exact ih n hn
theorem flatP_len (val : By → By) (l : List Pc) (h : ∀ p ∈ l, (if p.1 = true then val p.2.1 else p.2.1).length ≤ 1000) : (flatL val l).length ≤ 1000 * l.length := by
 induction l with
 | nil => exact Nat.zero_le _
 | cons p l ih =>
  have h1 := h p (List.mem_cons_self ..)
  have h2 := ih fun q hq => h q (List.mem_cons_of_mem _ hq)
  rw [flat_cons, List.length_append, List.length_cons]
  omega
theorem fill22_t (s : By) (e : EnT) (hs : s.length ≤ 1000) (he : e.key.length ≤ 1000 ∧ e.method.length ≤ 1000 ∧ e.path.length ≤ 1000 ∧ e.body.length ≤ 1000) : Tends (fun F => M_conciergeref22_Fill F (s, e)) (fillT s e) := by
 unfold M_conciergeref22_Fill fillT
 refine Tends.bind (check22_t s hs) ?_
 unfold checkT
 by_cases h6 : 60 < s.length
 ·rw [if_pos h6, decide_eq_false (by omega)]
  exact Tends.pos rfl (.ret _)
 rw [if_neg h6, decide_eq_true (by omega)]
 have h := cut_tok s.length s (Nat.le_refl _)
 cases hc : cutP s with
 | none => exact Tends.pos rfl (.ret _)
 | some l =>
  rw [hc] at h
  obtain ⟨h1, m, h2, _, h4⟩ := h
  obtain ⟨g1, g2⟩ := cut_gaps s.length s (Nat.le_refl _) l hc
  refine Tends.neg (by show ¬ (!true) = true; decide) ?_
  have hl := fill22_loop s hs e he s.length 0 [] m (by omega) (by omega) (by simp) (by rw [List.drop_zero]; exact h2)
  rw [List.nil_append, ← h4] at hl
  refine Tends.bind hl.run ?_
  have hfl := flatP_len (valT e) l fun p hp => by
   split
   ·exact valT_len e _ he
   ·have := (g2 p hp).2; omega
  have hsl := signs_len (flatL (valT e) l)
  refine Tends.bind (signs_tends (flatL (valT e) l) (by omega)) ?_
  have ho := out22_loop ((signs (flatL (valT e) l)).map (·.1)) (by rw [List.length_map]; omega) (signs_okR _) ((signs (flatL (valT e) l)).map (·.1)).length 0 [] (by omega) (by decide)
  rw [List.drop_zero] at ho
  exact Tends.bind ho.run (.ret _)
end Go.Vm
