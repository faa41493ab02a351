/- Phrases: what the program fills is the plain text. No condition but on lengths. -/
import Derived.Test.YtihpjgcbmipdbaaGreatDoorPu5
import Derived.Test.YtihpjgcbmipdbaaGreatDoorPjv
namespace Go.Vm
open Go.Lib (decodeL decodeN decodeL_N decode_N decodeN_shape decodeL_le)
set_option linter.unusedVariables false
set_option linter.unusedSimpArgs false
/-! ### values -/
abbrev EnT := Int × By × Int × Int × Int × Int × By × Int × Int × Int × By × By × By × By × Unit
abbrev EnT.key (e : EnT) : By := e.2.1
abbrev EnT.method (e : EnT) : By := e.2.2.2.2.2.2.2.2.2.2.2.1
abbrev EnT.path (e : EnT) : By := e.2.2.2.2.2.2.2.2.2.2.2.2.1
abbrev EnT.body (e : EnT) : By := e.2.2.2.2.2.2.2.2.2.2.2.2.2.1
def memT (body name : By) : By := if (firstM name (objL (vP body))).2 = true then (if kindP (vP (firstM name (objL (vP body))).1) = 4 then textP (vP (firstM name (objL (vP body))).1) else (firstM name (objL (vP body))).1) else []
def valT (e : EnT) (g : By) : By := match g with
 | _ :: b :: q => if b = 98 then e.body else if b = 107 then e.key else if b = 109 then e.method else if b = 112 then e.path else if b = 37 then [37] else memT e.body (q.take (q.length - 1))
 | _ => []
theorem first_len (name : By) : ∀ l : List Me, (∀ m ∈ l, (layP 7 m.2.1).length ≤ 400) → (firstM name l).1.length ≤ 400
 | [], h => Nat.zero_le _
 | m :: l, h => by
  unfold firstM
  split
  ·exact h m (List.mem_cons_self ..)
  ·exact first_len name l fun x hx => h x (List.mem_cons_of_mem _ hx)
theorem first_ok (body name : By) : (firstM name (objL (vP body))).1.length ≤ 400 := by
 have hv := vP_ok body
 cases hc : vP body with
 | obj l => exact first_len name l fun m hm => ((obj_facts hv hc).2.2 m hm).2
 | _ => exact Nat.zero_le _
theorem text_len (s : By) : (textP (vP s)).length ≤ 400 := by
 have hv := vP_ok s
 cases hc : vP s with
 | str t =>
  rw [hc] at hv
  rcases hv with h | ⟨_, h2⟩
  ·cases h
  ·have e : layP 8 (.str t) = quo t := rfl
   rw [e] at h2
   have := quoL_ge t
   unfold quo at h2
   simp only [List.length_cons, List.length_append, List.length_nil] at h2
   show t.length ≤ 400
   omega
 | _ => exact Nat.zero_le _
theorem mem_len (body name : By) : (memT body name).length ≤ 400 := by
 unfold memT
 split
 ·split
  ·exact text_len _
  ·exact first_ok body name
 ·exact Nat.zero_le _
theorem member_v (body name : By) (hb : body.length ≤ 1000) : Tends (fun F => M_phrase_member F (body, name)) (memT body name) := by
 unfold M_phrase_member
 refine Tends.bind (field_v body name hb) ?_
 have h4 := first_ok body name
 unfold memT
 generalize firstM name (objL (vP body)) = v at h4
 cases hv : v.2 with
 | false => exact Tends.pos rfl (.ret _)
 | true =>
  refine Tends.neg (by decide) ?_
  refine Tends.bind (text_v v.1 (by omega)) ?_
  rw [if_pos rfl]
  by_cases hk : kindP (vP v.1) = 4
  ·rw [if_pos hk]
   exact Tends.pos (decide_eq_true hk) (.ret _)
  ·rw [if_neg hk]
   exact Tends.neg (by rw [decide_eq_true_eq]; exact hk) (.ret _)
def gapT (g : By) : Prop := ∃ b q, g = 37 :: b :: q ∧ (b = 37 ∨ b = 98 ∨ b = 107 ∨ b = 109 ∨ b = 112 ∨ (b = 123 ∧ q ≠ []))
theorem value_v (p : Pc) (e : EnT) (hp : p.1 = true → gapT p.2.1) (hpl : p.2.1.length ≤ 1000) (he : e.body.length ≤ 1000) : Tends (fun F => M_phrase_value F (p, e)) (if p.1 = true then valT e p.2.1 else p.2.1) := by
 obtain ⟨g, t, u⟩ := p
 unfold M_phrase_value
 cases g with
 | false => exact Tends.pos rfl (.ret _)
 | true =>
  obtain ⟨b, q, hq, hb⟩ := hp rfl
  simp only at hq hpl
  subst hq
  have hi : idx (37 :: b :: q : By) 1 = some b := idx_at _ 1 _ rfl
  have nv : ∀ k : UInt8, ((b.toNat : Int) = (k.toNat : Int)) = (b = k) := fun k => nvB b k
  have n98 : ((b.toNat : Int) = 98) = (b = 98) := nv 98
  have n107 : ((b.toNat : Int) = 107) = (b = 107) := nv 107
  have n109 : ((b.toNat : Int) = 109) = (b = 109) := nv 109
  have n112 : ((b.toNat : Int) = 112) = (b = 112) := nv 112
  have n37 : ((b.toNat : Int) = 37) = (b = 37) := nv 37
  refine Tends.neg (by show ¬ (!true) = true; decide) ?_
  refine Tends.bind (.of fun F => hi) ?_
  rw [if_pos rfl]
  unfold valT
  simp only [n98, n107, n109, n112, n37]
  by_cases c1 : b = 98
  ·rw [if_pos c1]; exact Tends.pos (decide_eq_true c1) (.ret _)
  rw [if_neg c1]
  refine Tends.neg (by rw [decide_eq_true_eq]; exact c1) ?_
  by_cases c2 : b = 107
  ·rw [if_pos c2]; exact Tends.pos (decide_eq_true c2) (.ret _)
  rw [if_neg c2]
  refine Tends.neg (by rw [decide_eq_true_eq]; exact c2) ?_
  by_cases c3 : b = 109
  ·rw [if_pos c3]; exact Tends.pos (decide_eq_true c3) (.ret _)
  rw [if_neg c3]
  refine Tends.neg (by rw [decide_eq_true_eq]; exact c3) ?_
  by_cases c4 : b = 112
  ·rw [if_pos c4]; exact Tends.pos (decide_eq_true c4) (.ret _)
  rw [if_neg c4]
  refine Tends.neg (by rw [decide_eq_true_eq]; exact c4) ?_
  by_cases c5 : b = 37
  ·rw [if_pos c5]; exact Tends.pos (decide_eq_true c5) (.ret _)
  rw [if_neg c5]
  refine Tends.neg (by rw [decide_eq_true_eq]; exact c5) ?_
  have hqn : q ≠ [] := by
   rcases hb with h | h | h | h | h | h
   ·exact absurd h c5
   ·exact absurd h c1
   ·exact absurd h c2
   ·exact absurd h c3
   ·exact absurd h c4
   ·exact h.2
  have hql := List.length_pos_iff.2 hqn
  simp only [List.length_cons] at hpl
  have hs : sub (37 :: b :: q : By) 2 (IntKind.i64.wrap (((37 :: b :: q : By).length : Int) - 1)) = some (q.take (q.length - 1)) := by
   have hw : IntKind.i64.wrap (((37 :: b :: q : By).length : Int) - 1) = ((q.length + 1 : Nat) : Int) := by
    simp only [List.length_cons]
    rw [wrap64 _ (by omega) (by omega)]
    omega
   rw [hw]
   have := sub_nat (37 :: b :: q : By) 2 (q.length + 1) (by omega) (by simp)
   rw [show (37 :: b :: q : By).drop 2 = q from rfl, show q.length + 1 - 2 = q.length - 1 by omega] at this
   exact this
  refine Tends.bind (r := ((memT e.body (q.take (q.length - 1)), ()) : By × Unit)) (Tends.bind (.of fun F => hs) (Tends.bind (member_v _ _ he) (.ret _))) (.ret _)
theorem gap_isT (r : By) (h : gapN (37 :: r) ≠ 0) : gapT ((37 :: r : By).take (gapN (37 :: r))) := by
 unfold gapN at h ⊢
 cases r with
 | nil => exact absurd rfl h
 | cons b q =>
  simp only at h ⊢
  by_cases hc : b = 37 ∨ b = 98 ∨ b = 107 ∨ b = 109 ∨ b = 112
  ·rw [if_pos hc]
   refine ⟨b, [], rfl, ?_⟩
   rcases hc with h | h | h | h | h <;> simp [h]
  ·rw [if_neg hc] at h ⊢
   by_cases hb : b = 123
   ·rw [if_pos hb] at h ⊢
    by_cases hk : (q.takeWhile (fun c => c != 125)).length < q.length ∧ nmP (q.takeWhile (fun c => c != 125)) = true
    ·rw [if_pos hk]
     refine ⟨b, q.take ((q.takeWhile (fun c => c != 125)).length + 1), ?_, ?_⟩
     ·rw [show (q.takeWhile (fun c => c != 125)).length + 3 = ((q.takeWhile (fun c => c != 125)).length + 1) + 1 + 1 by omega, List.take_succ_cons, List.take_succ_cons]
     ·refine .inr (.inr (.inr (.inr (.inr ⟨hb, ?_⟩))))
      intro hh
      have := congrArg List.length hh
      rw [List.length_take] at this
      simp only [List.length_nil] at this
      omega
    ·rw [if_neg hk] at h; exact absurd rfl h
   ·rw [if_neg hb] at h; exact absurd rfl h
theorem cut_gaps : ∀ (n : Nat) (s : By), s.length ≤ n → ∀ l, cutP s = some l → l.length ≤ s.length ∧ ∀ p ∈ l, (p.1 = true → gapT p.2.1) ∧ p.2.1.length ≤ s.length
 | 0, s, h, l, hl => by
  obtain rfl : s = [] := List.length_eq_zero_iff.1 (by omega)
  rw [cutP_nil] at hl
  cases hl
  exact ⟨Nat.le_refl _, fun p hp => by cases hp⟩
 | n + 1, s, h, l, hl => by
  cases s with
  | nil =>
   rw [cutP_nil] at hl
   cases hl
   exact ⟨Nat.le_refl _, fun p hp => by cases hp⟩
  | cons c r =>
   have hp := decodeL_pos (c :: r)
   have hgl := gapN_le (c :: r)
   simp only [List.length_cons] at h hgl ⊢
   rw [cutP_cons] at hl
   split at hl
   ·cases hl
   split at hl
   ·rename_i h37
    subst h37
    split at hl
    ·cases hl
    ·rename_i hg
     obtain ⟨l', h1, rfl⟩ := Option.map_eq_some_iff.1 hl
     obtain ⟨i1, i2⟩ := cut_gaps n ((37 :: r : By).drop (gapN (37 :: r))) (by rw [List.length_drop, List.length_cons]; omega) l' h1
     rw [List.length_drop, List.length_cons] at i1 i2
     refine ⟨by rw [List.length_cons]; omega, fun p hp => ?_⟩
     rcases List.mem_cons.1 hp with rfl | hp
     ·exact ⟨fun _ => gap_isT r hg, by simp only [List.length_take, List.length_cons]; omega⟩
     ·exact ⟨(i2 p hp).1, by have := (i2 p hp).2; omega⟩
   ·obtain ⟨l', h1, rfl⟩ := Option.map_eq_some_iff.1 hl
    obtain ⟨i1, i2⟩ := cut_gaps n ((c :: r).drop (decodeL (c :: r)).2) (by rw [List.length_drop, List.length_cons]; omega) l' h1
    rw [List.length_drop, List.length_cons] at i1 i2
    refine ⟨by rw [List.length_cons]; omega, fun p hp => ?_⟩
    rcases List.mem_cons.1 hp with rfl | hp
    ·exact ⟨fun hh => absurd hh Bool.false_ne_true, by simp only [List.length_take, List.length_cons]; omega⟩
    ·exact ⟨(i2 p hp).1, by have := (i2 p hp).2; omega⟩
/-! ### filling -/
theorem valT_len (e : EnT) (g : By) (h : e.key.length ≤ 1000 ∧ e.method.length ≤ 1000 ∧ e.path.length ≤ 1000 ∧ e.body.length ≤ 1000) : (valT e g).length ≤ 1000 := by
 unfold valT
 split
 ·repeat' split
  ·exact h.2.2.2
  ·exact h.1
  ·exact h.2.1
  ·exact h.2.2.1
  ·exact Nat.le_of_ble_eq_true rfl
  ·exact Nat.le_trans (mem_len _ _) (by decide)
 ·exact Nat.zero_le _
theorem flat_cons (val : By → By) (p : Pc) (l : List Pc) : flatL val (p :: l) = (if p.1 = true then val p.2.1 else p.2.1) ++ flatL val l := by unfold flatL; rw [List.flatMap_cons]
theorem fill0_loop (l : List Pc) (e : EnT) (hll : l.length ≤ 1000) (hl : ∀ p ∈ l, (p.1 = true → gapT p.2.1) ∧ p.2.1.length ≤ 1000) (he : e.key.length ≤ 1000 ∧ e.method.length ≤ 1000 ∧ e.path.length ≤ 1000 ∧ e.body.length ≤ 1000) : ∀ (n i : Nat) (out : By), i + n = l.length → out.length ≤ 1000 * i →
  TendsL M_phrase_Fill_l0 ((), (), l, (l.length : Int), (i : Int), e, ((), (), ()), out, ()) ((), ((), (), ()), out ++ flatL (valT e) (l.drop i), ())
 | 0, i, out, h, ho => by
  refine TendsL.fin (.of fun F => ?_)
  unfold M_phrase_Fill_l0
  rw [if_neg (by rw [decide_eq_true_eq]; simp only; omega), List.drop_eq_nil_of_le (by omega)]
  show some (Sum.inr ((), ((), (), ()), out, ())) = some (Sum.inr ((), ((), (), ()), out ++ [], ()))
  rw [List.append_nil]
 | n + 1, i, out, h, ho => by
  have hi : i < l.length := by omega
  have hx : idx l (i : Int) = some l[i] := idx_at _ _ _ (List.getElem?_eq_getElem hi)
  obtain ⟨p1, p2⟩ := hl l[i] (List.getElem_mem hi)
  have hv := value_v l[i] e p1 p2 he.2.2.2
  have hvl : (if l[i].1 = true then valT e l[i].2.1 else l[i].2.1).length ≤ 1000 := by
   split
   ·exact valT_len e _ he
   ·exact p2
  have hw : IntKind.i64.wrap ((i : Int) + 1) = ((i + 1 : Nat) : Int) := by rw [wrap64 _ (by omega) (by omega)]; omega
  rw [List.drop_eq_getElem_cons hi, flat_cons]
  generalize (if l[i].1 = true then valT e l[i].2.1 else l[i].2.1) = v at hv hvl
  refine TendsL.step (x' := ((), (), l, (l.length : Int), ((i + 1 : Nat) : Int), e, ((), (), ()), out ++ v, ())) ?_ ?_
  ·unfold M_phrase_Fill_l0
   refine Tends.pos (by rw [decide_eq_true_eq]; simp only; omega) ?_
   refine Tends.bind (.of fun F => hx) ?_
   refine Tends.bind hv ?_
   refine Tends.bind (r := (((v.length : Int), ()), (), out ++ v, ())) (.of fun F => ?_) (.of fun F => ?_)
   ·unfold M_strings_Builder_WriteString
    have : M_strings_Builder_copyCheck F ((), out, ()) = some ((), (), out, ()) := rfl
    simp only [this, Option.bind_some]
    rw [if_pos (by rw [decide_eq_true_eq]; omega)]
    rfl
   ·simp only [hw]
  ·have := fill0_loop l e hll hl he n (i + 1) (out ++ v) (by omega) (by rw [List.length_append]; omega)
   rw [List.append_assoc] at this
   exact this
def outL : List Int → By → By
 | [], acc => acc
 | n :: l, acc => if 40 < acc.length + (if sortI n = 0 then [63] else encN n.toNat).length then acc else outL l (acc ++ (if sortI n = 0 then [63] else encN n.toNat))
theorem runes_snoc (l : List Int) (n : Int) : runes8 (l ++ [n]) = runes8 l ++ enc8 n := by
 unfold runes8
 simp
theorem fill1_loop (T : By) : ∀ (n p : Nat) (R : List Int) (acc : By), p ≤ T.length → T.length - p ≤ n → runes8 R = acc → acc.length ≤ 40 → R.length ≤ 40 →
  ∃ R', TendsL M_phrase_Fill_l1 ((), (acc.length : Int), (), (T, p), R, ()) ((), R', ()) ∧ runes8 R' = outL ((signs (T.drop p)).map (·.1)) acc := by
 intro n
 induction n with
 | zero =>
  intro p R acc hp hn hR ha hr
  rw [List.drop_eq_nil_of_le (by omega), signs_nil]
  refine ⟨R, TendsL.fin (.of fun F => ?_), hR⟩
  unfold M_phrase_Fill_l1
  rw [if_neg (by rw [decide_eq_true_eq]; simp only; omega)]
 | succ n ih =>
  intro p R acc hp hn hR ha hr
  by_cases hlt : p < T.length
  case neg =>
   rw [List.drop_eq_nil_of_le (by omega), signs_nil]
   refine ⟨R, TendsL.fin (.of fun F => ?_), hR⟩
   unfold M_phrase_Fill_l1
   rw [if_neg (by rw [decide_eq_true_eq]; exact hlt)]
  have hne := drop_ne hlt
  have hra := runeAt_eq T p
  have hrl := runeLen_eq T p
  have hok := rune_ok (T.drop p)
  have hnx := next_le hlt
  have hpos := decodeL_pos (T.drop p)
  rw [signs_cons hne, List.drop_drop, List.map_cons]
  generalize (decodeL (T.drop p)).1 = c at *
  generalize (decodeL (T.drop p)).2 = k at *
  unfold outL
  simp only [Int.toNat_natCast]
  -- the sign that is let out
  obtain ⟨d, hd1, hd2, hd3⟩ : ∃ d : Nat, okR d ∧ (if sortI (c : Int) = 0 then [63] else encN c) = encN d ∧ (if sortI (c : Int) = 0 then (63 : Int) else (c : Int)) = (d : Int) := by
   by_cases h0 : sortI (c : Int) = 0
   ·exact ⟨63, by unfold okR; omega, by rw [if_pos h0]; rfl, by rw [if_pos h0]; rfl⟩
   ·exact ⟨c, hok, by rw [if_neg h0], by rw [if_neg h0]⟩
  have hrn := fun F => runeLen_N F d hd1
  have hel := encN_len d
  have hep := encN_pos d
  rw [hd2]
  have hw : IntKind.i64.wrap ((acc.length : Int) + ((encN d).length : Int)) = ((acc.length + (encN d).length : Nat) : Int) := by rw [wrap64 _ (by omega) (by omega)]; omega
  have hbody : ∀ (z : (Unit × Int × Unit × (By × Nat) × List Int × Unit) ⊕ (Unit × List Int × Unit)), (∀ F : Nat, (if decide (40 < ((acc.length + (encN d).length : Nat) : Int)) = true then some (Sum.inr ((), R, ())) else if decide ((R.length + [(d : Int)].length) * 4 ≤ 140737488355328) = true then some (Sum.inl ((), ((acc.length + (encN d).length : Nat) : Int), (), (T, p + k), R ++ [(d : Int)], ())) else none : Option ((Unit × Int × Unit × (By × Nat) × List Int × Unit) ⊕ (Unit × List Int × Unit))) = some z) → ∀ F, M_phrase_Fill_l1 F ((), (acc.length : Int), (), (T, p), R, ()) = some z := by
   intro z hz F
   have hz := hz F
   unfold M_phrase_Fill_l1
   rw [if_pos (by rw [decide_eq_true_eq]; exact hlt)]
   simp only [hra, hrl, sort_eq, Option.bind_some]
   have h9 : (if decide (sortI (c : Int) = 0) = true then some ((), (acc.length : Int), 63, (), (T, p + k), R, ()) else some ((), (acc.length : Int), (c : Int), (), (T, p + k), R, ()) : Option (Unit × Int × Int × Unit × (By × Nat) × List Int × Unit)) = some ((), (acc.length : Int), (d : Int), (), (T, p + k), R, ()) := by
    by_cases h0 : sortI (c : Int) = 0
    ·rw [if_pos (decide_eq_true h0)]
     rw [if_pos h0] at hd3
     rw [← hd3]
    ·rw [if_neg (by rw [decide_eq_true_eq]; exact h0)]
     rw [if_neg h0] at hd3
     rw [← hd3]
   rw [h9]
   simp only [Option.bind_some, hrn F, hw]
   exact hz
  by_cases h40 : 40 < acc.length + (encN d).length
  ·rw [if_pos h40]
   refine ⟨R, TendsL.fin (.of (hbody _ fun F => ?_)), hR⟩
   rw [if_pos (by rw [decide_eq_true_eq]; omega)]
  ·rw [if_neg h40]
   -- as many signs as bytes at most
   have hlen : ∀ l : List Int, (∀ n ∈ l, 1 ≤ (enc8 n).length) → l.length ≤ (runes8 l).length := by
    intro l
    induction l using list_snoc_ind with
    | h0 => intro _; exact Nat.zero_le _
    | h1 l a ih2 =>
     intro h
     have h1 := ih2 fun n hn => h n (List.mem_append_left _ hn)
     have h2 := h a (by simp)
     rw [runes_snoc, List.length_append, List.length_append, List.length_singleton]
     omega
   have henc : ∀ n : Int, 1 ≤ (enc8 n).length := fun n => by rw [e3]; exact encN_pos _
   have hRd : runes8 (R ++ [(d : Int)]) = acc ++ encN d := by rw [runes_snoc, hR, enc8_val d hd1]
   have hRl : (R ++ [(d : Int)]).length ≤ 40 := by
    have h3 := hlen (R ++ [(d : Int)]) (fun n _ => henc n)
    rw [hRd] at h3
    have h4 : (acc ++ encN d).length = acc.length + (encN d).length := List.length_append
    omega
   have hal : (acc ++ encN d).length = acc.length + (encN d).length := List.length_append
   obtain ⟨R', i1, i2⟩ := ih (p + k) (R ++ [(d : Int)]) (acc ++ encN d) hnx (by omega) hRd (by omega) hRl
   refine ⟨R', TendsL.step (.of (hbody _ fun F => ?_)) i1, i2⟩
   rw [if_neg (by rw [decide_eq_true_eq]; omega), if_pos (by rw [decide_eq_true_eq]; simp only [List.length_singleton]; omega), hal]
def fillT (s : By) (e : EnT) : By := if 60 < s.length then [] else match cutP s with
 | none => []
 | some l => outL ((signs (flatL (valT e) l)).map (·.1)) []
theorem fill_t (s : By) (e : EnT) (hs : s.length ≤ 1000) (he : e.key.length ≤ 1000 ∧ e.method.length ≤ 1000 ∧ e.path.length ≤ 1000 ∧ e.body.length ≤ 1000) : Tends (fun F => M_phrase_Fill F (s, e)) (fillT s e) := by
 unfold M_phrase_Fill fillT
 refine Tends.bind (cut_t s hs) ?_
 unfold cutT
 by_cases h6 : 60 < s.length
 ·rw [if_pos h6, if_pos h6]
  exact Tends.pos rfl (.ret _)
 rw [if_neg h6, if_neg h6]
 cases hc : cutP s with
 | none => exact Tends.pos rfl (.ret _)
 | some l =>
  obtain ⟨g1, g2⟩ := cut_gaps s.length s (Nat.le_refl _) l hc
  refine Tends.neg (by show ¬ (!true) = true; decide) ?_
  have h0 := fill0_loop l e (by omega) (fun p hp => ⟨(g2 p hp).1, by have := (g2 p hp).2; omega⟩) he l.length 0 [] (by omega) (by simp)
  rw [List.drop_zero, List.nil_append] at h0
  refine Tends.bind h0.run ?_
  refine Tends.bind (r := (flatL (valT e) l, ((), (), ()))) (.ret _) ?_
  obtain ⟨R', i1, i2⟩ := fill1_loop (flatL (valT e) l) (flatL (valT e) l).length 0 [] [] (Nat.zero_le _) (by omega) rfl (by decide) (by decide)
  rw [List.drop_zero] at i2
  show Tends _ (outL ((signs (flatL (valT e) l)).map (·.1)) [])
  rw [← i2]
  exact Tends.bind i1.run (.ret _)
end Go.Vm
