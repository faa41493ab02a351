import Derived.Test.YtihpjgcbmipdbaaGreatDoorPjv
import Derived.Test.YtihpjgcbmipdbaaGreatDoorPu5
import Derived.Test.YtihpjgcbmipdbaaGreatDoorFlaw22
import Derived.Test.YtihpjgcbmipdbaaGreatDoorPh1
import Derived.Test.YtihpjgcbmipdbaaGreatDoorFsignx
/- Phrases: what the program fills is the plain text. No condition but on lengths. -/
namespace Go.Vm
open Go.Lib (decodeL decodeN decodeL_N decode_N decodeN_shape decodeL_le)
set_option linter.unusedVariables false
set_option linter.unusedSimpArgs false
/-! ### values -/
abbrev EnT := Int × By × Int × Int × Int × Int × By × Int × Int × Int × By × By × By × By × Unit
abbrev EnT.key (e : EnT) : By := e.2.1
abbrev EnT.method (e : EnT) : By := e.2.2.2.2.2.2.2.2.2.2.2.1
abbrev EnT.path (e : EnT) : By := e.2.2.2.2.2.2.2.2.2.2.2.2.1
abbrev EnT.body (e : EnT) : By := e.2.2.2.2.2.2.2.2.2.2.2.2.2.1
def memT (body name : By) : By := if (firstM name (objL (vP body))).2 = true then (if kindP (vP (firstM name (objL (vP body))).1) = 4 then textP (vP (firstM name (objL (vP body))).1) else (firstM name (objL (vP body))).1) else []
def valT (e : EnT) (g : By) : By := match g with
 | _ :: b :: q => if b = 98 then e.body else if b = 107 then e.key else if b = 109 then e.method else if b = 112 then e.path else if b = 37 then [37] else memT e.body (q.take (q.length - 1))
 | _ => []
theorem first_len (name : By) : ∀ l : List Me, (∀ m ∈ l, (layP 7 m.2.1).length ≤ 400) → (firstM name l).1.length ≤ 400
 | [], h => Nat.zero_le _
 | m :: l, h => by
  unfold firstM
  split
  ·exact h m (List.mem_cons_self ..)
  ·exact first_len name l fun x hx => h x (List.mem_cons_of_mem _ hx)
theorem first_ok (body name : By) : (firstM name (objL (vP body))).1.length ≤ 400 := by
 have hv := vP_ok body
 cases hc : vP body with
 | obj l => exact first_len name l fun m hm => ((obj_facts hv hc).2.2 m hm).2
 | _ => exact Nat.zero_le _
theorem text_len (s : By) : (textP (vP s)).length ≤ 400 := by
 have hv := vP_ok s
 cases hc : vP s with
 | str t =>
  rw [hc] at hv
  rcases hv with h | ⟨_, h2⟩
  ·cases h
  ·have e : layP 8 (.str t) = quo t := rfl
   rw [e] at h2
   have := quoL_ge t
   unfold quo at h2
   simp only [List.length_cons, List.length_append, List.length_nil] at h2
   show t.length ≤ 400
   omega
 | _ => exact Nat.zero_le _
theorem mem_len (body name : By) : (memT body name).length ≤ 400 := by
 unfold memT
 split
 ·split
  ·exact text_len _
  ·exact first_ok body name
 ·exact Nat.zero_le _
theorem member_v (body name : By) (hb : body.length ≤ 1000) : Tends (fun F => M_phrase_member F (body, name)) (memT body name) := by
 unfold M_phrase_member
 refine Tends.bind (field_v body name hb) ?_
 have h4 := first_ok body name
 unfold memT
 generalize firstM name (objL (vP body)) = v at h4
 cases hv : v.2 with
 | false => exact Tends.pos rfl (.ret _)
 | true =>
  refine Tends.neg (by decide) ?_
  refine Tends.bind (text_v v.1 (by omega)) ?_
  rw [if_pos rfl]
  by_cases hk : kindP (vP v.1) = 4
  ·rw [if_pos hk]
   exact Tends.pos (decide_eq_true hk) (.ret _)
  ·rw [if_neg hk]
   exact Tends.neg (by rw [decide_eq_true_eq]; exact hk) (.ret _)
def gapT (g : By) : Prop := ∃ b q, g = 37 :: b :: q ∧ (b = 37 ∨ b = 98 ∨ b = 107 ∨ b = 109 ∨ b = 112 ∨ (b = 123 ∧ q ≠ []))
theorem value_v (p : Pc) (e : EnT) (hp : p.1 = true → gapT p.2.1) (hpl : p.2.1.length ≤ 1000) (he : e.body.length ≤ 1000) : Tends (fun F => M_phrase_value F (p, e)) (if p.1 = true then valT e p.2.1 else p.2.1) := by
 obtain ⟨g, t, u⟩ := p
 unfold M_phrase_value
 cases g with
 | false => exact Tends.pos rfl (.ret _)
 | true =>
  obtain ⟨b, q, hq, hb⟩ := hp rfl
  simp only at hq hpl
  subst hq
  have hi : idx (37 :: b :: q : By) 1 = some b := idx_at _ 1 _ rfl
  have nv : ∀ k : UInt8, ((b.toNat : Int) = (k.toNat : Int)) = (b = k) := fun k => nvB b k
  have n98 : ((b.toNat : Int) = 98) = (b = 98) := nv 98
  have n107 : ((b.toNat : Int) = 107) = (b = 107) := nv 107
  have n109 : ((b.toNat : Int) = 109) = (b = 109) := nv 109
  have n112 : ((b.toNat : Int) = 112) = (b = 112) := nv 112
  have n37 : ((b.toNat : Int) = 37) = (b = 37) := nv 37
  refine Tends.neg (by show ¬ (!true) = true; decide) ?_
  refine Tends.bind (.of fun F => hi) ?_
  rw [if_pos rfl]
  unfold valT
  simp only [n98, n107, n109, n112, n37]
  by_cases c1 : b = 98
  ·rw [if_pos c1]; exact Tends.pos (decide_eq_true c1) (.ret _)
  rw [if_neg c1]
  refine Tends.neg (by rw [decide_eq_true_eq]; exact c1) ?_
  by_cases c2 : b = 107
  ·rw [if_pos c2]; exact Tends.pos (decide_eq_true c2) (.ret _)
  rw [if_neg c2]
  refine Tends.neg (by rw [decide_eq_true_eq]; exact c2) ?_
  by_cases c3 : b = 109
  ·rw [if_pos c3]; exact Tends.pos (decide_eq_true c3) (.ret _)
  rw [if_neg c3]
  refine Tends.neg (by rw [decide_eq_true_eq]; exact c3) ?_
  by_cases c4 : b = 112
  ·rw [if_pos c4]; exact Tends.pos (decide_eq_true c4) (.ret _)
  rw [if_neg c4]
  refine Tends.neg (by rw [decide_eq_true_eq]; exact c4) ?_
  by_cases c5 : b = 37
  ·rw [if_pos c5]; exact Tends.pos (decide_eq_true c5) (.ret _)
  rw [if_neg c5]
  refine Tends.neg (by rw [decide_eq_true_eq]; exact c5) ?_
  have hqn : q ≠ [] := by
   rcases hb with h | h | h | h | h | h
   ·exact absurd h c5
   ·exact absurd h c1
   ·exact absurd h c2
   ·exact absurd h c3
   ·exact absurd h c4
   ·exact h.2
  have hql := List.length_pos_iff.2 hqn
  simp only [List.length_cons] at hpl
  have hs : sub (37 :: b :: q : By) 2 (IntKind.i64.wrap (((37 :: b :: q : By).length : Int) - 1)) = some (q.take (q.length - 1)) := by
   have hw : IntKind.i64.wrap (((37 :: b :: q : By).length : Int) - 1) = ((q.length + 1 : Nat) : Int) := by
    simp only [List.length_cons]
    rw [wrap64 _ (by omega) (by omega)]
    omega
   rw [hw]
   have := sub_nat (37 :: b :: q : By) 2 (q.length + 1) (by omega) (by simp)
   rw [show (37 :: b :: q : By).drop 2 = q from rfl, show q.length + 1 - 2 = q.length - 1 by omega] at this
   exact this
  refine Tends.bind (r := ((memT e.body (q.take (q.length - 1)), ()) : By × Unit)) (Tends.bind (.of fun F => hs) (Tends.bind (member_v _ _ he) (.ret _))) (.ret _)
theorem gap_isT (r : By) (h : gapN (37 :: r) ≠ 0) : gapT ((37 :: r : By).take (gapN (37 :: r))) := by
 unfold gapN at h ⊢
 cases r with
 | nil => exact absurd rfl h
 | cons b q =>
  simp only at h ⊢
  by_cases hc : b = 37 ∨ b = 98 ∨ b = 107 ∨ b = 109 ∨ b = 112
  ·rw [if_pos hc]
   refine ⟨b, [], rfl, ?_⟩
   rcases hc with h | h | h | h | h <;> simp [h]
  ·rw [if_neg hc] at h ⊢
   by_cases hb : b = 123
   ·rw [if_pos hb] at h ⊢
    by_cases hk : (q.takeWhile (fun c => c != 125)).length < q.length ∧ nmP (q.takeWhile (fun c => c != 125)) = true
    ·rw [if_pos hk]
     refine ⟨b, q.take ((q.takeWhile (fun c => c != 125)).length + 1), ?_, ?_⟩
     ·rw [show (q.takeWhile (fun c => c != 125)).length + 3 = ((q.takeWhile (fun c => c != 125)).length + 1) + 1 + 1 by omega, List.take_succ_cons, List.take_succ_cons]
     ·refine .inr (.inr (.inr (.inr (.inr ⟨hb, ?_⟩))))
      intro hh
      have := congrArg List.length hh
      rw [List.length_take] at this
      simp only [List.length_nil] at this
      omega
    ·rw [if_neg hk] at h; exact absurd rfl h
   ·rw [if_neg hb] at h; exact absurd rfl h
theorem cut_gaps : ∀ (n : Nat) (s : By), s.length ≤ n → ∀ l, cutP s = some l → l.length ≤ s.length ∧ ∀ p ∈ l, (p.1 = true → gapT p.2.1) ∧ p.2.1.length ≤ s.length
 | 0, s, h, l, hl => by
  obtain rfl : s = [] := List.length_eq_zero_iff.1 (by omega)
  rw [cutP_nil] at hl
  cases hl
  exact ⟨Nat.le_refl _, fun p hp => by cases hp⟩
 | n + 1, s, h, l, hl => by
  cases s with
  | nil =>
   rw [cutP_nil] at hl
   cases hl
   exact ⟨Nat.le_refl _, fun p hp => by cases hp⟩
  | cons c r =>
   have hp := decodeL_pos (c :: r)
   have hgl := gapN_le (c :: r)
   simp only [List.length_cons] at h hgl ⊢
   rw [cutP_cons] at hl
   split at hl
   ·cases hl
   split at hl
   ·rename_i h37
    subst h37
    split at hl
    ·cases hl
    ·rename_i hg
     obtain ⟨l', h1, rfl⟩ := Option.map_eq_some_iff.1 hl
     obtain ⟨i1, i2⟩ := cut_gaps n ((37 :: r : By).drop (gapN (37 :: r))) (by rw [List.length_drop, List.length_cons]; omega) l' h1
     rw [List.length_drop, List.length_cons] at i1 i2
     refine ⟨by rw [List.length_cons]; omega, fun p hp => ?_⟩
     rcases List.mem_cons.1 hp with rfl | hp
     ·exact ⟨fun _ => gap_isT r hg, by simp only [List.length_take, List.length_cons]; omega⟩
     ·exact ⟨(i2 p hp).1, by have := (i2 p hp).2; omega⟩
   ·obtain ⟨l', h1, rfl⟩ := Option.map_eq_some_iff.1 hl
    obtain ⟨i1, i2⟩ := cut_gaps n ((c :: r).drop (decodeL (c :: r)).2) (by rw [List.length_drop, List.length_cons]; omega) l' h1
    rw [List.length_drop, List.length_cons] at i1 i2
    refine ⟨by rw [List.length_cons]; omega, fun p hp => ?_⟩
    rcases List.mem_cons.1 hp with rfl | hp
    ·exact ⟨fun hh => absurd hh Bool.false_ne_true, by simp only [List.length_take, List.length_cons]; omega⟩
    ·exact ⟨(i2 p hp).1, by have := (i2 p hp).2; omega⟩
/-! ### filling -/
theorem valT_len (e : EnT) (g : By) (h : e.key.length ≤ 1000 ∧ e.method.length ≤ 1000 ∧ e.path.length ≤ 1000 ∧ e.body.length ≤ 1000) : (valT e g).length ≤ 1000 := by
 unfold valT
 split
 ·repeat' split
  ·exact h.2.2.2
  ·exact h.1
  ·exact h.2.1
  ·exact h.2.2.1
  ·exact Nat.le_of_ble_eq_true rfl
  ·exact Nat.le_trans (mem_len _ _) (by decide)
 ·exact Nat.zero_le _
theorem flat_cons (val : By → By) (p : Pc) (l : List Pc) : flatL val (p :: l) = (if p.1 = true then val p.2.1 else p.2.1) ++ flatL val l := by unfold flatL; rw [List.flatMap_cons]
theorem fill0_loop (l : List Pc) (e : EnT) (hll : l.length ≤ 1000) (hl : ∀ p ∈ l, (p.1 = true → gapT p.2.1) ∧ p.2.1.length ≤ 1000) (he : e.key.length ≤ 1000 ∧ e.method.length ≤ 1000 ∧ e.path.length ≤ 1000 ∧ e.body.length ≤ 1000) : ∀ (n i : Nat) (out : By), i + n = l.length → out.length ≤ 1000 * i →
  TendsL M_phrase_Fill_l0 ((), (), l, (l.length : Int), (i : Int), e, ((), (), ()), out, ()) ((), ((), (), ()), out ++ flatL (valT e) (l.drop i), ())
 | 0, i, out, h, ho => by
  refine TendsL.fin (.of fun F => ?_)
  unfold M_phrase_Fill_l0
  rw [if_neg (by rw [decide_eq_true_eq]; simp only; omega), List.drop_eq_nil_of_le (by omega)]
  show some (Sum.inr ((), ((), (), ()), out, ())) = some (Sum.inr ((), ((), (), ()), out ++ [], ()))
  rw [List.append_nil]
 | n + 1, i, out, h, ho => by
  have hi : i < l.length := by omega
  have hx : idx l (i : Int) = some l[i] := idx_at _ _ _ (List.getElem?_eq_getElem hi)
  obtain ⟨p1, p2⟩ := hl l[i] (List.getElem_mem hi)
  have hv := value_v l[i] e p1 p2 he.2.2.2
  have hvl : (if l[i].1 = true then valT e l[i].2.1 else l[i].2.1).length ≤ 1000 := by
   split
   ·exact valT_len e _ he
   ·exact p2
  have hw : IntKind.i64.wrap ((i : Int) + 1) = ((i + 1 : Nat) : Int) := by rw [wrap64 _ (by omega) (by omega)]; omega
  rw [List.drop_eq_getElem_cons hi, flat_cons]
  generalize (if l[i].1 = true then valT e l[i].2.1 else l[i].2.1) = v at hv hvl
  refine TendsL.step (x' := ((), (), l, (l.length : Int), ((i + 1 : Nat) : Int), e, ((), (), ()), out ++ v, ())) ?_ ?_
  ·unfold M_phrase_Fill_l0
   refine Tends.pos (by rw [decide_eq_true_eq]; simp only; omega) ?_
   refine Tends.bind (.of fun F => hx) ?_
   refine Tends.bind hv ?_
   refine Tends.bind (r := (((v.length : Int), ()), (), out ++ v, ())) (.of fun F => ?_) (.of fun F => ?_)
   ·unfold M_strings_Builder_WriteString
    have : M_strings_Builder_copyCheck F ((), out, ()) = some ((), (), out, ()) := rfl
    simp only [this, Option.bind_some]
    rw [if_pos (by rw [decide_eq_true_eq]; omega)]
    rfl
   ·simp only [hw]
  ·have := fill0_loop l e hll hl he n (i + 1) (out ++ v) (by omega) (by rw [List.length_append]; omega)
   rw [List.append_assoc] at this
   exact this
def outL : List Int → By → By
 | [], acc => acc
 | n :: l, acc => if 40 < acc.length + (if sortI n = 0 then [63] else encN n.toNat).length then acc else outL l (acc ++ (if sortI n = 0 then [63] else encN n.toNat))
theorem runes_snoc (l : List Int) (n : Int) : runes8 (l ++ [n]) = runes8 l ++ enc8 n := by
 unfold runes8
 simp
theorem fill1_loop (T : By) : ∀ (n p : Nat) (R : List Int) (acc : By), p ≤ T.length → T.length - p ≤ n → runes8 R = acc → acc.length ≤ 40 → R.length ≤ 40 →
  ∃ R', TendsL M_phrase_Fill_l1 ((), (acc.length : Int), (), (T, p), R, ()) ((), R', ()) ∧ runes8 R' = outL ((signs (T.drop p)).map (·.1)) acc := by
 intro n
 induction n with
 | zero =>
  intro p R acc hp hn hR ha hr
  rw [List.drop_eq_nil_of_le (by omega), signs_nil]
  refine ⟨R, TendsL.fin (.of fun F => ?_), hR⟩
  unfold M_phrase_Fill_l1
  rw [if_neg (by rw [decide_eq_true_eq]; simp only; omega)]
 | succ n ih =>
  intro p R acc hp hn hR ha hr
  by_cases hlt : p < T.length
  case neg =>
   rw [List.drop_eq_nil_of_le (by omega), signs_nil]
   refine ⟨R, TendsL.fin (.of fun F => ?_), hR⟩
   unfold M_phrase_Fill_l1
   rw [if_neg (by rw [decide_eq_true_eq]; exact hlt)]
  have hne := drop_ne hlt
  have hra := runeAt_eq T p
  have hrl := runeLen_eq T p
  have hok := rune_ok (T.drop p)
  have hnx := next_le hlt
  have hpos := decodeL_pos (T.drop p)
  rw [signs_cons hne, List.drop_drop, List.map_cons]
  generalize (decodeL (T.drop p)).1 = c at *
  generalize (decodeL (T.drop p)).2 = k at *
  unfold outL
  simp only [Int.toNat_natCast]
  -- the sign that is let out
  obtain ⟨d, hd1, hd2, hd3⟩ : ∃ d : Nat, okR d ∧ (if sortI (c : Int) = 0 then [63] else encN c) = encN d ∧ (if sortI (c : Int) = 0 then (63 : Int) else (c : Int)) = (d : Int) := by
   by_cases h0 : sortI (c : Int) = 0
   ·exact ⟨63, by unfold okR; omega, by rw [if_pos h0]; rfl, by rw [if_pos h0]; rfl⟩
   ·exact ⟨c, hok, by rw [if_neg h0], by rw [if_neg h0]⟩
  have hrn := fun F => runeLen_N F d hd1
  have hel := encN_len d
  have hep := encN_pos d
  rw [hd2]
  have hw : IntKind.i64.wrap ((acc.length : Int) + ((encN d).length : Int)) = ((acc.length + (encN d).length : Nat) : Int) := by rw [wrap64 _ (by omega) (by omega)]; omega
  have hbody : ∀ (z : (Unit × Int × Unit × (By × Nat) × List Int × Unit) ⊕ (Unit × List Int × Unit)), (∀ F : Nat, (if decide (40 < ((acc.length + (encN d).length : Nat) : Int)) = true then some (Sum.inr ((), R, ())) else if decide ((R.length + [(d : Int)].length) * 4 ≤ 140737488355328) = true then some (Sum.inl ((), ((acc.length + (encN d).length : Nat) : Int), (), (T, p + k), R ++ [(d : Int)], ())) else none : Option ((Unit × Int × Unit × (By × Nat) × List Int × Unit) ⊕ (Unit × List Int × Unit))) = some z) → ∀ F, M_phrase_Fill_l1 F ((), (acc.length : Int), (), (T, p), R, ()) = some z := by
   intro z hz F
   have hz := hz F
   unfold M_phrase_Fill_l1
   rw [if_pos (by rw [decide_eq_true_eq]; exact hlt)]
   simp only [hra, hrl, sort_eq, Option.bind_some]
   have h9 : (if decide (sortI (c : Int) = 0) = true then some ((), (acc.length : Int), 63, (), (T, p + k), R, ()) else some ((), (acc.length : Int), (c : Int), (), (T, p + k), R, ()) : Option (Unit × Int × Int × Unit × (By × Nat) × List Int × Unit)) = some ((), (acc.length : Int), (d : Int), (), (T, p + k), R, ()) := by
    by_cases h0 : sortI (c : Int) = 0
    ·rw [if_pos (decide_eq_true h0)]
     rw [if_pos h0] at hd3
     rw [← hd3]
    ·rw [if_neg (by rw [decide_eq_true_eq]; exact h0)]
     rw [if_neg h0] at hd3
     rw [← hd3]
   rw [h9]
   simp only [Option.bind_some, hrn F, hw]
   exact hz
  by_cases h40 : 40 < acc.length + (encN d).length
  ·rw [if_pos h40]
   refine ⟨R, TendsL.fin (.of (hbody _ fun F => ?_)), hR⟩
   rw [if_pos (by rw [decide_eq_true_eq]; omega)]
  ·rw [if_neg h40]
   -- as many signs as bytes at most
   have hlen : ∀ l : List Int, (∀ n ∈ l, 1 ≤ (enc8 n).length) → l.length ≤ (runes8 l).length := by
    intro l
    induction l using list_snoc_ind with
    | h0 => intro _; exact Nat.zero_le _
    | h1 l a ih2 =>
     intro h
     have h1 := ih2 fun n hn => h n (List.mem_append_left _ hn)
     have h2 := h a (by simp)
     rw [runes_snoc, List.length_append, List.length_append, List.length_singleton]
     omega
   have henc : ∀ n : Int, 1 ≤ (enc8 n).length := fun n => by rw [e3]; exact encN_pos _
   have hRd : runes8 (R ++ [(d : Int)]) = acc ++ encN d := by rw [runes_snoc, hR, enc8_val d hd1]
   have hRl : (R ++ [(d : Int)]).length ≤ 40 := by
    have h3 := hlen (R ++ [(d : Int)]) (fun n _ => henc n)
    rw [hRd] at h3
    have h4 : (acc ++ encN d).length = acc.length + (encN d).length := List.length_append
    omega
   have hal : (acc ++ encN d).length = acc.length + (encN d).length := List.length_append
   obtain ⟨R', i1, i2⟩ := ih (p + k) (R ++ [(d : Int)]) (acc ++ encN d) hnx (by omega) hRd (by omega) hRl
   refine ⟨R', TendsL.step (.of (hbody _ fun F => ?_)) i1, i2⟩
   rw [if_neg (by rw [decide_eq_true_eq]; omega), if_pos (by rw [decide_eq_true_eq]; simp only [List.length_singleton]; omega), hal]
def fillT (s : By) (e : EnT) : By := if 60 < s.length then [] else match cutP s with
 | none => []
 | some l => outL ((signs (flatL (valT e) l)).map (·.1)) []
theorem fill_t (s : By) (e : EnT) (hs : s.length ≤ 1000) (he : e.key.length ≤ 1000 ∧ e.method.length ≤ 1000 ∧ e.path.length ≤ 1000 ∧ e.body.length ≤ 1000) : Tends (fun F => M_phrase_Fill F (s, e)) (fillT s e) := by
 unfold M_phrase_Fill fillT
 refine Tends.bind (cut_t s hs) ?_
 unfold cutT
 by_cases h6 : 60 < s.length
 ·rw [if_pos h6, if_pos h6]
  exact Tends.pos rfl (.ret _)
 rw [if_neg h6, if_neg h6]
 cases hc : cutP s with
 | none => exact Tends.pos rfl (.ret _)
 | some l =>
  obtain ⟨g1, g2⟩ := cut_gaps s.length s (Nat.le_refl _) l hc
  refine Tends.neg (by show ¬ (!true) = true; decide) ?_
  have h0 := fill0_loop l e (by omega) (fun p hp => ⟨(g2 p hp).1, by have := (g2 p hp).2; omega⟩) he l.length 0 [] (by omega) (by simp)
  rw [List.drop_zero, List.nil_append] at h0
  refine Tends.bind h0.run ?_
  refine Tends.bind (r := (flatL (valT e) l, ((), (), ()))) (.ret _) ?_
  obtain ⟨R', i1, i2⟩ := fill1_loop (flatL (valT e) l) (flatL (valT e) l).length 0 [] [] (Nat.zero_le _) (by omega) rfl (by decide) (by decide)
  rw [List.drop_zero] at i2
  show Tends _ (outL ((signs (flatL (valT e) l)).map (·.1)) [])
  rw [← i2]
  exact Tends.bind i1.run (.ret _)
end Go.Vm
/- The document's signs of a text, plainly. No condition but on lengths. -/
namespace Go.Vm
open Go.Lib (decodeL decodeN decodeL_N decode_N decodeN_shape decodeL_le)
set_option linter.unusedVariables false
set_option linter.unusedSimpArgs false
theorem signsLoop (s : List UInt8) (hs : s.length ≤ 1000000000000) (p : Nat) (hp : p ≤ s.length) (out at' : List Int) (ho : out.length + (s.length - p) ≤ 1000000000000) (ha : at'.length + (s.length - p) ≤ 1000000000000) :
  TendsL M_conciergeref04_Signs_l0 (s, (), (), (p : Int), out, at', ()) ((), (), out ++ (signs (s.drop p)).map (·.1), at' ++ ats p (signs (s.drop p)), ()) := by
 have main : ∀ n p out at', s.length - p ≤ n → p ≤ s.length → out.length + (s.length - p) ≤ 1000000000000 → at'.length + (s.length - p) ≤ 1000000000000 →
   TendsL M_conciergeref04_Signs_l0 (s, (), (), (p : Int), out, at', ()) ((), (), out ++ (signs (s.drop p)).map (·.1), at' ++ ats p (signs (s.drop p)), ()) := by
  intro n
  induction n with
  | zero =>
   intro p out at' hn hp ho ha
   have : p = s.length := by omega
   subst this
   refine TendsL.fin (Tends.of fun F => ?_)
   unfold M_conciergeref04_Signs_l0
   have h : ¬ ((s.length : Nat) : Int) < (s.length : Int) := by omega
   simp [h, signs_nil, ats]
  | succ n ih =>
   intro p out at' hn hp ho ha
   by_cases hlt : p < s.length
   ·have hpos := decodeL_pos (s.drop p)
    have hnx := next_le hlt
    have h : (p : Int) < (s.length : Int) := by omega
    have e1 : ((out.length : Int) + 1) * 8 ≤ 140737488355328 := by omega
    have e2 : ((at'.length : Int) + 1) * 8 ≤ 140737488355328 := by omega
    rw [signs_cons (drop_ne hlt), drop_next]
    refine TendsL.step (x' := (s, (), (), ((p + (decodeL (s.drop p)).2 : Nat) : Int), out ++ [((decodeL (s.drop p)).1 : Int)], at' ++ [(p : Int)], ())) (Tends.of fun F => ?_) ?_
    ·unfold M_conciergeref04_Signs_l0
     have e1' : (out.length + 1) * 8 ≤ 140737488355328 := by omega
     have e2' : (at'.length + 1) * 8 ≤ 140737488355328 := by omega
     simp only [h, decide_true, if_true, sub_to_end s p hp, Option.bind_some, first_eq F _ (drop_ne hlt), List.length_cons, List.length_nil, Nat.zero_add, e1', e2']
     rw [wrap64 _ (by omega) (by omega)]
     rfl
    ·have := ih (p + (decodeL (s.drop p)).2) (out ++ [((decodeL (s.drop p)).1 : Int)]) (at' ++ [(p : Int)]) (by omega) hnx (by simp; omega) (by simp; omega)
     simpa [ats, take_len hlt] using this
   ·have : p = s.length := by omega
    subst this
    refine TendsL.fin (Tends.of fun F => ?_)
    unfold M_conciergeref04_Signs_l0
    have h : ¬ ((s.length : Nat) : Int) < (s.length : Int) := by omega
    simp [h, signs_nil, ats]
 exact main _ p out at' (Nat.le_refl _) hp ho ha
theorem signs_tends (s : List UInt8) (hs : s.length ≤ 1000000000000) : Tends (fun F => M_conciergeref04_Signs F s) ((signs s).map (·.1), ats 0 (signs s)) := by
 unfold M_conciergeref04_Signs
 have := signsLoop s hs 0 (by omega) [] [] (by simp; omega) (by simp; omega)
 refine this.run.bind ?_
 exact Tends.of fun F => by simp
end Go.Vm
/- Phrases: the document's names, gaps and checks are the plain ones; the wake; the law of checks. No condition but on lengths. -/
namespace Go.Vm
open Go.Proofs
open Go.Lib (decodeL decodeN decodeL_N decode_N decodeN_shape decodeL_le)
set_option linter.unusedVariables false
set_option linter.unusedSimpArgs false
/-! ### names and gaps -/
theorem name22_loop (x : By) (hx : x.length ≤ 1000000) : ∀ (n i : Nat), i + n = x.length → TendsL M_conciergeref22_Name_l0 (x, (i : Int), ()) (if (x.drop i).all isNm = true then .inl (x, ()) else .inr (false, ()))
 | 0, i, h => by
  refine TendsL.fin (.of fun F => ?_)
  unfold M_conciergeref22_Name_l0
  rw [if_neg (by rw [decide_eq_true_eq]; simp only; omega), List.drop_eq_nil_of_le (by omega)]
  rfl
 | n + 1, i, h => by
  have hi : i < x.length := by omega
  have hx0 : idx x (i : Int) = some x[i] := idx_at _ _ _ (List.getElem?_eq_getElem hi)
  have hw : IntKind.i64.wrap ((i : Int) + 1) = ((i + 1 : Nat) : Int) := by rw [wrap64 _ (by omega) (by omega)]; omega
  rw [List.drop_eq_getElem_cons hi, List.all_cons]
  have ih := name22_loop x hx n (i + 1) (by omega)
  generalize x[i] = c at *
  have body : ∀ F, M_conciergeref22_Name_l0 F (x, (i : Int), ()) = some (if isNm c = true then .inl (x, ((i + 1 : Nat) : Int), ()) else .inr (.inr (false, ()))) := by
   intro F
   unfold M_conciergeref22_Name_l0
   rw [if_pos (by rw [decide_eq_true_eq]; simp only; omega)]
   simp only [hx0, Option.bind_some]
   unfold isNm
   by_cases a1 : 97 ≤ c.toNat
   ·have a1' : (97 : Int) ≤ (c.toNat : Int) := by omega
    by_cases a2 : c.toNat ≤ 122
    ·have a2' : (c.toNat : Int) ≤ 122 := by omega
     simp only [a1', a2', a1, a2, decide_true, if_true, Option.bind_some, Bool.true_eq_false, if_false, Bool.and_self, Bool.true_or, Bool.not_true, Bool.false_eq_true, hw]
    ·have a2' : ¬ (c.toNat : Int) ≤ 122 := by omega
     have a3 : (48 : Int) ≤ (c.toNat : Int) := by omega
     have a4 : ¬ (c.toNat : Int) ≤ 57 := by omega
     have a5 : ¬ c.toNat ≤ 57 := by omega
     simp only [a1', a2', a1, a2, a3, a4, a5, hx0, decide_true, decide_false, if_true, Option.bind_some, Bool.and_false, Bool.or_false, Bool.not_false, Bool.false_eq_true, if_false]
   ·have a1' : ¬ (97 : Int) ≤ (c.toNat : Int) := by omega
    by_cases a3 : 48 ≤ c.toNat
    ·have a3' : (48 : Int) ≤ (c.toNat : Int) := by omega
     by_cases a4 : c.toNat ≤ 57
     ·have a4' : (c.toNat : Int) ≤ 57 := by omega
      simp only [a1', a1, a3', a3, a4', a4, hx0, decide_true, decide_false, if_true, Option.bind_some, Bool.false_and, Bool.and_self, Bool.or_true, Bool.not_true, Bool.false_eq_true, if_false, hw]
     ·have a4' : ¬ (c.toNat : Int) ≤ 57 := by omega
      simp only [a1', a1, a3', a3, a4', a4, hx0, decide_true, decide_false, if_true, Option.bind_some, Bool.false_and, Bool.and_false, Bool.or_false, Bool.not_false, Bool.false_eq_true, if_false]
    ·have a3' : ¬ (48 : Int) ≤ (c.toNat : Int) := by omega
     simp only [a1', a1, a3', a3, hx0, decide_true, decide_false, if_true, Option.bind_some, Bool.false_and, Bool.or_false, Bool.not_false, Bool.false_eq_true, if_false]
  by_cases hc : isNm c = true
  ·rw [hc, Bool.true_and]
   exact TendsL.step (.of fun F => (body F).trans (by rw [if_pos hc])) ih
  ·have hc' : isNm c = false := by simpa using hc
   rw [hc', Bool.false_and]
   exact TendsL.fin (.of fun F => (body F).trans (by rw [if_neg hc]; rfl))
theorem name22_t (x : By) (hx : x.length ≤ 1000000) : Tends (fun F => M_conciergeref22_Name F x) (nmP x) := by
 unfold M_conciergeref22_Name nmP
 have h := name22_loop x hx x.length 0 (by omega)
 rw [List.drop_zero] at h
 refine Tends.bind h.run ?_
 by_cases ha : x.all isNm = true
 ·rw [if_pos ha, ha, Bool.true_and]
  simp only [sumC_inl]
  by_cases h1 : 1 ≤ x.length
  ·have h1' : (1 : Int) ≤ (x.length : Int) := by omega
   refine .of fun F => ?_
   rw [if_pos (decide_eq_true h1'), decide_eq_true h1, Bool.true_and]
   simp only [Option.bind_some]
   congr 1
   rw [Bool.eq_iff_iff, decide_eq_true_eq, decide_eq_true_eq]
   omega
  ·have h1' : ¬ (1 : Int) ≤ (x.length : Int) := by omega
   refine .of fun F => ?_
   rw [if_neg (by rw [decide_eq_true_eq]; exact h1'), decide_eq_false h1]
   rfl
 ·have ha' : x.all isNm = false := by simpa using ha
  rw [if_neg ha, ha']
  exact .of fun F => rfl
theorem gap22_loop (x : By) (hx : x.length ≤ 1000000) : ∀ (n i : Nat), i + n = x.length → TendsL M_conciergeref22_gap_l0 (x, (i : Int), ()) (x, ((i + ((x.drop i).takeWhile (fun c => c != 125)).length : Nat) : Int), ())
 | 0, i, h => by
  refine TendsL.fin (.of fun F => ?_)
  unfold M_conciergeref22_gap_l0
  rw [if_neg (by rw [decide_eq_true_eq]; simp only; omega), List.drop_eq_nil_of_le (by omega)]
  rfl
 | n + 1, i, h => by
  have hi : i < x.length := by omega
  have hx0 : idx x (i : Int) = some x[i] := idx_at _ _ _ (List.getElem?_eq_getElem hi)
  have hw : IntKind.i64.wrap ((i : Int) + 1) = ((i + 1 : Nat) : Int) := by rw [wrap64 _ (by omega) (by omega)]; omega
  have ih := gap22_loop x hx n (i + 1) (by omega)
  rw [List.drop_eq_getElem_cons hi]
  generalize x[i] = c at *
  have n125 : ((c.toNat : Int) = 125) = (c = 125) := nvB c 125
  by_cases hc : c = 125
  ·rw [List.takeWhile_cons_of_neg (by simpa using hc)]
   refine TendsL.fin (.of fun F => ?_)
   unfold M_conciergeref22_gap_l0
   rw [if_pos (by rw [decide_eq_true_eq]; simp only; omega)]
   simp only [hx0, Option.bind_some, n125, decide_eq_true hc]
   rfl
  ·rw [List.takeWhile_cons_of_pos (by simpa using hc), List.length_cons, show i + (((x.drop (i + 1)).takeWhile (fun c => c != 125)).length + 1) = i + 1 + ((x.drop (i + 1)).takeWhile (fun c => c != 125)).length by omega]
   refine TendsL.step (.of fun F => ?_) ih
   unfold M_conciergeref22_gap_l0
   rw [if_pos (by rw [decide_eq_true_eq]; simp only; omega)]
   simp only [hx0, Option.bind_some, n125, decide_eq_false hc, Bool.not_false, if_true, hw]
theorem gap22_t (a : UInt8) (r : By) (hr : r.length ≤ 1000) : Tends (fun F => M_conciergeref22_gap F (a :: r)) (gapN (a :: r) : Int) := by
 unfold M_conciergeref22_gap
 cases r with
 | nil => exact Tends.pos rfl (.ret _)
 | cons b q =>
  have h2 : ¬ (((a :: b :: q : By).length : Nat) : Int) < 2 := by simp; omega
  have hi : idx (a :: b :: q : By) 1 = some b := idx_at _ 1 _ rfl
  have n37 : ((b.toNat : Int) = 37) = (b = 37) := nvB b 37
  have n98 : ((b.toNat : Int) = 98) = (b = 98) := nvB b 98
  have n107 : ((b.toNat : Int) = 107) = (b = 107) := nvB b 107
  have n109 : ((b.toNat : Int) = 109) = (b = 109) := nvB b 109
  have n112 : ((b.toNat : Int) = 112) = (b = 112) := nvB b 112
  have n123 : ((b.toNat : Int) = 123) = (b = 123) := nvB b 123
  refine Tends.neg (by rw [decide_eq_true_eq]; exact h2) ?_
  simp only [hi, Option.bind_some, n37, n98, n107, n109, n112, n123]
  unfold gapN
  simp only
  have step : ∀ (p q' : Prop) [Decidable p] [Decidable q'], (if decide p = false then some ((a :: b :: q : By), decide q', ()) else some ((a :: b :: q : By), true, ()) : Option (By × Bool × Unit)) = some ((a :: b :: q : By), decide (p ∨ q'), ()) := by
   intro p q' _ _
   by_cases hp : p
   ·rw [decide_eq_true hp, if_neg (by decide), decide_eq_true (.inl hp)]
   ·rw [decide_eq_false hp, if_pos rfl]
    by_cases hq : q'
    ·rw [decide_eq_true hq, decide_eq_true (.inr hq)]
    ·rw [decide_eq_false hq, decide_eq_false (fun hh => hh.elim hp hq)]
  simp only [step, Option.bind_some, hi, n107, n109, n112]
  by_cases hc : b = 37 ∨ b = 98 ∨ b = 107 ∨ b = 109 ∨ b = 112
  ·have hc' : (((b = 37 ∨ b = 98) ∨ b = 107) ∨ b = 109) ∨ b = 112 := by
    rcases hc with h | h | h | h | h <;> simp [h]
   rw [if_pos hc]
   exact Tends.pos (decide_eq_true hc') (.ret _)
  ·have hc' : ¬ ((((b = 37 ∨ b = 98) ∨ b = 107) ∨ b = 109) ∨ b = 112) := by
    rintro ((((h | h) | h) | h) | h) <;> exact hc (by simp [h])
   rw [if_neg hc]
   refine Tends.neg (by rw [decide_eq_true_eq]; exact hc') ?_
   by_cases hb : b = 123
   ·rw [if_pos hb]
    refine Tends.neg (by simp only [n123, decide_eq_true hb]; decide) ?_
    simp only [List.length_cons] at hr
    have hl := gap22_loop (a :: b :: q) (by simp; omega) (q.length) 2 (by simp; omega)
    rw [show (a :: b :: q : By).drop 2 = q from rfl] at hl
    have h2' : (((2 : Nat) : Nat) : Int) = 2 := rfl
    refine Tends.bind hl.run ?_
    have htl : (q.takeWhile (fun c => c != 125)).length ≤ q.length := (List.takeWhile_prefix _).length_le
    by_cases hk : (q.takeWhile (fun c => c != 125)).length < q.length
    ·have hne : ¬ (((2 + (q.takeWhile (fun c => c != 125)).length : Nat) : Int) = ((a :: b :: q : By).length : Int)) := by simp only [List.length_cons]; omega
     have hs : sub (a :: b :: q : By) 2 ((2 + (q.takeWhile (fun c => c != 125)).length : Nat) : Int) = some (q.takeWhile (fun c => c != 125)) := by
      have := sub_nat (a :: b :: q : By) 2 (2 + (q.takeWhile (fun c => c != 125)).length) (by omega) (by simp only [List.length_cons]; omega)
      refine (this : _ = _).trans ?_
      rw [show (a :: b :: q : By).drop 2 = q from rfl, Nat.add_sub_cancel_left]
      congr 1
      conv => rhs; rw [← List.take_length (l := q.takeWhile (fun c => c != 125))]
      exact (congrArg (List.take _) (List.takeWhile_append_dropWhile (p := fun c => c != 125) (l := q)).symm).trans (List.take_append_of_le_length (Nat.le_refl _))
     have hn := name22_t (q.takeWhile (fun c => c != 125)) (by omega)
     refine Tends.bind (r := ((((2 + (q.takeWhile (fun c => c != 125)).length : Nat) : Int), !(nmP (q.takeWhile (fun c => c != 125))), ()) : Int × Bool × Unit)) (Tends.pos (decide_eq_false hne) (Tends.bind (.of fun F => hs) (Tends.bind hn (.ret _)))) ?_
     by_cases hnm : nmP (q.takeWhile (fun c => c != 125)) = true
     ·have hg : (if (q.takeWhile (fun c => c != 125)).length < q.length ∧ nmP (q.takeWhile (fun c => c != 125)) = true then (q.takeWhile (fun c => c != 125)).length + 3 else 0) = (q.takeWhile (fun c => c != 125)).length + 3 := if_pos ⟨hk, hnm⟩
      rw [hg, hnm]
      refine Tends.neg (by show ¬ (!true) = true; decide) (.of fun F => ?_)
      simp only
      rw [wrap64 _ (by omega) (by omega)]
      congr 1
      omega
     ·have hnm' : nmP (q.takeWhile (fun c => c != 125)) = false := by simpa using hnm
      have hg : (if (q.takeWhile (fun c => c != 125)).length < q.length ∧ nmP (q.takeWhile (fun c => c != 125)) = true then (q.takeWhile (fun c => c != 125)).length + 3 else 0) = 0 := if_neg (fun hh => hnm hh.2)
      rw [hg, hnm']
      exact Tends.pos rfl (.ret _)
    ·have he : (((2 + (q.takeWhile (fun c => c != 125)).length : Nat) : Int) = ((a :: b :: q : By).length : Int)) := by simp only [List.length_cons]; omega
     have hg : (if (q.takeWhile (fun c => c != 125)).length < q.length ∧ nmP (q.takeWhile (fun c => c != 125)) = true then (q.takeWhile (fun c => c != 125)).length + 3 else 0) = 0 := if_neg (fun hh => hk hh.1)
     rw [hg]
     refine Tends.bind (r := ((((2 + (q.takeWhile (fun c => c != 125)).length : Nat) : Int), true, ()) : Int × Bool × Unit)) (Tends.neg (by rw [decide_eq_true he]; decide) (.ret _)) ?_
     exact Tends.pos rfl (.ret _)
   ·rw [if_neg hb]
    exact Tends.pos (by simp only [n123, decide_eq_false hb]; rfl) (.ret _)
/-! ### checks -/
theorem sorts22_loop (s : By) (l : List Int) (hl : l.length ≤ 1000000) : ∀ (n i : Nat), i + n = l.length → TendsL M_conciergeref22_Check_l0 (s, l, (i : Int), ()) (if (l.drop i).all (fun x => decide (sortI x ≠ 0)) = true then .inl (s, ()) else .inr (false, ()))
 | 0, i, h => by
  refine TendsL.fin (.of fun F => ?_)
  unfold M_conciergeref22_Check_l0
  rw [if_neg (by rw [decide_eq_true_eq]; simp only; omega), List.drop_eq_nil_of_le (by omega)]
  rfl
 | n + 1, i, h => by
  have hi : i < l.length := by omega
  have hx0 : idx l (i : Int) = some l[i] := idx_at _ _ _ (List.getElem?_eq_getElem hi)
  have hw : IntKind.i64.wrap ((i : Int) + 1) = ((i + 1 : Nat) : Int) := by rw [wrap64 _ (by omega) (by omega)]; omega
  have ih := sorts22_loop s l hl n (i + 1) (by omega)
  rw [List.drop_eq_getElem_cons hi, List.all_cons]
  generalize l[i] = c at *
  by_cases h0 : sortI c = 0
  ·rw [decide_eq_false (fun hh => hh h0), Bool.false_and]
   refine TendsL.fin (.of fun F => ?_)
   unfold M_conciergeref22_Check_l0
   rw [if_pos (by rw [decide_eq_true_eq]; simp only; omega)]
   simp only [hx0, Option.bind_some, refSort_eq, decide_eq_true h0]
   rfl
  ·rw [decide_eq_true h0, Bool.true_and]
   refine TendsL.step (.of fun F => ?_) ih
   unfold M_conciergeref22_Check_l0
   rw [if_pos (by rw [decide_eq_true_eq]; simp only; omega)]
   simp only [hx0, Option.bind_some, refSort_eq, decide_eq_false h0, Bool.false_eq_true, if_false, hw]
theorem toks22_loop (s : By) (hs : s.length ≤ 1000) : ∀ (n p : Nat), s.length - p ≤ n → p ≤ s.length → TendsL M_conciergeref22_Check_l1 (s, (p : Int), ()) (match tokP (s.drop p) with
  | some _ => .inl (s, ())
  | none => .inr (false, ())) := by
 intro n
 induction n with
 | zero =>
  intro p hn hp
  refine TendsL.fin (.of fun F => ?_)
  unfold M_conciergeref22_Check_l1
  rw [if_neg (by rw [decide_eq_true_eq]; simp only; omega), List.drop_eq_nil_of_le (by omega), tokP_nil]
 | succ n ih =>
  intro p hn hp
  by_cases hlt : p < s.length
  case neg =>
   refine TendsL.fin (.of fun F => ?_)
   unfold M_conciergeref22_Check_l1
   rw [if_neg (by rw [decide_eq_true_eq]; simp only; omega), List.drop_eq_nil_of_le (by omega), tokP_nil]
  have hd : s.drop p = s[p] :: s.drop (p + 1) := List.drop_eq_getElem_cons hlt
  have hx0 : idx s (p : Int) = some s[p] := idx_at _ _ _ (List.getElem?_eq_getElem hlt)
  have hse := sub_to_end s p (by omega)
  have hlen : (s.drop p).length = s.length - p := List.length_drop
  have hw1 : IntKind.i64.wrap ((p : Int) + 1) = ((p + 1 : Nat) : Int) := by rw [wrap64 _ (by omega) (by omega)]; omega
  have ih1 := ih (p + 1) (by omega) (by omega)
  have hdd : ∀ m, (s.drop p).drop m = s.drop (p + m) := fun m => List.drop_drop
  rw [hd] at hse hlen hdd ⊢
  rw [tokP_cons]
  generalize hr : s.drop (p + 1) = r at *
  generalize s[p] = c at *
  have n37 : ((c.toNat : Int) = 37) = (c = 37) := nvB c 37
  by_cases h37 : c = 37
  ·rw [if_pos h37]
   have hgle := gapN_le (c :: r)
   have h1 := gapN_one (c :: r)
   have hgt := gap22_t c r (by simp only [List.length_cons] at hlen; omega)
   have hbody : ∀ z, Tends (fun F => (if decide ((gapN (c :: r) : Int) = 0) = true then some (Sum.inr (Sum.inr (false, ()))) else some (Sum.inl (s, IntKind.i64.wrap ((p : Int) + (gapN (c :: r) : Int)), ())) : Option ((By × Int × Unit) ⊕ (By × Unit ⊕ Bool × Unit)))) z → Tends (fun F => M_conciergeref22_Check_l1 F (s, (p : Int), ())) z := by
    intro z hz
    unfold M_conciergeref22_Check_l1
    refine Tends.pos (by rw [decide_eq_true_eq]; simp only; omega) ?_
    refine Tends.bind (.of fun F => hx0) ?_
    refine Tends.neg (by simp only [n37, decide_eq_true h37]; decide) ?_
    refine Tends.bind (.of fun F => hse) ?_
    exact Tends.bind hgt hz
   by_cases hg : gapN (c :: r) = 0
   ·rw [if_pos hg]
    exact TendsL.fin (hbody _ (Tends.pos (by rw [decide_eq_true_eq]; omega) (.ret _)))
   ·rw [if_neg hg]
    have hw : IntKind.i64.wrap ((p : Int) + (gapN (c :: r) : Int)) = ((p + gapN (c :: r) : Nat) : Int) := by rw [wrap64 _ (by omega) (by omega)]; omega
    have ihg := ih (p + gapN (c :: r)) (by omega) (by omega)
    rw [← hdd] at ihg
    refine TendsL.step (hbody (.inl (s, ((p + gapN (c :: r) : Nat) : Int), ())) (Tends.neg (by rw [decide_eq_true_eq]; omega) (.of fun F => by rw [hw]))) ?_
    cases hx : tokP ((c :: r).drop (gapN (c :: r))) with
    | none => rw [hx] at ihg; exact ihg
    | some l => rw [hx] at ihg; exact ihg
  ·rw [if_neg h37]
   refine TendsL.step (x' := (s, ((p + 1 : Nat) : Int), ())) (.of fun F => ?_) ?_
   ·unfold M_conciergeref22_Check_l1
    rw [if_pos (by rw [decide_eq_true_eq]; simp only; omega)]
    simp only [hx0, Option.bind_some, n37, decide_eq_false h37, Bool.not_false, if_true, hw1]
   ·cases hx : tokP r with
    | none => rw [hx] at ih1; exact ih1
    | some l => rw [hx] at ih1; exact ih1
theorem allS_map (s : By) : allS s = ((signs s).map (·.1)).all (fun x => decide (sortI x ≠ 0)) := by unfold allS; rw [List.all_map]; rfl
def checkT (s : By) : Bool := decide (s.length ≤ 60) && (cutP s).isSome
theorem check_tok (s : By) : (allS s && (tokP s).isSome) = (cutP s).isSome := by
 have h := cut_tok s.length s (Nat.le_refl _)
 cases hc : cutP s with
 | none =>
  rw [hc] at h
  rcases h with h | h
  ·rw [h]; rfl
  ·rw [h]; simp
 | some l =>
  rw [hc] at h
  obtain ⟨h1, m, h2, _⟩ := h
  rw [h1, h2]
  rfl
theorem check22_t (s : By) (hs : s.length ≤ 1000) : Tends (fun F => M_conciergeref22_Check F s) (checkT s) := by
 unfold M_conciergeref22_Check
 have hsl := signs_len s
 refine Tends.bind (signs_tends s (by omega)) ?_
 have h0 := sorts22_loop s ((signs s).map (·.1)) (by rw [List.length_map]; omega) ((signs s).map (·.1)).length 0 (by omega)
 rw [List.drop_zero, ← allS_map] at h0
 refine Tends.bind h0.run ?_
 have hct := check_tok s
 unfold checkT
 rw [← hct]
 by_cases ha : allS s = true
 ·rw [if_pos ha, ha, Bool.true_and]
  simp only [sumC_inl]
  have h1 := toks22_loop s hs s.length 0 (by omega) (by omega)
  rw [List.drop_zero] at h1
  refine Tends.bind h1.run ?_
  cases tokP s with
  | none => exact .of fun F => by simp [sumC_inr]
  | some m =>
   refine .of fun F => ?_
   simp only [sumC_inl, Option.isSome_some, Bool.and_true]
   congr 1
   rw [Bool.eq_iff_iff, decide_eq_true_eq, decide_eq_true_eq]
   omega
 ·have ha' : allS s = false := by simpa using ha
  rw [if_neg ha, ha', Bool.false_and, Bool.and_false]
  exact .of fun F => rfl
theorem check_v (s : By) (hs : s.length ≤ 1000) : Tends (fun F => M_phrase_Check F s) (checkT s) := by
 unfold M_phrase_Check
 refine Tends.bind (cut_t s hs) (.of fun F => ?_)
 unfold cutT checkT
 by_cases h6 : 60 < s.length
 ·rw [if_pos h6, decide_eq_false (by omega)]; rfl
 ·rw [if_neg h6, decide_eq_true (by omega)]
  cases cutP s <;> rfl
end Go.Vm
/- Programs: numbers, phases, their texts, what reads them: plainly. No condition. -/
namespace Go.Vm
open Go.Lib (decDigits itoa decNat decFrom digitVal)
set_option linter.unusedVariables false
set_option linter.unusedSimpArgs false
/-! ### numbers -/
theorem decNat_digs {l : By} (h : ∀ c ∈ l, isDig c = true) (hne : l ≠ []) : decNat l = some (valD l) := by
 have main : ∀ (l : By) (n : Nat), (∀ c ∈ l, isDig c = true) → decFrom n l = some (l.foldl (fun n c => n * 10 + (c.toNat - 48)) n) := by
  intro l
  induction l with
  | nil => intro n _; rfl
  | cons c l ih =>
   intro n hd
   have hc := hd c (List.mem_cons_self ..)
   have hv : digitVal c = some (c.toNat - 48) := by
    unfold digitVal
    simp [isDig] at hc
    rw [if_pos ⟨hc.1, hc.2⟩]
   unfold decFrom
   rw [hv]
   exact ih _ (fun x hx => hd x (List.mem_cons_of_mem _ hx))
 unfold decNat valD
 rw [main l 0 h]
 cases l with
 | nil => exact absurd rfl hne
 | cons c l => rfl
theorem atoi_itoa (n : Nat) (h : n < 100000000000000000) : Lib.atoiAll (itoa (n : Int)) = .ok (n : Int) := by
 have hl : (itoa (n : Int)).length ≤ 18 := Nat.le_trans (itoa_len n 17 (by decide) (by omega)).1 (by decide)
 have hd := itoa_dig n
 have hne := itoa_ne n
 rw [Lib.atoiAll_short _ hl]
 have hv : valD (itoa (n : Int)) = n := by rw [itoa_nat]; exact (dec_facts n).2.1
 have hdn := decNat_digs hd hne
 rw [hv] at hdn
 cases hc : itoa (n : Int) with
 | nil => exact absurd hc hne
 | cons c q =>
  rw [hc] at hdn hd
  have h0 := hd c (List.mem_cons_self ..)
  have h45 : (c == 45) = false := by
   cases hh : c == 45 with
   | false => rfl
   | true => rw [beq_iff_eq] at hh; subst hh; exact absurd h0 (by decide)
  have h43 : (c == 43) = false := by
   cases hh : c == 43 with
   | false => rfl
   | true => rw [beq_iff_eq] at hh; subst hh; exact absurd h0 (by decide)
  show Lib.NumEnd.ofOption (if (c == 45) = true then (decNat q).map (fun (m : Nat) => -(m : Int)) else if (c == 43) = true then (decNat q).map (fun (m : Nat) => (m : Int)) else (decNat (c :: q)).map (fun (m : Nat) => (m : Int))) = _
  rw [h45, h43, hdn]
  rfl
def numG (s : By) : Int := match Lib.atoiAll s with
 | .ok n => if n < 1 ∨ itoa n ≠ s then 0 else n
 | _ => 0
theorem numG_itoa (n : Nat) (h1 : 1 ≤ n) (h : n ≤ 1073741824) : numG (itoa (n : Int)) = n := by
 unfold numG
 rw [atoi_itoa n (by omega)]
 simp only
 rw [if_neg]
 rintro (h | h)
 ·omega
 ·exact h rfl
def rnumG (acc : Nat) : By → Nat
 | [] => acc
 | c :: r => if isDig c = true ∧ acc ≤ 1073741824 then rnumG (acc * 10 + (c.toNat - 48)) r else 0
theorem fold_ge : ∀ (l : By) (acc : Nat), acc ≤ l.foldl (fun n c => n * 10 + (c.toNat - 48)) acc
 | [], acc => Nat.le_refl _
 | c :: l, acc => by
  have := fold_ge l (acc * 10 + (c.toNat - 48))
  rw [List.foldl_cons]
  omega
theorem rnumG_val : ∀ (l : By) (acc : Nat), (∀ c ∈ l, isDig c = true) → l.foldl (fun n c => n * 10 + (c.toNat - 48)) acc ≤ 1073741824 → rnumG acc l = l.foldl (fun n c => n * 10 + (c.toNat - 48)) acc
 | [], acc, h, hv => rfl
 | c :: l, acc, h, hv => by
  rw [List.foldl_cons] at hv
  have := fold_ge l (acc * 10 + (c.toNat - 48))
  unfold rnumG
  rw [if_pos ⟨h c (List.mem_cons_self ..), by omega⟩, List.foldl_cons]
  exact rnumG_val l _ (fun x hx => h x (List.mem_cons_of_mem _ hx)) hv
theorem rnumG_itoa (n : Nat) (h : n ≤ 1073741824) : rnumG 0 (itoa (n : Int)) = n := by
 have hv : valD (itoa (n : Int)) = n := by rw [itoa_nat]; exact (dec_facts n).2.1
 have := rnumG_val (itoa (n : Int)) 0 (itoa_dig n) (by show valD (itoa (n : Int)) ≤ _; omega)
 rw [this]
 exact hv
/-! ### phases -/
abbrev PhT := Int × By × Int × By × Unit
def textG (s : By) : Bool := s.all (fun c => c != 59) && checkT s
def rightG (p : PhT) : Bool :=
 if p.1 = 1 then decide (1 ≤ p.2.2.1) && decide (p.2.2.1 ≤ 80) && decide (p.2.1 = []) && decide (p.2.2.2.1 = [])
 else if p.1 = 2 then decide (1 ≤ p.2.2.1) && decide (p.2.2.1 ≤ 1073741824) && nmP p.2.1 && decide (p.2.2.2.1 = [])
 else if p.1 = 3 then decide (p.2.2.1 = 0) && nmP p.2.1 && textG p.2.2.2.1
 else if p.1 = 4 then (decide (p.2.2.1 = 200) || decide (p.2.2.1 = 201)) && decide (p.2.1 = []) && textG p.2.2.2.1
 else false
def mayL : List PhT → Bool
 | [] => true
 | p :: r => rightG p && (decide (p.1 = 4) == decide (r = [])) && mayL r
def mayG (l : List PhT) : Bool := decide (1 ≤ l.length) && decide (l.length ≤ 5) && mayL l
abbrev wOnly : By := [111, 110, 108, 121]
abbrev wNeed : By := [110, 101, 101, 100]
abbrev wCall : By := [99, 97, 108, 108]
abbrev wEnd : By := [101, 110, 100]
def tailG (s : By) : By := if s = [] then [] else 32 :: s
def phText (p : PhT) : By :=
 if p.1 = 1 then wOnly ++ 32 :: itoa p.2.2.1
 else if p.1 = 2 then wNeed ++ 32 :: (p.2.1 ++ 32 :: itoa p.2.2.1)
 else if p.1 = 3 then wCall ++ 32 :: (p.2.1 ++ tailG p.2.2.2.1)
 else wEnd ++ 32 :: (itoa p.2.2.1 ++ tailG p.2.2.2.1)
abbrev z23 : PhT := (0, [], 0, [], ())
def readG (s : By) : PhT := if (Lib.cut s [32]).2.2 = false then z23
 else if (Lib.cut s [32]).1 = wOnly then (1, [], numG (Lib.cut s [32]).2.1, [], ())
 else if (Lib.cut (Lib.cut s [32]).2.1 [32]).2.1 = [] ∧ (Lib.cut (Lib.cut s [32]).2.1 [32]).1 ≠ (Lib.cut s [32]).2.1 then z23
 else if (Lib.cut s [32]).1 = wNeed then (2, (Lib.cut (Lib.cut s [32]).2.1 [32]).1, numG (Lib.cut (Lib.cut s [32]).2.1 [32]).2.1, [], ())
 else if (Lib.cut s [32]).1 = wCall then (3, (Lib.cut (Lib.cut s [32]).2.1 [32]).1, 0, (Lib.cut (Lib.cut s [32]).2.1 [32]).2.1, ())
 else if (Lib.cut s [32]).1 = wEnd then (4, [], numG (Lib.cut (Lib.cut s [32]).2.1 [32]).1, (Lib.cut (Lib.cut s [32]).2.1 [32]).2.1, ())
 else z23
def rwordG (s : By) : By × By := ((Lib.cut s [32]).1, (Lib.cut s [32]).2.1)
def rreadG (s : By) : PhT :=
 if (rwordG s).1 = wOnly then (1, [], (rnumG 0 (rwordG s).2 : Int), [], ())
 else if (rwordG s).1 = wNeed then (2, (rwordG (rwordG s).2).1, (rnumG 0 (rwordG (rwordG s).2).2 : Int), [], ())
 else if (rwordG s).1 = wCall then (3, (rwordG (rwordG s).2).1, 0, (rwordG (rwordG s).2).2, ())
 else if (rwordG s).1 = wEnd then (4, [], (rnumG 0 (rwordG (rwordG s).2).1 : Int), (rwordG (rwordG s).2).2, ())
 else z23
theorem nm_bytes {s : By} (h : nmP s = true) : ∀ b ∈ s, b ≠ 32 ∧ b ≠ 59 := by
 unfold nmP at h
 simp only [Bool.and_eq_true] at h
 intro b hb
 have := List.all_eq_true.1 h.1.1 b hb
 constructor <;> rintro rfl <;> exact absurd this (by decide)
theorem dig_bytes (n : Nat) : ∀ b ∈ itoa (n : Int), b ≠ 32 ∧ b ≠ 59 := by
 intro b hb
 have := itoa_dig n b hb
 constructor <;> rintro rfl <;> exact absurd this (by decide)
theorem cut_tail {p : By} (hp : ∀ b ∈ p, b ≠ 32) (t : By) : (Lib.cut (p ++ tailG t) [32]).1 = p ∧ (Lib.cut (p ++ tailG t) [32]).2.1 = t := by
 unfold tailG
 by_cases ht : t = []
 ·rw [if_pos ht, List.append_nil, cut_miss hp, ht]
  exact ⟨rfl, rfl⟩
 ·rw [if_neg ht, cut_hit hp]
  exact ⟨rfl, rfl⟩
theorem cutW {p : By} (hp : ∀ b ∈ p, b ≠ 32) (s : By) : Lib.cut (p ++ 32 :: s) [32] = (p, s, true) := cut_hit hp s
theorem kw_only : ∀ b ∈ wOnly, b ≠ 32 := by decide
theorem kw_need : ∀ b ∈ wNeed, b ≠ 32 := by decide
theorem kw_call : ∀ b ∈ wCall, b ≠ 32 := by decide
theorem kw_end : ∀ b ∈ wEnd, b ≠ 32 := by decide
theorem right_cases {p : PhT} (h : rightG p = true) :
  (∃ n : Nat, p = (1, [], (n : Int), [], ()) ∧ 1 ≤ n ∧ n ≤ 80) ∨ (∃ (nm : By) (n : Nat), p = (2, nm, (n : Int), [], ()) ∧ nmP nm = true ∧ 1 ≤ n ∧ n ≤ 1073741824) ∨
  (∃ nm t, p = (3, nm, 0, t, ()) ∧ nmP nm = true ∧ textG t = true) ∨ ∃ (n : Nat) (t : By), p = (4, [], (n : Int), t, ()) ∧ (n = 200 ∨ n = 201) ∧ textG t = true := by
 obtain ⟨k, nm, n, t, u⟩ := p
 unfold rightG at h
 simp only at h
 split at h
 ·rename_i hk
  subst hk
  simp only [Bool.and_eq_true, decide_eq_true_eq] at h
  obtain ⟨⟨⟨h1, h2⟩, rfl⟩, rfl⟩ := h
  exact .inl ⟨n.toNat, by rw [show ((n.toNat : Nat) : Int) = n by omega], by omega, by omega⟩
 split at h
 ·rename_i hk
  subst hk
  simp only [Bool.and_eq_true, decide_eq_true_eq] at h
  obtain ⟨⟨⟨h1, h2⟩, h3⟩, rfl⟩ := h
  exact .inr (.inl ⟨nm, n.toNat, by rw [show ((n.toNat : Nat) : Int) = n by omega], h3, by omega, by omega⟩)
 split at h
 ·rename_i hk
  subst hk
  simp only [Bool.and_eq_true, decide_eq_true_eq] at h
  obtain ⟨⟨rfl, h2⟩, h3⟩ := h
  exact .inr (.inr (.inl ⟨nm, t, rfl, h2, h3⟩))
 split at h
 ·rename_i hk
  subst hk
  simp only [Bool.and_eq_true, Bool.or_eq_true, decide_eq_true_eq] at h
  obtain ⟨⟨h1, rfl⟩, h3⟩ := h
  exact .inr (.inr (.inr ⟨n.toNat, t, by rw [show ((n.toNat : Nat) : Int) = n by omega], by omega, h3⟩))
 ·cases h
theorem read_text (p : PhT) (h : rightG p = true) : readG (phText p) = p ∧ rreadG (phText p) = p := by
 rcases right_cases h with ⟨n, rfl, h1, h2⟩ | ⟨nm, n, rfl, h3, h1, h2⟩ | ⟨nm, t, rfl, h2, h3⟩ | ⟨n, t, rfl, h1, h3⟩
 ·have e : phText (1, [], (n : Int), [], ()) = wOnly ++ 32 :: itoa (n : Int) := rfl
  rw [e]
  unfold readG rreadG rwordG
  rw [cutW kw_only]
  simp only
  rw [if_neg (by decide), if_pos trivial, if_pos trivial, numG_itoa n h1 (by omega), rnumG_itoa n (by omega)]
  exact ⟨rfl, rfl⟩
 ·have e : phText (2, nm, (n : Int), [], ()) = wNeed ++ 32 :: (nm ++ 32 :: itoa (n : Int)) := rfl
  rw [e]
  unfold readG rreadG rwordG
  rw [cutW kw_need]
  simp only
  rw [cutW fun b hb => (nm_bytes h3 b hb).1]
  simp only
  rw [if_neg (by decide), if_neg (by decide), if_neg (fun hh => itoa_ne n hh.1), if_pos trivial, if_neg (by decide), if_pos trivial, numG_itoa n h1 h2, rnumG_itoa n h2]
  exact ⟨rfl, rfl⟩
 ·have e : phText (3, nm, 0, t, ()) = wCall ++ 32 :: (nm ++ tailG t) := rfl
  obtain ⟨c1, c2⟩ := cut_tail (fun b hb => (nm_bytes h2 b hb).1) t
  rw [e]
  unfold readG rreadG rwordG
  rw [cutW kw_call]
  simp only [c1, c2]
  rw [if_neg (by decide), if_neg (by decide), if_neg, if_neg (by decide), if_pos trivial, if_neg (by decide), if_neg (by decide), if_pos trivial]
  ·exact ⟨rfl, rfl⟩
  ·rintro ⟨rfl, hh⟩
   exact hh (by unfold tailG; simp)
 ·have e : phText (4, [], (n : Int), t, ()) = wEnd ++ 32 :: (itoa (n : Int) ++ tailG t) := rfl
  obtain ⟨c1, c2⟩ := cut_tail (fun b hb => (dig_bytes n b hb).1) t
  rw [e]
  unfold readG rreadG rwordG
  rw [cutW kw_end]
  simp only [c1, c2]
  rw [if_neg (by decide), if_neg (by decide), if_neg, if_neg (by decide), if_neg (by decide), if_pos trivial, if_neg (by decide), if_neg (by decide), if_neg (by decide), if_pos trivial, numG_itoa n (by omega) (by omega), rnumG_itoa n (by omega)]
  ·exact ⟨rfl, rfl⟩
  ·rintro ⟨rfl, hh⟩
   exact hh (by unfold tailG; simp)
end Go.Vm
/- Programs: printed and parsed, plainly; the document's parser on a printed one. No condition. -/
namespace Go.Vm
open Go.Lib (decDigits itoa)
set_option linter.unusedVariables false
set_option linter.unusedSimpArgs false
def printG (l : List PhT) : By := Lib.join (l.map phText) [59, 32]
def restG : List By → Option (List PhT)
 | [] => some []
 | x :: r => match x with
  | 32 :: t => (restG r).map (readG t :: ·)
  | _ => none
def parsG (s : By) : Option (List PhT) := match splC 59 s with
 | x :: r => (restG r).map (readG x :: ·)
 | [] => none
theorem join_tail (x : By) : ∀ r : List By, joinD 59 (x :: r.map (fun t => 32 :: t)) = x ++ Lib.joinTail [59, 32] r
 | [] => by show x = x ++ []; rw [List.append_nil]
 | t :: r => by
  rw [List.map_cons, joinD_cons 59 x (by simp), join_tail (32 :: t) r]
  show x ++ 59 :: ((32 :: t) ++ Lib.joinTail [59, 32] r) = x ++ ((59 :: 32 :: t) ++ Lib.joinTail [59, 32] r)
  rfl
theorem printG_cons (p : PhT) (r : List PhT) : printG (p :: r) = phText p ++ Lib.joinTail [59, 32] (r.map phText) := by
 unfold printG
 rw [List.map_cons, Lib.join_cons]
theorem tailG_no {d : UInt8} (hd : d ≠ 32) {t : By} (h : ∀ b ∈ t, b ≠ d) : ∀ b ∈ tailG t, b ≠ d := by
 unfold tailG
 split
 ·exact fun b hb => by cases hb
 ·intro b hb
  rcases List.mem_cons.1 hb with rfl | hb
  ·exact fun e => hd e.symm
  ·exact h b hb
theorem textG_no {t : By} (h : textG t = true) : ∀ b ∈ t, b ≠ 59 := by
 unfold textG at h
 rw [Bool.and_eq_true] at h
 intro b hb
 have := List.all_eq_true.1 h.1 b hb
 simpa using this
theorem app_no {d : UInt8} {a b : By} (ha : ∀ x ∈ a, x ≠ d) (hb : ∀ x ∈ b, x ≠ d) : ∀ x ∈ a ++ b, x ≠ d := fun x hx => (List.mem_append.1 hx).elim (ha x) (hb x)
theorem cons_no {d c : UInt8} {b : By} (hc : c ≠ d) (hb : ∀ x ∈ b, x ≠ d) : ∀ x ∈ c :: b, x ≠ d := fun x hx => (List.mem_cons.1 hx).elim (fun e => e ▸ hc) (hb x)
theorem text_no {p : PhT} (h : rightG p = true) : ∀ b ∈ phText p, b ≠ 59 := by
 rcases right_cases h with ⟨n, rfl, h1, h2⟩ | ⟨nm, n, rfl, h3, h1, h2⟩ | ⟨nm, t, rfl, h2, h3⟩ | ⟨n, t, rfl, h1, h3⟩
 ·exact app_no (a := wOnly) (by decide) (cons_no (by decide) fun b hb => (dig_bytes n b hb).2)
 ·exact app_no (a := wNeed) (by decide) (cons_no (by decide) (app_no (fun b hb => (nm_bytes h3 b hb).2) (cons_no (by decide) fun b hb => (dig_bytes n b hb).2)))
 ·exact app_no (a := wCall) (by decide) (cons_no (by decide) (app_no (fun b hb => (nm_bytes h2 b hb).2) (tailG_no (by decide) (textG_no h3))))
 ·exact app_no (a := wEnd) (by decide) (cons_no (by decide) (app_no (fun b hb => (dig_bytes n b hb).2) (tailG_no (by decide) (textG_no h3))))
theorem mayL_right : ∀ l : List PhT, mayL l = true → ∀ p ∈ l, rightG p = true
 | [], h, p, hp => by cases hp
 | q :: l, h, p, hp => by
  unfold mayL at h
  rw [Bool.and_eq_true, Bool.and_eq_true] at h
  rcases List.mem_cons.1 hp with rfl | hp
  ·exact h.1.1
  ·exact mayL_right l h.2 p hp
theorem may_right {l : List PhT} (h : mayG l = true) : (∀ p ∈ l, rightG p = true) ∧ 1 ≤ l.length ∧ l.length ≤ 5 := by
 unfold mayG at h
 simp only [Bool.and_eq_true, decide_eq_true_eq] at h
 exact ⟨mayL_right l h.2, h.1.1, h.1.2⟩
theorem rest_text : ∀ r : List PhT, (∀ p ∈ r, rightG p = true) → restG (r.map fun p => 32 :: phText p) = some r
 | [], h => rfl
 | p :: r, h => by
  rw [List.map_cons]
  show (restG (r.map fun p => 32 :: phText p)).map (readG (phText p) :: ·) = _
  rw [rest_text r fun q hq => h q (List.mem_cons_of_mem _ hq), (read_text p (h p (List.mem_cons_self ..))).1]
  rfl
theorem pars_print (l : List PhT) (h : mayG l = true) : parsG (printG l) = some l := by
 obtain ⟨h1, h2, h3⟩ := may_right h
 cases l with
 | nil => simp at h2
 | cons p r =>
  have e : printG (p :: r) = joinD 59 (phText p :: r.map fun p => 32 :: phText p) := by
   rw [printG_cons, ← join_tail, List.map_map]
   rfl
  have hs : splC 59 (joinD 59 (phText p :: r.map fun p => 32 :: phText p)) = phText p :: r.map fun p => 32 :: phText p := by
   refine splC_join _ (by simp) fun x hx => ?_
   rcases List.mem_cons.1 hx with rfl | hx
   ·exact text_no (h1 p (List.mem_cons_self ..))
   ·obtain ⟨q, hq, rfl⟩ := List.mem_map.1 hx
    exact cons_no (by decide) (text_no (h1 q (List.mem_cons_of_mem _ hq)))
  unfold parsG
  rw [e, hs]
  show (restG (r.map fun p => 32 :: phText p)).map (readG (phText p) :: ·) = _
  rw [rest_text r fun q hq => h1 q (List.mem_cons_of_mem _ hq), (read_text p (h1 p (List.mem_cons_self ..))).1]
  rfl
def parseT (s : By) : List PhT × Int := match parsG s with
 | some l => if mayG l = true then (l, 0) else ([], 3)
 | none => ([], 3)
theorem parseT_print (l : List PhT) (h : mayG l = true) : parseT (printG l) = (l, 0) := by
 unfold parseT
 rw [pars_print l h]
 exact if_pos h
end Go.Vm
/- Phrases: gaps; the wake; the law of checks. No condition but on lengths. -/
namespace Go.Vm
open Go.Proofs
open Go.Lib (decodeL decodeN decodeL_N decode_N decodeN_shape decodeL_le)
set_option linter.unusedVariables false
set_option linter.unusedSimpArgs false
theorem signs_ascii : ∀ s : By, (∀ b ∈ s, b.toNat < 128) → (signs s).map (·.1) = s.map fun b => (b.toNat : Int)
 | [], h => by rw [signs_nil]; rfl
 | c :: s, h => by
  rw [signs_one c (h c (List.mem_cons_self ..)), List.map_cons, List.map_cons, signs_ascii s fun b hb => h b (List.mem_cons_of_mem _ hb)]
abbrev wkB : By := [123, 34, 115, 117, 109, 34, 58, 53, 125]
theorem wk_all : allP wkB = .ok (.obj [([115, 117, 109], .int 5, ())]) := by kernel_rfl
theorem wk_five : allP [53] = .ok (.int 5) := by kernel_rfl
theorem itoa_5 : Go.Lib.itoa 5 = [53] := by unfold Go.Lib.itoa; rw [if_neg (by decide)]; exact Go.Lib.decDigits_one (by decide)
theorem wk_mem : memT wkB [115, 117, 109] = [53] := by
 have hv : vP wkB = .obj [([115, 117, 109], .int 5, ())] := by unfold vP; rw [wk_all]
 have h5 : vP [53] = .int 5 := by unfold vP; rw [wk_five]
 have hl : layP 7 (.int 5) = [53] := by rw [layP_B]; exact itoa_5
 have hf : firstM [115, 117, 109] [(([115, 117, 109], .int 5, ()) : Me)] = ([53], true) := by
  unfold firstM
  rw [if_pos rfl, hl]
 have hf2 : firstM [115, 117, 109] (objL (vP wkB)) = ([53], true) := by rw [hv]; exact hf
 unfold memT
 rw [hf2, if_pos rfl]
 show (if kindP (vP [53]) = 4 then textP (vP [53]) else [53]) = _
 rw [h5]
 exact if_neg (by decide)
end Go.Vm
/- Phrases: what the document fills is the plain text. No condition but on lengths. -/
namespace Go.Vm
open Go.Proofs
open Go.Lib (decodeL decodeN decodeL_N decode_N decodeN_shape decodeL_le)
set_option linter.unusedVariables false
set_option linter.unusedSimpArgs false
/-! ### members -/
end Go.Vm
/- Programs: what is to be done next, how many calls are ahead: plainly. No condition. -/
namespace Go.Vm
open Go.Proofs
set_option linter.unusedVariables false
set_option linter.unusedSimpArgs false
abbrev DoT := Int × Int × By × Int × By × Int × Int × Int × By × By × Unit
abbrev zDo : DoT := (0, 0, [], 0, [], 0, 0, 0, [], [], ())
abbrev tRef : By := [114, 101, 102, 117, 115, 101, 100, 32]
abbrev EnT.pt (e : EnT) : Int := e.2.2.2.2.2.1
abbrev EnT.tk (e : EnT) : Int := e.2.2.2.2.1
abbrev EnT.ep (e : EnT) : Int := e.2.2.2.1
def onlyT (s : By) (n : Int) : Bool := decide (((signs s).length : Int) ≤ n) && ((signs s).map (·.1)).all fun x => decide (1 ≤ sortI x ∧ sortI x ≤ 3)
def needT (body name : By) (n : Int) : Bool := (firstM name (objL (vP body))).2 && (decide (kindP (vP (firstM name (objL (vP body))).1) = 3) && (decide (1 ≤ numV (vP (firstM name (objL (vP body))).1)) && decide (numV (vP (firstM name (objL (vP body))).1) ≤ n)))
def passD (ok : Bool) (why : By) : DoT := if ok = true then (1, 0, [], 0, [], 0, 0, 0, [], [], ()) else (2, 402, tRef ++ why, 0, [], 0, 0, 0, [], [], ())
def doT (x : PhT) (e : EnT) : DoT :=
 if x.1 = 1 then passD (onlyT e.body x.2.2.1) wOnly
 else if x.1 = 2 then passD (needT e.body x.2.1 x.2.2.1) (wNeed ++ 32 :: x.2.1)
 else if x.1 = 3 then (3, 0, [], e.1, e.key, e.ep, e.pt, e.tk, x.2.1, fillT x.2.2.2.1 e, ())
 else (2, x.2.2.1, fillT x.2.2.2.1 e, 0, [], 0, 0, 0, [], [], ())
def nextT (p : List PhT) (e : EnT) : DoT × Int :=
 if mayG p = false then (zDo, 1) else if e.pt < 0 ∨ (p.length : Int) ≤ e.pt then (zDo, 6) else
 match p[e.pt.toNat]? with
 | none => (zDo, 6)
 | some x => (doT x e, 0)
/-! ### calls -/
end Go.Vm
/- Signs of a text: how many, and whether all are of some sorts (cut out of the texts of sign). No condition but on lengths. -/
namespace Go.Vm
open Go.Lib (decodeL decodeN decodeL_N decode_N decodeN_shape decodeL_le)
set_option linter.unusedVariables false
set_option linter.unusedSimpArgs false
theorem idx_nat {α : Type} (l : List α) (k : Nat) : idx l (k : Int) = l[k]? := by
 unfold idx
 rw [if_pos (by omega)]
 simp
theorem idx_mid {α : Type} (pre t : List α) (x : α) : idx (pre ++ x :: t) (pre.length : Int) = some x := by
 rw [idx_nat]; simp
def findFrom (r : Int) : Nat → List Int → Int
 | _, [] => -1
 | k, x :: t => if x = r then (k : Int) else findFrom r (k + 1) t
theorem index_tends (l : List Int) (hl : l.length ≤ 1000000000000) (v : Int) : Tends (fun F => M_slices_Index_int_int F (l, v)) (findFrom v 0 l) := by
 have loop : ∀ (t pre : List Int), l = pre ++ t → ∃ y, TendsL M_slices_Index_int_int_l0 (l, v, (l.length : Int), (pre.length : Int), ()) y ∧ sumC y (fun _ => (-1 : Int)) (fun v => v.1) = findFrom v pre.length t := by
  intro t
  induction t with
  | nil =>
   intro pre h
   simp only [List.append_nil] at h
   subst h
   refine ⟨.inl (), TendsL.fin (Tends.of fun F => ?_), rfl⟩
   unfold M_slices_Index_int_int_l0
   simp
  | cons x t ih =>
   intro pre h
   have hlen : l.length = pre.length + (t.length + 1) := by rw [h]; simp
   have h1 : (pre.length : Int) < (l.length : Int) := by omega
   have hi : idx l (pre.length : Int) = some x := by rw [h]; exact idx_mid pre t x
   simp only [findFrom]
   by_cases he : x = v
   ·rw [if_pos he]
    refine ⟨.inr ((pre.length : Int), ()), TendsL.fin (Tends.of fun F => ?_), rfl⟩
    unfold M_slices_Index_int_int_l0
    simp [h1, hi, he]
   ·rw [if_neg he]
    obtain ⟨y, q1, q2⟩ := ih (pre ++ [x]) (by rw [h]; simp)
    refine ⟨y, TendsL.step (Tends.of fun F => ?_) q1, by simpa using q2⟩
    unfold M_slices_Index_int_int_l0
    have he' : ¬ v = x := fun e => he e.symm
    have hw : IntKind.i64.wrap ((pre.length : Int) + 1) = ((pre.length + 1 : Nat) : Int) := by rw [wrap64 _ (by omega) (by omega)]; rfl
    simp [h1, hi, he', hw]
 obtain ⟨y, h1, h2⟩ := loop l [] rfl
 unfold M_slices_Index_int_int
 refine h1.run.bind ?_
 refine Tends.of fun F => ?_
 rw [← (show _ = findFrom v 0 l from h2)]
 cases y <;> rfl
theorem findFrom_mem (v : Int) : ∀ (l : List Int) (k : Nat), decide (0 ≤ findFrom v k l) = decide (v ∈ l)
 | [], k => by simp [findFrom]
 | x :: t, k => by
  unfold findFrom
  by_cases h : x = v
  ·rw [if_pos h]
   have : (0 : Int) ≤ (k : Int) := by omega
   simp [this, h]
  ·rw [if_neg h, findFrom_mem v t (k + 1)]
   have h' : ¬ v = x := fun e => h e.symm
   simp [h']
theorem contains_tends (l : List Int) (hl : l.length ≤ 1000000000000) (v : Int) : Tends (fun F => M_slices_Contains_int_int F (l, v)) (decide (v ∈ l)) := by
 unfold M_slices_Contains_int_int
 refine (index_tends l hl v).bind ?_
 exact Tends.of fun F => by rw [findFrom_mem]
def onlyL (sorts : List Int) (l : List Int) : Bool := l.all fun x => decide (sortI x ∈ sorts)
theorem only_tends (s : List UInt8) (sorts : List Int) (hl : sorts.length ≤ 1000000000000) : Tends (fun F => M_sign_Only F (s, sorts)) (onlyL sorts ((signs s).map (·.1))) := by
 have loop : ∀ (n p : Nat), s.length - p ≤ n → p ≤ s.length →
   ∃ y, TendsL M_sign_Only_l0 (sorts, (), (s, p), ()) y ∧ sumC y (fun _ => true) (fun v => v.1) = onlyL sorts ((signs (s.drop p)).map (·.1)) := by
  intro n
  induction n with
  | zero =>
   intro p hn hp
   have hpe : p = s.length := by omega
   subst hpe
   refine ⟨.inl (), TendsL.fin (Tends.of fun F => ?_), by rw [List.drop_length, signs_nil]; rfl⟩
   unfold M_sign_Only_l0
   simp
  | succ n ih =>
   intro p hn hp
   by_cases hlt : p < s.length
   case neg => exact ih p (by omega) hp
   have hpos := decodeL_pos (s.drop p)
   have hnx := next_le hlt
   rw [signs_cons (drop_ne hlt), drop_next]
   have hc := contains_tends sorts hl (sortI ((decodeL (s.drop p)).1 : Int))
   by_cases he : sortI ((decodeL (s.drop p)).1 : Int) ∈ sorts
   ·obtain ⟨y, h1, h2⟩ := ih (p + (decodeL (s.drop p)).2) (by omega) hnx
    refine ⟨y, TendsL.step ?_ h1, by rw [h2]; simp [onlyL, he]⟩
    unfold M_sign_Only_l0
    simp only [hlt, decide_true, if_true, sort_eq, Option.bind_some, runeAt_eq, runeLen_eq]
    refine hc.bind ?_
    exact Tends.of fun F => by simp [he]
   ·refine ⟨.inr (false, ()), TendsL.fin ?_, by simp [onlyL, he, sumC]⟩
    unfold M_sign_Only_l0
    simp only [hlt, decide_true, if_true, sort_eq, Option.bind_some, runeAt_eq, runeLen_eq]
    refine hc.bind ?_
    exact Tends.of fun F => by simp [he]
 obtain ⟨y, h1, h2⟩ := loop s.length 0 (by omega) (by omega)
 unfold M_sign_Only
 refine h1.run.bind ?_
 refine Tends.of fun F => ?_
 rw [List.drop_zero] at h2
 rw [← h2]
 cases y <;> rfl
theorem countLoop (s : List UInt8) (hs : s.length ≤ 100000000000) (p : Nat) (hp : p ≤ s.length) (k : Nat) (hk : k + (s.length - p) ≤ 1000000000000) : TendsL M_sign_Count_l0 ((k : Int), (), (s, p), ()) (((k + (signs (s.drop p)).length : Nat) : Int), ()) := by
 have main : ∀ n p k, s.length - p ≤ n → p ≤ s.length → k + (s.length - p) ≤ 1000000000000 → TendsL M_sign_Count_l0 ((k : Int), (), (s, p), ()) (((k + (signs (s.drop p)).length : Nat) : Int), ()) := by
  intro n
  induction n with
  | zero =>
   intro p k hn hp hk
   have : p = s.length := by omega
   subst this
   refine TendsL.fin (Tends.of fun F => ?_)
   unfold M_sign_Count_l0
   simp [signs_nil]
  | succ n ih =>
   intro p k hn hp hk
   by_cases hlt : p < s.length
   ·have hpos := decodeL_pos (s.drop p)
    have hnx := next_le hlt
    rw [signs_cons (drop_ne hlt), drop_next]
    refine TendsL.step (x' := (((k + 1 : Nat) : Int), (), (s, p + (decodeL (s.drop p)).2), ())) (Tends.of fun F => ?_) ?_
    ·have w : IntKind.i64.wrap ((k : Int) + 1) = ((k + 1 : Nat) : Int) := by rw [wrap64 _ (by omega) (by omega)]; rfl
     unfold M_sign_Count_l0
     simp only [hlt, decide_true, if_true, runeLen_eq, w]
    ·have := ih (p + (decodeL (s.drop p)).2) (k + 1) (by omega) hnx (by omega)
     rw [List.length_cons, show k + ((signs (List.drop (p + (decodeL (List.drop p s)).2) s)).length + 1) = k + 1 + (signs (List.drop (p + (decodeL (List.drop p s)).2) s)).length by omega]
     exact this
   ·have : p = s.length := by omega
    subst this
    refine TendsL.fin (Tends.of fun F => ?_)
    unfold M_sign_Count_l0
    simp [signs_nil]
 exact main _ p k (Nat.le_refl _) hp hk
theorem count_tends (s : List UInt8) (hs : s.length ≤ 100000000000) : Tends (fun F => M_sign_Count F s) ((signs s).length : Int) := by
 unfold M_sign_Count
 have := countLoop s hs 0 (by omega) 0 (by omega)
 rw [List.drop_zero, Nat.zero_add] at this
 exact this.run.bind (k := fun F (v1 : Int × Unit) => some v1.1) (Tends.of fun F => rfl)
end Go.Vm
