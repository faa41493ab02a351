import Derived.Test.YtihpjgcbmipdbaaGreatDoorPg6
import Derived.Test.YtihpjgcbmipdbaaGreatDoorPg2
import Derived.Test.YtihpjgcbmipdbaaGreatDoorPh1
import Derived.Test.YtihpjgcbmipdbaaGreatDoorFprog2
import Derived.Test.YtihpjgcbmipdbaaGreatDoorFref23b
/- Programs: what the document parses is the plain one; small programs. No condition but on lengths. -/
namespace Go.Vm
open Go.Proofs
open Go.Lib (decDigits itoa)
set_option linter.unusedVariables false
set_option linter.unusedSimpArgs false
/-! ### words, numbers -/
theorem rword_hit (s p q : By) (hs : s = p ++ 32 :: q) (hp : ∀ b ∈ p, b ≠ 32) (hl : s.length ≤ 1000000) : ∀ (n i : Nat), i + n = p.length → TendsL M_conciergeref23_word_l0 (s, (i : Int), ()) (.inr (p, q, ()))
 | 0, i, h => by
  have hsl : s.length = p.length + 1 + q.length := by rw [hs, List.length_append, List.length_cons]; omega
  have hip : i = p.length := by omega
  have hx : idx s (i : Int) = some 32 := idx_at _ _ _ (by rw [hs, hip, List.getElem?_append_right (Nat.le_refl _), Nat.sub_self]; rfl)
  have hw : IntKind.i64.wrap ((i : Int) + 1) = ((i + 1 : Nat) : Int) := by rw [wrap64 _ (by omega) (by omega)]; omega
  have s1 : sub s 0 (i : Int) = some p := by
   have := sub_nat s 0 i (Nat.zero_le _) (by omega)
   rw [List.drop_zero, Nat.sub_zero, hip] at this
   rw [hip]
   refine (this : sub s 0 (p.length : Int) = _).trans ?_
   rw [hs, List.take_left]
  have s2 : sub s ((i + 1 : Nat) : Int) (s.length : Int) = some q := by
   have := sub_to_end s (i + 1) (by omega)
   rw [this, hip, hs]
   congr 1
   rw [show p ++ 32 :: q = (p ++ [32]) ++ q by simp, List.drop_left' (by simp)]
  refine TendsL.fin (.of fun F => ?_)
  unfold M_conciergeref23_word_l0
  rw [if_pos (by rw [decide_eq_true_eq]; simp only; omega)]
  simp only [hx, Option.bind_some]
  rw [if_pos (by rfl)]
  simp only [s1, hw, s2, Option.bind_some]
 | n + 1, i, h => by
  have hsl : s.length = p.length + 1 + q.length := by rw [hs, List.length_append, List.length_cons]; omega
  have hi : i < p.length := by omega
  have hx : idx s (i : Int) = some p[i] := idx_at _ _ _ (by rw [hs, List.getElem?_append_left hi, List.getElem?_eq_getElem hi])
  have hc := hp p[i] (List.getElem_mem hi)
  have hw : IntKind.i64.wrap ((i : Int) + 1) = ((i + 1 : Nat) : Int) := by rw [wrap64 _ (by omega) (by omega)]; omega
  have n32 : ((p[i].toNat : Int) = 32) = (p[i] = 32) := nvB p[i] 32
  refine TendsL.step (.of fun F => ?_) (rword_hit s p q hs hp hl n (i + 1) (by omega))
  unfold M_conciergeref23_word_l0
  rw [if_pos (by rw [decide_eq_true_eq]; simp only; omega)]
  simp only [hx, Option.bind_some, n32, decide_eq_false hc, Bool.false_eq_true, if_false, hw]
theorem rword_miss (s : By) (hp : ∀ b ∈ s, b ≠ 32) (hl : s.length ≤ 1000000) : ∀ (n i : Nat), i + n = s.length → TendsL M_conciergeref23_word_l0 (s, (i : Int), ()) (.inl (s, ()))
 | 0, i, h => by
  refine TendsL.fin (.of fun F => ?_)
  unfold M_conciergeref23_word_l0
  rw [if_neg (by rw [decide_eq_true_eq]; simp only; omega)]
 | n + 1, i, h => by
  have hi : i < s.length := by omega
  have hx : idx s (i : Int) = some s[i] := idx_at _ _ _ (List.getElem?_eq_getElem hi)
  have hc := hp s[i] (List.getElem_mem hi)
  have hw : IntKind.i64.wrap ((i : Int) + 1) = ((i + 1 : Nat) : Int) := by rw [wrap64 _ (by omega) (by omega)]; omega
  have n32 : ((s[i].toNat : Int) = 32) = (s[i] = 32) := nvB s[i] 32
  refine TendsL.step (.of fun F => ?_) (rword_miss s hp hl n (i + 1) (by omega))
  unfold M_conciergeref23_word_l0
  rw [if_pos (by rw [decide_eq_true_eq]; simp only; omega)]
  simp only [hx, Option.bind_some, n32, decide_eq_false hc, Bool.false_eq_true, if_false, hw]
theorem rword_t (s : By) (hl : s.length ≤ 1000000) : Tends (fun F => M_conciergeref23_word F s) (rwordG s) := by
 unfold M_conciergeref23_word rwordG
 rcases cut_cases 32 s with ⟨p, q, hs, hp, hc⟩ | ⟨hp, hc⟩
 ·rw [hc]
  have h := rword_hit s p q hs hp hl p.length 0 (by omega)
  exact Tends.bind h.run (.ret _)
 ·rw [hc]
  have h := rword_miss s hp hl s.length 0 (by omega)
  exact Tends.bind h.run (.ret _)
def rnumR (acc : Nat) : By → Int × Unit ⊕ Int × Unit
 | [] => .inl ((acc : Int), ())
 | c :: r => if isDig c = true ∧ acc ≤ 1073741824 then rnumR (acc * 10 + (c.toNat - 48)) r else .inr (0, ())
theorem rnumR_val : ∀ (l : By) (acc : Nat), sumC (rnumR acc l) (fun v => v.1) (fun v => v.1) = (rnumG acc l : Int)
 | [], acc => rfl
 | c :: r, acc => by
  unfold rnumR rnumG
  by_cases h : isDig c = true ∧ acc ≤ 1073741824
  ·rw [if_pos h, if_pos h]; exact rnumR_val r _
  ·rw [if_neg h, if_neg h]; rfl
theorem rnumber_loop (s : By) (hl : s.length ≤ 1000000) : ∀ (n i acc : Nat), i + n = s.length → acc ≤ 11000000000 → TendsL M_conciergeref23_number_l0 (s, (acc : Int), (i : Int), ()) (rnumR acc (s.drop i))
 | 0, i, acc, h, ha => by
  refine TendsL.fin (.of fun F => ?_)
  unfold M_conciergeref23_number_l0
  rw [if_neg (by rw [decide_eq_true_eq]; simp only; omega), List.drop_eq_nil_of_le (by omega)]
  rfl
 | n + 1, i, acc, h, ha => by
  have hi : i < s.length := by omega
  have hx : idx s (i : Int) = some s[i] := idx_at _ _ _ (List.getElem?_eq_getElem hi)
  have hw : IntKind.i64.wrap ((i : Int) + 1) = ((i + 1 : Nat) : Int) := by rw [wrap64 _ (by omega) (by omega)]; omega
  have ih := fun acc => rnumber_loop s hl n (i + 1) acc (by omega)
  rw [List.drop_eq_getElem_cons hi]
  generalize s[i] = c at *
  have hlt := c.toNat_lt
  have e3 : isDig c = (decide (48 ≤ c.toNat) && decide (c.toNat ≤ 57)) := rfl
  unfold rnumR
  have hbody : ∀ F, M_conciergeref23_number_l0 F (s, (acc : Int), (i : Int), ()) = if isDig c = true ∧ acc ≤ 1073741824 then some (.inl (s, ((acc * 10 + (c.toNat - 48) : Nat) : Int), ((i + 1 : Nat) : Int), ())) else some (.inr (.inr (0, ()))) := by
   intro F
   unfold M_conciergeref23_number_l0
   rw [if_pos (by rw [decide_eq_true_eq]; simp only; omega)]
   by_cases c1 : 48 ≤ c.toNat
   ·have c1' : ¬ (c.toNat : Int) < 48 := by omega
    by_cases c2 : c.toNat ≤ 57
    ·have c2' : ¬ (57 : Int) < (c.toNat : Int) := by omega
     by_cases c3 : acc ≤ 1073741824
     ·have c3' : ¬ (1073741824 : Int) < (acc : Int) := by omega
      have w1 : IntKind.i64.wrap ((acc : Int) * 10) = (acc : Int) * 10 := wrap64 _ (by omega) (by omega)
      have w2 : IntKind.i64.wrap (c.toNat : Int) = (c.toNat : Int) := wrap64 _ (by omega) (by omega)
      have w3 : IntKind.i64.wrap ((acc : Int) * 10 + (c.toNat : Int)) = (acc : Int) * 10 + (c.toNat : Int) := wrap64 _ (by omega) (by omega)
      have w4 : IntKind.i64.wrap ((acc : Int) * 10 + (c.toNat : Int) - 48) = ((acc * 10 + (c.toNat - 48) : Nat) : Int) := by rw [wrap64 _ (by omega) (by omega)]; omega
      rw [if_pos ⟨by rw [e3, decide_eq_true c1, decide_eq_true c2]; rfl, c3⟩]
      simp only [hx, Option.bind_some, decide_eq_false c1', decide_eq_false c2', decide_eq_false c3', if_true, Bool.false_eq_true, if_false, w1, w2, w3, w4, hw]
     ·have c3' : (1073741824 : Int) < (acc : Int) := by omega
      rw [if_neg (fun hh => c3 hh.2)]
      simp only [hx, Option.bind_some, decide_eq_false c1', decide_eq_false c2', decide_eq_true c3', if_true, Bool.false_eq_true, if_false]
    ·have c2' : (57 : Int) < (c.toNat : Int) := by omega
     rw [if_neg (fun hh => by have := hh.1; rw [e3, decide_eq_false c2, Bool.and_false] at this; cases this)]
     simp only [hx, Option.bind_some, decide_eq_false c1', decide_eq_true c2', if_true, Bool.true_eq_false, if_false]
   ·have c1' : (c.toNat : Int) < 48 := by omega
    rw [if_neg (fun hh => by have := hh.1; rw [e3, decide_eq_false c1, Bool.false_and] at this; cases this)]
    simp only [hx, Option.bind_some, decide_eq_true c1', if_true, Bool.true_eq_false, if_false]
  by_cases hc : isDig c = true ∧ acc ≤ 1073741824
  ·rw [if_pos hc]
   refine TendsL.step (.of fun F => (hbody F).trans (if_pos hc)) (ih _ (by omega))
  ·rw [if_neg hc]
   exact TendsL.fin (.of fun F => (hbody F).trans (if_neg hc))
theorem rnumber_t (s : By) (hl : s.length ≤ 1000000) : Tends (fun F => M_conciergeref23_number F s) ((rnumG 0 s : Nat) : Int) := by
 unfold M_conciergeref23_number
 have h := rnumber_loop s hl s.length 0 0 (by omega) (by omega)
 rw [List.drop_zero] at h
 refine Tends.bind h.run ?_
 rw [← rnumR_val]
 refine .of fun F => ?_
 cases rnumR 0 s <;> rfl
theorem rread_t (s : By) (hl : s.length ≤ 100000) : Tends (fun F => M_conciergeref23_read F s) (rreadG s) := by
 unfold M_conciergeref23_read rreadG
 have h1 := (cut_len s [32]).2
 refine Tends.bind (rword_t s (by omega)) ?_
 have e1 : (rwordG s).2.length ≤ s.length := h1
 generalize rwordG s = w at *
 obtain ⟨kind, rest⟩ := w
 simp only at e1 ⊢
 by_cases k1 : kind = wOnly
 ·rw [if_pos k1]
  exact Tends.pos (decide_eq_true k1) (Tends.bind (rnumber_t rest (by omega)) (.ret _))
 rw [if_neg k1]
 refine Tends.neg (by rw [decide_eq_true_eq]; exact k1) ?_
 refine Tends.bind (rword_t rest (by omega)) ?_
 have e2 : (rwordG rest).1.length ≤ rest.length ∧ (rwordG rest).2.length ≤ rest.length := cut_len rest [32]
 generalize rwordG rest = w at *
 obtain ⟨one, behind⟩ := w
 simp only at e2 ⊢
 by_cases k2 : kind = wNeed
 ·rw [if_pos k2]
  exact Tends.pos (decide_eq_true k2) (Tends.bind (rnumber_t behind (by omega)) (.ret _))
 rw [if_neg k2]
 refine Tends.neg (by rw [decide_eq_true_eq]; exact k2) ?_
 by_cases k3 : kind = wCall
 ·rw [if_pos k3]
  exact Tends.pos (decide_eq_true k3) (.ret _)
 rw [if_neg k3]
 refine Tends.neg (by rw [decide_eq_true_eq]; exact k3) ?_
 by_cases k4 : kind = wEnd
 ·rw [if_pos k4]
  exact Tends.pos (decide_eq_true k4) (Tends.bind (rnumber_t one (by omega)) (.ret _))
 ·rw [if_neg k4]
  exact Tends.neg (by rw [decide_eq_true_eq]; exact k4) (.ret _)
theorem rread_bnd (x : By) (h : x.length ≤ 1000) : bndP (rreadG x) := by
 have h1 : (rwordG x).1.length ≤ x.length ∧ (rwordG x).2.length ≤ x.length := cut_len x [32]
 have h2 : (rwordG (rwordG x).2).1.length ≤ (rwordG x).2.length ∧ (rwordG (rwordG x).2).2.length ≤ (rwordG x).2.length := cut_len _ [32]
 unfold rreadG
 split
 ·exact ⟨Nat.zero_le _, Nat.zero_le _⟩
 split
 ·exact ⟨by simp only; omega, Nat.zero_le _⟩
 split
 ·exact ⟨by simp only; omega, by simp only; omega⟩
 split
 ·exact ⟨Nat.zero_le _, by simp only; omega⟩
 ·exact ⟨Nat.zero_le _, Nat.zero_le _⟩
/-! ### parsing -/
abbrev RpR := By × Unit × List PhT × Unit ⊕ Unit × Bool × List PhT × Unit
def rpF (s : By) : Option (List PhT) → RpR
 | some l => .inl (s, (), l, ())
 | none => .inr ((), false, [], ())
theorem rparse_loop (s : By) (hs : s.length ≤ 1000) : ∀ (n i a : Nat) (out : List PhT), i + n = s.length + 1 → a ≤ s.length → out.length ≤ 6 → TendsL M_conciergeref23_Parse_l0 (s, (), (a : Int), (i : Int), out, ()) (rpF s (rloop s n i a out))
 | 0, i, a, out, h, ha, ho => by
  refine TendsL.fin (.of fun F => ?_)
  unfold M_conciergeref23_Parse_l0
  rw [if_neg (by rw [decide_eq_true_eq]; simp only; omega)]
  rfl
 | n + 1, i, a, out, h, ha, ho => by
  have hw : IntKind.i64.wrap ((i : Int) + 1) = ((i + 1 : Nat) : Int) := by rw [wrap64 _ (by omega) (by omega)]; omega
  have hw2 : IntKind.i64.wrap ((i : Int) + 2) = ((i + 2 : Nat) : Int) := by rw [wrap64 _ (by omega) (by omega)]; omega
  have h1 : ∀ F : Nat, (if decide ((i : Int) ≤ (s.length : Int)) = true then some (s, (), (a : Int), (i : Int), decide ((out.length : Int) < 6), out, ()) else some (s, (), (a : Int), (i : Int), false, out, ()) : Option (By × Unit × Int × Int × Bool × List PhT × Unit)) = some (s, (), (a : Int), (i : Int), decide ((out.length : Int) < 6), out, ()) := fun _ => if_pos (by rw [decide_eq_true_eq]; omega)
  unfold rloop
  by_cases h6 : 6 ≤ out.length
  ·rw [if_pos h6]
   refine TendsL.fin (.of fun F => ?_)
   unfold M_conciergeref23_Parse_l0
   simp only [h1 F, Option.bind_some]
   rw [if_neg (by rw [decide_eq_true_eq]; omega)]
   rfl
  rw [if_neg h6]
  have hd6 : decide ((out.length : Int) < 6) = true := decide_eq_true (by omega)
  have h2 : ∀ F : Nat, (if decide ((i : Int) = (s.length : Int)) = false then (idx s (i : Int)).bind fun v2 => some (s, (), (a : Int), (i : Int), decide ((v2.toNat : Int) = 59), out, ()) else some (s, (), (a : Int), (i : Int), true, out, ()) : Option (By × Unit × Int × Int × Bool × List PhT × Unit)) = some (s, (), (a : Int), (i : Int), decide (i = s.length ∨ s[i]? = some 59), out, ()) := by
   intro F
   by_cases hl : i = s.length
   ·rw [if_neg (by rw [decide_eq_true (by omega)]; decide), decide_eq_true (.inl hl)]
   ·have hi : i < s.length := by omega
    have hx : idx s (i : Int) = some s[i] := idx_at _ _ _ (List.getElem?_eq_getElem hi)
    rw [if_pos (decide_eq_false (by omega)), hx, Option.bind_some, List.getElem?_eq_getElem hi]
    have n59 : ((s[i].toNat : Int) = 59) = (s[i] = 59) := nvB s[i] 59
    simp only [n59]
    by_cases hc : s[i] = 59
    ·rw [decide_eq_true hc, decide_eq_true (.inr (by rw [hc]))]
    ·rw [decide_eq_false hc, decide_eq_false (by rintro (h | h); exact hl h; injection h with h; exact hc h)]
  by_cases hc : i = s.length ∨ s[i]? = some 59
  ·rw [if_pos hc]
   by_cases hia : i < a
   ·rw [if_pos hia]
    refine TendsL.fin ?_
    unfold M_conciergeref23_Parse_l0
    refine Tends.bind (.of h1) (Tends.pos hd6 (Tends.bind (.of h2) ?_))
    refine Tends.bind (r := (.inr ((), false, [], ()) : (By × Unit × Int × Int × List PhT × Unit) ⊕ (Unit × Bool × List PhT × Unit))) ?_ (.ret _)
    exact Tends.pos (decide_eq_true hc) (Tends.pos (by rw [decide_eq_true_eq]; simp only; omega) (.ret _))
   rw [if_neg hia]
   have hsb : sub s (a : Int) (i : Int) = some ((s.drop a).take (i - a)) := sub_nat s a i (by omega) (by omega)
   have hpl : ((s.drop a).take (i - a)).length ≤ 1000 := by simp only [List.length_take, List.length_drop]; omega
   have hrd := rread_t ((s.drop a).take (i - a)) (by omega)
   generalize (s.drop a).take (i - a) = x at *
   have hbody : ∀ z, Tends (fun F => (if decide ((s.length : Int) < ((i + 2 : Nat) : Int)) = true then some (Sum.inr (Sum.inl (s, (), out ++ [rreadG x], ()))) else some (Sum.inl (s, (), ((i + 2 : Nat) : Int), ((i + 1 : Nat) : Int), out ++ [rreadG x], ())) : Option ((By × Unit × Int × Int × List PhT × Unit) ⊕ RpR))) z → Tends (fun F => M_conciergeref23_Parse_l0 F (s, (), (a : Int), (i : Int), out, ())) z := by
    intro z hz
    unfold M_conciergeref23_Parse_l0
    refine Tends.bind (.of h1) ?_
    refine Tends.pos hd6 ?_
    refine Tends.bind (.of h2) ?_
    refine Tends.bind (r := (.inl (s, (), ((i + 2 : Nat) : Int), (i : Int), out ++ [rreadG x], ()) : (By × Unit × Int × Int × List PhT × Unit) ⊕ (Unit × Bool × List PhT × Unit))) ?_ ?_
    ·refine Tends.pos (decide_eq_true hc) (Tends.neg (by rw [decide_eq_true_eq]; simp only; omega) ?_)
     refine Tends.bind (.of fun F => hsb) (Tends.bind hrd ?_)
     refine Tends.pos (by rw [decide_eq_true_eq]; simp only [List.length_singleton]; omega) (.of fun F => ?_)
     simp only [hw2]
    ·refine hz.congr fun F => ?_
     simp only [sumC_inl, hw]
   by_cases h22 : s.length < i + 2
   ·rw [if_pos h22]
    refine TendsL.fin (hbody _ (Tends.pos (by rw [decide_eq_true_eq]; omega) (.ret _)))
   ·rw [if_neg h22]
    refine TendsL.step (hbody _ (Tends.neg (by rw [decide_eq_true_eq]; omega) (.ret _))) ?_
    exact rparse_loop s hs n (i + 1) (i + 2) (out ++ [rreadG x]) (by omega) (by omega) (by rw [List.length_append, List.length_singleton]; omega)
  ·rw [if_neg hc]
   refine TendsL.step ?_ (rparse_loop s hs n (i + 1) a out (by omega) ha ho)
   unfold M_conciergeref23_Parse_l0
   refine Tends.bind (.of h1) (Tends.pos hd6 (Tends.bind (.of h2) ?_))
   refine Tends.bind (r := (.inl (s, (), (a : Int), (i : Int), out, ()) : (By × Unit × Int × Int × List PhT × Unit) ⊕ (Unit × Bool × List PhT × Unit))) (Tends.neg (by rw [decide_eq_true_eq]; exact hc) (.ret _)) ?_
   exact Tends.neg (by rw [decide_eq_true_eq]; simp only; omega) (.of fun F => by simp only [hw])
theorem rloop_bnd (s : By) (hs : s.length ≤ 1000) : ∀ (n i a : Nat) (out l : List PhT), (∀ p ∈ out, bndP p) → out.length ≤ 6 → rloop s n i a out = some l → (∀ p ∈ l, bndP p) ∧ l.length ≤ 7
 | 0, i, a, out, l, hb, ho, h => by
  cases h
  exact ⟨hb, by omega⟩
 | n + 1, i, a, out, l, hb, ho, h => by
  unfold rloop at h
  have hb' : ∀ p ∈ out ++ [rreadG ((s.drop a).take (i - a))], bndP p := by
   intro p hp
   rcases List.mem_append.1 hp with hp | hp
   ·exact hb p hp
   ·rw [List.mem_singleton] at hp
    subst hp
    exact rread_bnd _ (by simp only [List.length_take, List.length_drop]; omega)
  split at h
  ·cases h; exact ⟨hb, by omega⟩
  split at h
  ·split at h
   ·cases h
   split at h
   ·cases h
    exact ⟨hb', by rw [List.length_append, List.length_singleton]; omega⟩
   ·exact rloop_bnd s hs n _ _ _ l hb' (by rw [List.length_append, List.length_singleton]; omega) h
  ·exact rloop_bnd s hs n _ _ _ l hb ho h
def rparseT (s : By) : List PhT × Bool := match rparsG s with
 | none => ([], false)
 | some l => if mayG l = true ∧ printG l = s then (l, true) else ([], false)
theorem rparse_t (s : By) (hs : s.length ≤ 1000) : Tends (fun F => M_conciergeref23_Parse F s) (rparseT s) := by
 unfold M_conciergeref23_Parse rparseT
 have h := rparse_loop s hs (s.length + 1) 0 0 [] (by omega) (by omega) (Nat.zero_le _)
 refine Tends.bind h.run ?_
 have hbn := rloop_bnd s hs (s.length + 1) 0 0 []
 show Tends _ (match rloop s (s.length + 1) 0 0 [] with
  | none => ([], false)
  | some l => if mayG l = true ∧ printG l = s then (l, true) else ([], false))
 cases hr : rloop s (s.length + 1) 0 0 [] with
 | none => exact .ret _
 | some l =>
  obtain ⟨b1, b2⟩ := hbn l (fun p hp => by cases hp) (Nat.zero_le _) hr
  have hm := rmay_t l (by omega) b1
  show Tends _ (if mayG l = true ∧ printG l = s then (l, true) else ([], false))
  by_cases hmm : mayG l = true
  ·have hp := rprint_t l (by omega) (may_right hmm).1
   rw [hmm] at hm
   by_cases he : printG l = s
   ·rw [if_pos ⟨hmm, he⟩]
    refine Tends.bind (r := (((), false, l, ()) : Unit × Bool × List PhT × Unit)) (Tends.bind hm (Tends.pos rfl (Tends.bind hp (.of fun F => ?_)))) (Tends.neg Bool.false_ne_true (.ret _))
    show some ((), !decide (printG l = s), l, ()) = _
    rw [decide_eq_true he]
    rfl
   ·rw [if_neg (fun hh => he hh.2)]
    refine Tends.bind (r := (((), true, l, ()) : Unit × Bool × List PhT × Unit)) (Tends.bind hm (Tends.pos rfl (Tends.bind hp (.of fun F => ?_)))) (Tends.pos rfl (.ret _))
    show some ((), !decide (printG l = s), l, ()) = _
    rw [decide_eq_false he]
    rfl
  ·have hm' : mayG l = false := by simpa using hmm
   rw [hm'] at hm
   rw [if_neg (fun hh => hmm hh.1)]
   exact Tends.bind (r := (((), true, l, ()) : Unit × Bool × List PhT × Unit)) (Tends.bind hm (Tends.neg (by decide) (.ret _))) (Tends.pos rfl (.ret _))
theorem rparseT_print (l : List PhT) (h : mayG l = true) : rparseT (printG l) = (l, true) := by
 unfold rparseT
 rw [rpars_print l h]
 exact if_pos ⟨h, rfl⟩
theorem rparseT_none (s : By) (h : ∀ l, mayG l = true → s ≠ printG l) : rparseT s = ([], false) := by
 unfold rparseT
 cases rparsG s with
 | none => rfl
 | some l => exact if_neg (fun hh => h l hh.1 hh.2.symm)
end Go.Vm
/- Right texts, plainly. No condition. -/
namespace Go.Vm
open Go.Lib (decodeL decodeN decodeL_N decode_N decodeN_shape decodeL_le)
set_option linter.unusedVariables false
set_option linter.unusedSimpArgs false
end Go.Vm
/- Phrases: small entries; what is let out is right; the law of fills. No condition but on lengths. -/
namespace Go.Vm
open Go.Proofs
open Go.Lib (decodeL decodeN decodeL_N decode_N decodeN_shape decodeL_le)
set_option linter.unusedVariables false
set_option linter.unusedSimpArgs false
/-! ### small entries -/
end Go.Vm
/- Programs: what is to be done next, and how many calls are ahead: the program's answer and the document's are the plain one. No condition but on lengths. -/
namespace Go.Vm
open Go.Proofs
set_option linter.unusedVariables false
set_option linter.unusedSimpArgs false
/-! ### needs -/
theorem needs_t (body name : By) (n : Int) (hb : body.length ≤ 1000) : Tends (fun F => M_prog_needs F (body, name, n)) (needT body name n) := by
 unfold M_prog_needs needT
 refine Tends.bind (field_v body name hb) ?_
 have h4 := first_ok body name
 generalize firstM name (objL (vP body)) = v at h4
 obtain ⟨f, ok⟩ := v
 simp only at h4 ⊢
 refine Tends.bind (number_v f (by omega)) (.of fun F => ?_)
 cases ok with
 | false => rfl
 | true =>
  by_cases c1 : kindP (vP f) = 3
  ·by_cases c2 : 1 ≤ numV (vP f) <;> simp [c1, c2]
  ·simp [c1]
theorem sort_mem (x : Int) : decide (sortI x ∈ ([1, 2, 3] : List Int)) = decide (1 ≤ sortI x ∧ sortI x ≤ 3) := by
 rw [Bool.eq_iff_iff, decide_eq_true_eq, decide_eq_true_eq]
 simp only [List.mem_cons, List.not_mem_nil, or_false]
 omega
theorem ponly_t (s : By) (hs : s.length ≤ 100000) : Tends (fun F => M_sign_Only F (s, [1, 2, 3])) (((signs s).map (·.1)).all fun x => decide (1 ≤ sortI x ∧ sortI x ≤ 3)) := by
 have := only_tends s [1, 2, 3] (by decide)
 unfold onlyL at this
 simp only [sort_mem] at this
 exact this
theorem pass_t (F : Nat) (ok : Bool) (why : By) (h : why.length ≤ 2000) : M_prog_pass F (ok, why) = some (passD ok why) := by
 unfold M_prog_pass passD
 cases ok with
 | true => rfl
 | false =>
  show (if decide (([114, 101, 102, 117, 115, 101, 100, 32] : By).length + why.length ≤ 9223372036854775807) = true then _ else none) = _
  rw [if_pos (by rw [decide_eq_true_eq]; simp only [List.length_cons, List.length_nil]; omega)]
  rfl
/-! ### next -/
theorem next_t (p : List PhT) (e : EnT) (hl : p.length ≤ 1000000) (hb : ∀ x ∈ p, bndP x) (he : e.key.length ≤ 1000 ∧ e.method.length ≤ 1000 ∧ e.path.length ≤ 1000 ∧ e.body.length ≤ 1000) : Tends (fun F => M_prog_Next F (p, e)) (nextT p e) := by
 unfold M_prog_Next nextT
 refine Tends.bind (pmay_t p hl hb) ?_
 by_cases hm : mayG p = true
 case neg =>
  have hm' : mayG p = false := by simpa using hm
  rw [hm', if_pos rfl]
  exact Tends.pos rfl (.ret _)
 rw [hm, if_neg (show ¬ (true = false) by decide)]
 refine Tends.neg (by decide) ?_
 refine Tends.bind (r := ((p, (), (), decide (e.pt < 0 ∨ (p.length : Int) ≤ e.pt), e, zDo, ()) : List PhT × Unit × Unit × Bool × EnT × DoT × Unit)) (.of fun F => ?_) ?_
 ·show (if decide (e.pt < 0) = false then some (p, (), (), decide ((p.length : Int) ≤ e.pt), e, zDo, ()) else some (p, (), (), true, e, zDo, ())) = _
  by_cases c1 : e.pt < 0
  ·rw [if_neg (by rw [decide_eq_true c1]; decide), decide_eq_true (.inl c1)]
  ·rw [if_pos (decide_eq_false c1)]
   have : decide (e.pt < 0 ∨ (p.length : Int) ≤ e.pt) = decide ((p.length : Int) ≤ e.pt) := by rw [decide_eq_decide]; exact ⟨fun h => h.resolve_left c1, .inr⟩
   rw [this]
 by_cases hc : e.pt < 0 ∨ (p.length : Int) ≤ e.pt
 ·rw [if_pos hc]
  exact Tends.pos (decide_eq_true hc) (.ret _)
 rw [if_neg hc]
 refine Tends.neg (by rw [decide_eq_true_eq]; exact hc) ?_
 have hi : e.pt.toNat < p.length := by omega
 have hg : p[e.pt.toNat]? = some p[e.pt.toNat] := List.getElem?_eq_getElem hi
 have hx : idx p e.pt = some p[e.pt.toNat] := by
  have := idx_at p e.pt.toNat _ hg
  rwa [show ((e.pt.toNat : Nat) : Int) = e.pt by omega] at this
 obtain ⟨hbn, hbt⟩ := hb p[e.pt.toNat] (List.getElem_mem hi)
 rw [hg]
 generalize p[e.pt.toNat] = x at *
 refine Tends.bind (.of fun F => hx) ?_
 show Tends _ ((doT x e, 0) : DoT × Int)
 unfold doT
 by_cases k1 : x.1 = 1
 ·rw [if_pos k1]
  refine Tends.pos (decide_eq_true k1) ?_
  refine Tends.bind (r := (((), 0, passD (onlyT e.body x.2.2.1) wOnly, ()) : Unit × Int × DoT × Unit)) ?_ (.ret _)
  refine Tends.bind (count_tends e.body (by omega)) ?_
  unfold onlyT
  by_cases c : ((signs e.body).length : Int) ≤ x.2.2.1
  ·rw [decide_eq_true c, Bool.true_and]
   exact Tends.pos rfl (Tends.bind (ponly_t e.body (by omega)) (Tends.bind (.of fun F => pass_t F _ _ (by decide)) (.ret _)))
  ·rw [decide_eq_false c, Bool.false_and]
   exact Tends.neg (by decide) (Tends.bind (.of fun F => pass_t F _ _ (by decide)) (.ret _))
 rw [if_neg k1]
 refine Tends.neg (by rw [decide_eq_true_eq]; exact k1) ?_
 by_cases k2 : x.1 = 2
 ·rw [if_pos k2]
  refine Tends.pos (decide_eq_true k2) ?_
  refine Tends.bind (r := (((), 0, passD (needT e.body x.2.1 x.2.2.1) (wNeed ++ 32 :: x.2.1), ()) : Unit × Int × DoT × Unit)) ?_ (.ret _)
  refine Tends.bind (needs_t e.body x.2.1 x.2.2.1 (by omega)) ?_
  refine Tends.pos (by rw [decide_eq_true_eq]; simp only [List.length_cons, List.length_nil]; omega) ?_
  exact Tends.bind (.of fun F => pass_t F _ _ (by simp only [List.length_append, List.length_cons, List.length_nil]; omega)) (.ret _)
 rw [if_neg k2]
 refine Tends.neg (by rw [decide_eq_true_eq]; exact k2) ?_
 by_cases k3 : x.1 = 3
 ·rw [if_pos k3]
  refine Tends.pos (decide_eq_true k3) ?_
  refine Tends.bind (r := (((), (), zDo, (e.1, e.key, e.ep, e.pt, e.tk, x.2.1, fillT x.2.2.2.1 e, ()), ()) : Unit × Unit × DoT × (Int × By × Int × Int × Int × By × By × Unit) × Unit)) ?_ (.ret _)
  exact Tends.bind (fill_t x.2.2.2.1 e hbt he) (.ret _)
 rw [if_neg k3]
 refine Tends.neg (by rw [decide_eq_true_eq]; exact k3) ?_
 refine Tends.bind (r := (((), 0, (2, x.2.2.1, fillT x.2.2.2.1 e, 0, [], 0, 0, 0, [], [], ()), ()) : Unit × Int × DoT × Unit)) ?_ (.ret _)
 exact Tends.bind (fill_t x.2.2.2.1 e hbt he) (.ret _)
end Go.Vm
