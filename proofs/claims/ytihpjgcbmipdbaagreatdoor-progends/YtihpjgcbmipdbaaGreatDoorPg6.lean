import Derived.Test.YtihpjgcbmipdbaaGreatDoorPg4
import Derived.Test.YtihpjgcbmipdbaaGreatDoorFlaw22
/- Programs: what the program prints and parses is the plain one. No condition but on lengths. -/
namespace Go.Vm
open Go.Proofs
open Go.Lib (decDigits itoa)
set_option linter.unusedVariables false
set_option linter.unusedSimpArgs false
theorem nm_len {s : By} (h : nmP s = true) : s.length ≤ 12 := by
 unfold nmP at h
 simp only [Bool.and_eq_true, decide_eq_true_eq] at h
 exact h.2
theorem textG_len {s : By} (h : textG s = true) : s.length ≤ 60 := by
 unfold textG checkT at h
 simp only [Bool.and_eq_true, decide_eq_true_eq] at h
 exact h.2.1
theorem rest_hit (t : By) (r : List By) : restG ((32 :: t) :: r) = (restG r).map (readG t :: ·) := rfl
theorem rest_miss (x : By) (r : List By) (h : ∀ t, x ≠ 32 :: t) : restG (x :: r) = none := by
 unfold restG
 split
 ·exact absurd rfl (h _)
 ·rfl
abbrev PaR := Unit × List PhT × Unit ⊕ Unit × Int × List PhT × Unit
def paR (out : List PhT) : Option (List PhT) → PaR
 | some l => .inl ((), out ++ l, ())
 | none => .inr ((), 3, [], ())
theorem pparse_loop (xs : List By) (hn : xs.length ≤ 1000000) (hx : ∀ x ∈ xs, x.length ≤ 100000) : ∀ (n i : Nat) (out : List PhT), i + n = xs.length → out.length = i → 1 ≤ i → TendsL M_prog_Parse_l0 ((), xs, (xs.length : Int), (i : Int), out, ()) (paR out (restG (xs.drop i)))
 | 0, i, out, h, ho, h1 => by
  refine TendsL.fin (.of fun F => ?_)
  unfold M_prog_Parse_l0
  rw [if_neg (by rw [decide_eq_true_eq]; simp only; omega), List.drop_eq_nil_of_le (by omega)]
  show some (Sum.inr (Sum.inl ((), out, ()))) = some (Sum.inr (Sum.inl ((), out ++ [], ())))
  rw [List.append_nil]
 | n + 1, i, out, h, ho, h1 => by
  have hi : i < xs.length := by omega
  have hx0 : idx xs (i : Int) = some xs[i] := idx_at _ _ _ (List.getElem?_eq_getElem hi)
  have hw : IntKind.i64.wrap ((i : Int) + 1) = ((i + 1 : Nat) : Int) := by rw [wrap64 _ (by omega) (by omega)]; omega
  have hxl := hx xs[i] (List.getElem_mem hi)
  have hsb : sub ([59, 32] : By) 1 2 = some [32] := rfl
  rw [List.drop_eq_getElem_cons hi]
  generalize xs[i] = x at *
  by_cases hc : ∃ t, x = 32 :: t
  ·obtain ⟨t, rfl⟩ := hc
   rw [List.length_cons] at hxl
   have ih := pparse_loop xs hn hx n (i + 1) (out ++ [readG t]) (by omega) (by rw [List.length_append, List.length_singleton]; omega) (by omega)
   have e : paR out (restG ((32 :: t) :: xs.drop (i + 1))) = paR (out ++ [readG t]) (restG (xs.drop (i + 1))) := by
    rw [rest_hit]
    cases restG (xs.drop (i + 1)) with
    | none => rfl
    | some l => show Sum.inl ((), out ++ (readG t :: l), ()) = Sum.inl ((), (out ++ [readG t]) ++ l, ()); rw [List.append_assoc]; rfl
   rw [e]
   refine TendsL.step (.of fun F => ?_) ih
   unfold M_prog_Parse_l0
   rw [if_pos (by rw [decide_eq_true_eq]; simp only; omega)]
   simp only [hx0, Option.bind_some]
   rw [if_pos (by rw [decide_eq_true_eq]; omega)]
   simp only [hsb, Option.bind_some, pre_hit F t (by omega), Bool.not_true, Bool.false_eq_true, if_false, sumC_inl, read_eq F t (by omega)]
   rw [if_pos (by rw [decide_eq_true_eq]; simp only [List.length_singleton]; omega), hw]
  ·have hm : ∀ t, x ≠ 32 :: t := fun t ht => hc ⟨t, ht⟩
   rw [rest_miss x _ hm]
   refine TendsL.fin (.of fun F => ?_)
   unfold M_prog_Parse_l0
   rw [if_pos (by rw [decide_eq_true_eq]; simp only; omega)]
   simp only [hx0, Option.bind_some]
   rw [if_pos (by rw [decide_eq_true_eq]; omega)]
   simp only [hsb, Option.bind_some, pre_miss F x hm, Bool.not_false, if_true, sumC_inr]
   rfl
theorem pread_bnd (x : By) (h : x.length ≤ 1000) : bndP (readG x) := by
 have h1 := cut_len x [32]
 have h2 := cut_len (Lib.cut x [32]).2.1 [32]
 unfold readG
 split
 ·exact ⟨Nat.zero_le _, Nat.zero_le _⟩
 split
 ·exact ⟨Nat.zero_le _, Nat.zero_le _⟩
 split
 ·exact ⟨Nat.zero_le _, Nat.zero_le _⟩
 split
 ·exact ⟨by simp only; omega, Nat.zero_le _⟩
 split
 ·exact ⟨by simp only; omega, by simp only; omega⟩
 split
 ·exact ⟨Nat.zero_le _, by simp only; omega⟩
 ·exact ⟨Nat.zero_le _, Nat.zero_le _⟩
theorem rest_bnd : ∀ (xs : List By) (l : List PhT), (∀ x ∈ xs, x.length ≤ 1000) → restG xs = some l → l.length = xs.length ∧ ∀ p ∈ l, bndP p
 | [], l, hx, h => by cases h; exact ⟨rfl, fun p hp => by cases hp⟩
 | x :: xs, l, hx, h => by
  by_cases hc : ∃ t, x = 32 :: t
  ·obtain ⟨t, rfl⟩ := hc
   rw [rest_hit] at h
   obtain ⟨l', h1, rfl⟩ := Option.map_eq_some_iff.1 h
   obtain ⟨i1, i2⟩ := rest_bnd xs l' (fun y hy => hx y (List.mem_cons_of_mem _ hy)) h1
   have h2 := hx (32 :: t) (List.mem_cons_self ..)
   rw [List.length_cons] at h2
   refine ⟨by rw [List.length_cons, List.length_cons, i1], fun p hp => ?_⟩
   rcases List.mem_cons.1 hp with rfl | hp
   ·exact pread_bnd t (by omega)
   ·exact i2 p hp
  ·rw [rest_miss x xs fun t ht => hc ⟨t, ht⟩] at h
   cases h
theorem pparse_t (s : By) (hs : s.length ≤ 1000) : Tends (fun F => M_prog_Parse F s) (parseT s) := by
 obtain ⟨c1, c2⟩ := splC_len 59 s
 have hsp : ∀ F, M_strings_Split F (s, [59]) = some (splC 59 s) := by
  intro F
  unfold M_strings_Split MSplit
  rw [if_pos (decide_eq_true (by simp only; omega)), if_pos (by rfl), split_splC]
 unfold M_prog_Parse parseT parsG
 refine Tends.bind (.of hsp) ?_
 cases hx : splC 59 s with
 | nil => exact absurd hx (splC_ne 59 s)
 | cons x xs =>
  rw [hx] at c1 c2
  rw [List.length_cons] at c1
  have hxl := c2 x (List.mem_cons_self ..)
  have hw : IntKind.i64.wrap ((0 : Int) + 1) = ((1 : Nat) : Int) := by rw [wrap64 _ (by omega) (by omega)]; rfl
  have h := pparse_loop (x :: xs) (by rw [List.length_cons]; omega) (fun y hy => by have := c2 y hy; omega) xs.length 1 [readG x] (by rw [List.length_cons]; omega) rfl (Nat.le_refl _)
  have hl : TendsL M_prog_Parse_l0 ((), x :: xs, ((x :: xs).length : Int), 0, [], ()) (paR [readG x] (restG xs)) := by
   refine TendsL.step (.of fun F => ?_) h
   unfold M_prog_Parse_l0
   rw [if_pos (by rw [decide_eq_true_eq]; simp only [List.length_cons]; omega)]
   have hx0 : idx (x :: xs) 0 = some x := idx_at _ 0 _ rfl
   simp only [hx0, Option.bind_some]
   rw [if_neg (by rw [decide_eq_true_eq]; simp only [List.length_nil]; omega)]
   simp only [Option.bind_some, sumC_inl, read_eq F x (by omega)]
   rw [if_pos (by rw [decide_eq_true_eq]; simp only [List.length_nil, List.length_singleton]; omega), hw]
   rfl
  refine Tends.bind hl.run ?_
  simp only
  cases hr : restG xs with
  | none => exact .ret _
  | some l =>
   obtain ⟨b1, b2⟩ := rest_bnd xs l (fun y hy => by have := c2 y (List.mem_cons_of_mem _ hy); omega) hr
   have hm := pmay_t (readG x :: l) (by rw [List.length_cons]; omega) fun p hp => by
    rcases List.mem_cons.1 hp with rfl | hp
    ·exact pread_bnd x (by omega)
    ·exact b2 p hp
   show Tends _ (if mayG (readG x :: l) = true then (readG x :: l, 0) else ([], 3))
   refine Tends.bind hm ?_
   by_cases hmm : mayG (readG x :: l) = true
   ·rw [if_pos hmm, hmm]
    exact Tends.neg (by decide) (.ret _)
   ·have hmm' : mayG (readG x :: l) = false := by simpa using hmm
    rw [if_neg hmm, hmm']
    exact Tends.pos rfl (.ret _)
end Go.Vm
/- Programs: the document's functions are the plain ones. No condition but on lengths. -/
namespace Go.Vm
open Go.Proofs
open Go.Lib (decDigits itoa)
set_option linter.unusedVariables false
set_option linter.unusedSimpArgs false
/-! ### phases -/
theorem rtext_loop (x : By) (hx : x.length ≤ 1000) : ∀ (n i : Nat), i + n = x.length → TendsL M_conciergeref23_text_l0 (x, (i : Int), ()) (if (x.drop i).all (fun c => c != 59) = true then .inl (x, ()) else .inr (false, ()))
 | 0, i, h => by
  refine TendsL.fin (.of fun F => ?_)
  unfold M_conciergeref23_text_l0
  rw [if_neg (by rw [decide_eq_true_eq]; simp only; omega), List.drop_eq_nil_of_le (by omega)]
  rfl
 | n + 1, i, h => by
  have hi : i < x.length := by omega
  have hx0 : idx x (i : Int) = some x[i] := idx_at _ _ _ (List.getElem?_eq_getElem hi)
  have hw : IntKind.i64.wrap ((i : Int) + 1) = ((i + 1 : Nat) : Int) := by rw [wrap64 _ (by omega) (by omega)]; omega
  have ih := rtext_loop x hx n (i + 1) (by omega)
  rw [List.drop_eq_getElem_cons hi, List.all_cons]
  generalize x[i] = c at *
  have n59 : ((c.toNat : Int) = 59) = (c = 59) := nvB c 59
  by_cases hc : c = 59
  ·have e : (c != 59) = false := by rw [hc]; rfl
   rw [e, Bool.false_and]
   refine TendsL.fin (.of fun F => ?_)
   unfold M_conciergeref23_text_l0
   rw [if_pos (by rw [decide_eq_true_eq]; simp only; omega)]
   simp only [hx0, Option.bind_some, n59, decide_eq_true hc]
   rfl
  ·have e : (c != 59) = true := by rw [bne_iff_ne]; exact hc
   rw [e, Bool.true_and]
   refine TendsL.step (.of fun F => ?_) ih
   unfold M_conciergeref23_text_l0
   rw [if_pos (by rw [decide_eq_true_eq]; simp only; omega)]
   simp only [hx0, Option.bind_some, n59, decide_eq_false hc, Bool.false_eq_true, if_false, hw]
theorem rtext_t (x : By) (hx : x.length ≤ 1000) : Tends (fun F => M_conciergeref23_text F x) (textG x) := by
 unfold M_conciergeref23_text textG
 have h := rtext_loop x hx x.length 0 (by omega)
 rw [List.drop_zero] at h
 refine Tends.bind h.run ?_
 by_cases ha : x.all (fun c => c != 59) = true
 ·rw [if_pos ha, ha, Bool.true_and]
  exact Tends.bind (check22_t x hx) (.ret _)
 ·have ha' : x.all (fun c => c != 59) = false := by simpa using ha
  rw [if_neg ha, ha', Bool.false_and]
  exact .ret _
theorem rphase_t (p : PhT) (hp : bndP p) : Tends (fun F => M_conciergeref23_phase F p) (rightG p) := by
 obtain ⟨k, nm, n, t, u⟩ := p
 obtain ⟨hn, ht⟩ := hp
 simp only at hn ht
 unfold M_conciergeref23_phase rightG
 simp only
 by_cases k1 : k = 1
 ·rw [if_pos k1]
  refine Tends.pos (decide_eq_true k1) (.of fun F => ?_)
  by_cases c1 : 1 ≤ n
  ·by_cases c2 : n ≤ 80
   ·by_cases c3 : nm = [] <;> by_cases c4 : t = [] <;> simp [c1, c2, c3, c4]
   ·simp [c1, c2]
  ·simp [c1]
 rw [if_neg k1]
 refine Tends.neg (by rw [decide_eq_true_eq]; exact k1) ?_
 by_cases k2 : k = 2
 ·rw [if_pos k2]
  refine Tends.pos (decide_eq_true k2) ?_
  refine Tends.bind (r := (((), decide (1 ≤ n) && decide (n ≤ 1073741824), (k, nm, n, t, ()), ()) : Unit × Bool × PhT × Unit)) (.of fun F => by
   by_cases c1 : 1 ≤ n <;> simp [c1]) ?_
  refine Tends.bind (r := (((), (decide (1 ≤ n) && decide (n ≤ 1073741824)) && nmP nm, (k, nm, n, t, ()), ()) : Unit × Bool × PhT × Unit)) ?_ ?_
  ·cases hb : (decide (1 ≤ n) && decide (n ≤ 1073741824)) with
   | true => exact Tends.pos rfl (Tends.bind (name22_t nm (by omega)) (.ret _))
   | false => exact Tends.neg Bool.false_ne_true (.ret _)
  ·refine .of fun F => ?_
   cases hb : ((decide (1 ≤ n) && decide (n ≤ 1073741824)) && nmP nm) <;> simp
 rw [if_neg k2]
 refine Tends.neg (by rw [decide_eq_true_eq]; exact k2) ?_
 by_cases k3 : k = 3
 ·rw [if_pos k3]
  refine Tends.pos (decide_eq_true k3) ?_
  refine Tends.bind (r := (((), decide (n = 0) && nmP nm, (k, nm, n, t, ()), ()) : Unit × Bool × PhT × Unit)) ?_ ?_
  ·by_cases c1 : n = 0
   ·rw [decide_eq_true c1, Bool.true_and]
    exact Tends.pos rfl (Tends.bind (name22_t nm (by omega)) (.ret _))
   ·rw [decide_eq_false c1, Bool.false_and]
    exact Tends.neg Bool.false_ne_true (.ret _)
  refine Tends.bind (r := (((decide (n = 0) && nmP nm) && textG t, ()) : Bool × Unit)) ?_ (.ret _)
  cases hb : (decide (n = 0) && nmP nm) with
  | true => exact Tends.pos rfl (Tends.bind (rtext_t t ht) (.ret _))
  | false => exact Tends.neg Bool.false_ne_true (.ret _)
 rw [if_neg k3]
 refine Tends.neg (by rw [decide_eq_true_eq]; exact k3) ?_
 by_cases k4 : k = 4
 ·rw [if_pos k4]
  refine Tends.bind (r := (((), decide (n = 200) || decide (n = 201), (k, nm, n, t, ()), ()) : Unit × Bool × PhT × Unit)) (Tends.pos (decide_eq_true k4) (.of fun F => by
   by_cases c1 : n = 200 <;> simp [c1])) ?_
  refine Tends.bind (r := (((), (decide (n = 200) || decide (n = 201)) && decide (nm = []), (k, nm, n, t, ()), ()) : Unit × Bool × PhT × Unit)) (.of fun F => by
   cases hb : (decide (n = 200) || decide (n = 201)) <;> simp [hb]) ?_
  refine Tends.bind (r := ((((decide (n = 200) || decide (n = 201)) && decide (nm = [])) && textG t, ()) : Bool × Unit)) ?_ (.ret _)
  cases hb : ((decide (n = 200) || decide (n = 201)) && decide (nm = [])) with
  | true => exact Tends.pos rfl (Tends.bind (rtext_t t ht) (.ret _))
  | false => exact Tends.neg Bool.false_ne_true (.ret _)
 ·rw [if_neg k4]
  refine Tends.bind (r := (((), false, (k, nm, n, t, ()), ()) : Unit × Bool × PhT × Unit)) (Tends.neg (by rw [decide_eq_true_eq]; exact k4) (.ret _)) (.of fun F => rfl)
theorem rmay_loop (l : List PhT) (hl : l.length ≤ 1000000) (hb : ∀ p ∈ l, bndP p) : ∀ (n i : Nat), i + n = l.length → TendsL M_conciergeref23_May_l0 (l, (i : Int), ()) (if mayL (l.drop i) = true then .inl () else .inr (false, ()))
 | 0, i, h => by
  refine TendsL.fin (.of fun F => ?_)
  unfold M_conciergeref23_May_l0
  rw [if_neg (by rw [decide_eq_true_eq]; simp only; omega), List.drop_eq_nil_of_le (by omega)]
  rfl
 | n + 1, i, h => by
  have hi : i < l.length := by omega
  have hx : idx l (i : Int) = some l[i] := idx_at _ _ _ (List.getElem?_eq_getElem hi)
  have hw : IntKind.i64.wrap ((i : Int) + 1) = ((i + 1 : Nat) : Int) := by rw [wrap64 _ (by omega) (by omega)]; omega
  have hw1 : IntKind.i64.wrap ((l.length : Int) - 1) = ((l.length - 1 : Nat) : Int) := by rw [wrap64 _ (by omega) (by omega)]; omega
  have ih := rmay_loop l hl hb n (i + 1) (by omega)
  have hr := rphase_t l[i] (hb _ (List.getElem_mem hi))
  have hd := drop_nil_iff l i hi
  rw [List.drop_eq_getElem_cons hi]
  generalize l[i] = p at *
  have hk : decide (l.drop (i + 1) = []) = decide ((i : Int) = ((l.length - 1 : Nat) : Int)) := by
   rw [Bool.eq_iff_iff, decide_eq_true_eq, decide_eq_true_eq, hd]; omega
  have e : mayL (p :: l.drop (i + 1)) = (rightG p && (decide (p.1 = 4) == decide ((i : Int) = ((l.length - 1 : Nat) : Int))) && mayL (l.drop (i + 1))) := by rw [← hk]; rfl
  rw [e]
  have hbody : Tends (fun F => M_conciergeref23_May_l0 F (l, (i : Int), ())) (if (rightG p && (decide (p.1 = 4) == decide ((i : Int) = ((l.length - 1 : Nat) : Int)))) = true then .inl (l, ((i + 1 : Nat) : Int), ()) else .inr (.inr (false, ()))) := by
   unfold M_conciergeref23_May_l0
   refine Tends.pos (by rw [decide_eq_true_eq]; simp only; omega) ?_
   refine Tends.bind (r := ((l, (i : Int), !(rightG p && (decide (p.1 = 4) == decide ((i : Int) = ((l.length - 1 : Nat) : Int)))), ()) : List PhT × Int × Bool × Unit)) (Tends.bind (.of fun F => hx) (Tends.bind hr ?_)) ?_
   ·cases hrp : rightG p with
    | true => exact .of fun F => by simp [hw1, hx]
    | false => exact .of fun F => by simp
   ·cases hrp : (rightG p && (decide (p.1 = 4) == decide ((i : Int) = ((l.length - 1 : Nat) : Int)))) with
    | true => exact Tends.neg (by simp) (.of fun F => by simp [hw])
    | false => exact Tends.pos (by simp) (.of fun F => by simp)
  cases hrp : (rightG p && (decide (p.1 = 4) == decide ((i : Int) = ((l.length - 1 : Nat) : Int)))) with
  | true =>
   rw [hrp, if_pos rfl] at hbody
   rw [Bool.true_and]
   exact TendsL.step hbody ih
  | false =>
   rw [hrp, if_neg Bool.false_ne_true] at hbody
   rw [Bool.false_and, if_neg Bool.false_ne_true]
   exact TendsL.fin hbody
theorem rmay_t (l : List PhT) (hl : l.length ≤ 1000000) (hb : ∀ p ∈ l, bndP p) : Tends (fun F => M_conciergeref23_May F l) (mayG l) := by
 unfold M_conciergeref23_May mayG
 refine Tends.bind (r := ((l, !(decide (1 ≤ l.length) && decide (l.length ≤ 5)), ()) : List PhT × Bool × Unit)) (.of fun F => ?_) ?_
 ·by_cases h0 : l.length = 0
  ·rw [if_neg (by rw [decide_eq_true (by omega)]; decide), decide_eq_false (by omega)]
   rfl
  ·rw [if_pos (decide_eq_false (by omega)), decide_eq_true (by omega : 1 ≤ l.length), Bool.true_and]
   by_cases h5 : l.length ≤ 5
   ·rw [decide_eq_false (by omega), decide_eq_true h5]; rfl
   ·rw [decide_eq_true (by omega), decide_eq_false h5]; rfl
 cases hc : (decide (1 ≤ l.length) && decide (l.length ≤ 5)) with
 | false => exact Tends.pos rfl (.ret _)
 | true =>
  refine Tends.neg (by simp) ?_
  have h := rmay_loop l hl hb l.length 0 (by omega)
  rw [List.drop_zero] at h
  refine Tends.bind h.run ?_
  rw [Bool.true_and]
  cases mayL l <;> exact .ret _
/-! ### texts -/
end Go.Vm
