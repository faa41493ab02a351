import Derived.Test.YtihpjgcbmipdbaaGreatDoorPg4
import Derived.Test.YtihpjgcbmipdbaaGreatDoorFref23
import Derived.Test.YtihpjgcbmipdbaaGreatDoorFlaw23s
import Derived.Test.YtihpjgcbmipdbaaGreatDoorPh5
import Derived.Test.YtihpjgcbmipdbaaGreatDoorPh1
import Derived.Test.YtihpjgcbmipdbaaGreatDoorFprog2
import Derived.Test.YtihpjgcbmipdbaaGreatDoorFref23b
/- Programs: what the program prints and parses is the plain one. No condition but on lengths. -/
namespace Go.Vm
open Go.Proofs
open Go.Lib (decDigits itoa)
set_option linter.unusedVariables false
set_option linter.unusedSimpArgs false
theorem nm_len {s : By} (h : nmP s = true) : s.length ≤ 12 := by
 unfold nmP at h
 simp only [Bool.and_eq_true, decide_eq_true_eq] at h
 exact h.2
theorem textG_len {s : By} (h : textG s = true) : s.length ≤ 60 := by
 unfold textG checkT at h
 simp only [Bool.and_eq_true, decide_eq_true_eq] at h
 exact h.2.1
theorem rest_hit (t : By) (r : List By) : restG ((32 :: t) :: r) = (restG r).map (readG t :: ·) := rfl
theorem rest_miss (x : By) (r : List By) (h : ∀ t, x ≠ 32 :: t) : restG (x :: r) = none := by
 unfold restG
 split
 ·exact absurd rfl (h _)
 ·rfl
abbrev PaR := Unit × List PhT × Unit ⊕ Unit × Int × List PhT × Unit
def paR (out : List PhT) : Option (List PhT) → PaR
 | some l => .inl ((), out ++ l, ())
 | none => .inr ((), 3, [], ())
theorem pparse_loop (xs : List By) (hn : xs.length ≤ 1000000) (hx : ∀ x ∈ xs, x.length ≤ 100000) : ∀ (n i : Nat) (out : List PhT), i + n = xs.length → out.length = i → 1 ≤ i → TendsL M_prog_Parse_l0 ((), xs, (xs.length : Int), (i : Int), out, ()) (paR out (restG (xs.drop i)))
 | 0, i, out, h, ho, h1 => by
  refine TendsL.fin (.of fun F => ?_)
  unfold M_prog_Parse_l0
  rw [if_neg (by rw [decide_eq_true_eq]; simp only; omega), List.drop_eq_nil_of_le (by omega)]
  show some (Sum.inr (Sum.inl ((), out, ()))) = some (Sum.inr (Sum.inl ((), out ++ [], ())))
  rw [List.append_nil]
 | n + 1, i, out, h, ho, h1 => by
  have hi : i < xs.length := by omega
  have hx0 : idx xs (i : Int) = some xs[i] := idx_at _ _ _ (List.getElem?_eq_getElem hi)
  have hw : IntKind.i64.wrap ((i : Int) + 1) = ((i + 1 : Nat) : Int) := by rw [wrap64 _ (by omega) (by omega)]; omega
  have hxl := hx xs[i] (List.getElem_mem hi)
  have hsb : sub ([59, 32] : By) 1 2 = some [32] := rfl
  rw [List.drop_eq_getElem_cons hi]
  generalize xs[i] = x at *
  by_cases hc : ∃ t, x = 32 :: t
  ·obtain ⟨t, rfl⟩ := hc
   rw [List.length_cons] at hxl
   have ih := pparse_loop xs hn hx n (i + 1) (out ++ [readG t]) (by omega) (by rw [List.length_append, List.length_singleton]; omega) (by omega)
   have e : paR out (restG ((32 :: t) :: xs.drop (i + 1))) = paR (out ++ [readG t]) (restG (xs.drop (i + 1))) := by
    rw [rest_hit]
    cases restG (xs.drop (i + 1)) with
    | none => rfl
    | some l => show Sum.inl ((), out ++ (readG t :: l), ()) = Sum.inl ((), (out ++ [readG t]) ++ l, ()); rw [List.append_assoc]; rfl
   rw [e]
   refine TendsL.step (.of fun F => ?_) ih
   unfold M_prog_Parse_l0
   rw [if_pos (by rw [decide_eq_true_eq]; simp only; omega)]
   simp only [hx0, Option.bind_some]
   rw [if_pos (by rw [decide_eq_true_eq]; omega)]
   simp only [hsb, Option.bind_some, pre_hit F t (by omega), Bool.not_true, Bool.false_eq_true, if_false, sumC_inl, read_eq F t (by omega)]
   rw [if_pos (by rw [decide_eq_true_eq]; simp only [List.length_singleton]; omega), hw]
  ·have hm : ∀ t, x ≠ 32 :: t := fun t ht => hc ⟨t, ht⟩
   rw [rest_miss x _ hm]
   refine TendsL.fin (.of fun F => ?_)
   unfold M_prog_Parse_l0
   rw [if_pos (by rw [decide_eq_true_eq]; simp only; omega)]
   simp only [hx0, Option.bind_some]
   rw [if_pos (by rw [decide_eq_true_eq]; omega)]
   simp only [hsb, Option.bind_some, pre_miss F x hm, Bool.not_false, if_true, sumC_inr]
   rfl
theorem pread_bnd (x : By) (h : x.length ≤ 1000) : bndP (readG x) := by
 have h1 := cut_len x [32]
 have h2 := cut_len (Lib.cut x [32]).2.1 [32]
 unfold readG
 split
 ·exact ⟨Nat.zero_le _, Nat.zero_le _⟩
 split
 ·exact ⟨Nat.zero_le _, Nat.zero_le _⟩
 split
 ·exact ⟨Nat.zero_le _, Nat.zero_le _⟩
 split
 ·exact ⟨by simp only; omega, Nat.zero_le _⟩
 split
 ·exact ⟨by simp only; omega, by simp only; omega⟩
 split
 ·exact ⟨Nat.zero_le _, by simp only; omega⟩
 ·exact ⟨Nat.zero_le _, Nat.zero_le _⟩
theorem rest_bnd : ∀ (xs : List By) (l : List PhT), (∀ x ∈ xs, x.length ≤ 1000) → restG xs = some l → l.length = xs.length ∧ ∀ p ∈ l, bndP p
 | [], l, hx, h => by cases h; exact ⟨rfl, fun p hp => by cases hp⟩
 | x :: xs, l, hx, h => by
  by_cases hc : ∃ t, x = 32 :: t
  ·obtain ⟨t, rfl⟩ := hc
   rw [rest_hit] at h
   obtain ⟨l', h1, rfl⟩ := Option.map_eq_some_iff.1 h
   obtain ⟨i1, i2⟩ := rest_bnd xs l' (fun y hy => hx y (List.mem_cons_of_mem _ hy)) h1
   have h2 := hx (32 :: t) (List.mem_cons_self ..)
   rw [List.length_cons] at h2
   refine ⟨by rw [List.length_cons, List.length_cons, i1], fun p hp => ?_⟩
   rcases List.mem_cons.1 hp with rfl | hp
   ·exact pread_bnd t (by omega)
   ·exact i2 p hp
  ·rw [rest_miss x xs fun t ht => hc ⟨t, ht⟩] at h
   cases h
theorem pparse_t (s : By) (hs : s.length ≤ 1000) : Tends (fun F => M_prog_Parse F s) (parseT s) := by
 obtain ⟨c1, c2⟩ := splC_len 59 s
 have hsp : ∀ F, M_strings_Split F (s, [59]) = some (splC 59 s) := by
  intro F
  unfold M_strings_Split MSplit
  rw [if_pos (decide_eq_true (by simp only; omega)), if_pos (by rfl), split_splC]
 unfold M_prog_Parse parseT parsG
 refine Tends.bind (.of hsp) ?_
 cases hx : splC 59 s with
 | nil => exact absurd hx (splC_ne 59 s)
 | cons x xs =>
  rw [hx] at c1 c2
  rw [List.length_cons] at c1
  have hxl := c2 x (List.mem_cons_self ..)
  have hw : IntKind.i64.wrap ((0 : Int) + 1) = ((1 : Nat) : Int) := by rw [wrap64 _ (by omega) (by omega)]; rfl
  have h := pparse_loop (x :: xs) (by rw [List.length_cons]; omega) (fun y hy => by have := c2 y hy; omega) xs.length 1 [readG x] (by rw [List.length_cons]; omega) rfl (Nat.le_refl _)
  have hl : TendsL M_prog_Parse_l0 ((), x :: xs, ((x :: xs).length : Int), 0, [], ()) (paR [readG x] (restG xs)) := by
   refine TendsL.step (.of fun F => ?_) h
   unfold M_prog_Parse_l0
   rw [if_pos (by rw [decide_eq_true_eq]; simp only [List.length_cons]; omega)]
   have hx0 : idx (x :: xs) 0 = some x := idx_at _ 0 _ rfl
   simp only [hx0, Option.bind_some]
   rw [if_neg (by rw [decide_eq_true_eq]; simp only [List.length_nil]; omega)]
   simp only [Option.bind_some, sumC_inl, read_eq F x (by omega)]
   rw [if_pos (by rw [decide_eq_true_eq]; simp only [List.length_nil, List.length_singleton]; omega), hw]
   rfl
  refine Tends.bind hl.run ?_
  simp only
  cases hr : restG xs with
  | none => exact .ret _
  | some l =>
   obtain ⟨b1, b2⟩ := rest_bnd xs l (fun y hy => by have := c2 y (List.mem_cons_of_mem _ hy); omega) hr
   have hm := pmay_t (readG x :: l) (by rw [List.length_cons]; omega) fun p hp => by
    rcases List.mem_cons.1 hp with rfl | hp
    ·exact pread_bnd x (by omega)
    ·exact b2 p hp
   show Tends _ (if mayG (readG x :: l) = true then (readG x :: l, 0) else ([], 3))
   refine Tends.bind hm ?_
   by_cases hmm : mayG (readG x :: l) = true
   ·rw [if_pos hmm, hmm]
    exact Tends.neg (by decide) (.ret _)
   ·have hmm' : mayG (readG x :: l) = false := by simpa using hmm
    rw [if_neg hmm, hmm']
    exact Tends.pos rfl (.ret _)
end Go.Vm
/- Programs: the document's functions are the plain ones. No condition but on lengths. -/
namespace Go.Vm
open Go.Proofs
open Go.Lib (decDigits itoa)
set_option linter.unusedVariables false
set_option linter.unusedSimpArgs false
/-! ### phases -/
theorem rtext_loop (x : By) (hx : x.length ≤ 1000) : ∀ (n i : Nat), i + n = x.length → TendsL M_conciergeref23_text_l0 (x, (i : Int), ()) (if (x.drop i).all (fun c => c != 59) = true then .inl (x, ()) else .inr (false, ()))
 | 0, i, h => by
  refine TendsL.fin (.of fun F => ?_)
  unfold M_conciergeref23_text_l0
  rw [if_neg (by rw [decide_eq_true_eq]; simp only; omega), List.drop_eq_nil_of_le (by omega)]
  rfl
 | n + 1, i, h => by
  have hi : i < x.length := by omega
  have hx0 : idx x (i : Int) = some x[i] := idx_at _ _ _ (List.getElem?_eq_getElem hi)
  have hw : IntKind.i64.wrap ((i : Int) + 1) = ((i + 1 : Nat) : Int) := by rw [wrap64 _ (by omega) (by omega)]; omega
  have ih := rtext_loop x hx n (i + 1) (by omega)
  rw [List.drop_eq_getElem_cons hi, List.all_cons]
  generalize x[i] = c at *
  have n59 : ((c.toNat : Int) = 59) = (c = 59) := nvB c 59
  by_cases hc : c = 59
  ·have e : (c != 59) = false := by rw [hc]; rfl
   rw [e, Bool.false_and]
   refine TendsL.fin (.of fun F => ?_)
   unfold M_conciergeref23_text_l0
   rw [if_pos (by rw [decide_eq_true_eq]; simp only; omega)]
   simp only [hx0, Option.bind_some, n59, decide_eq_true hc]
   rfl
  ·have e : (c != 59) = true := by rw [bne_iff_ne]; exact hc
   rw [e, Bool.true_and]
   refine TendsL.step (.of fun F => ?_) ih
   unfold M_conciergeref23_text_l0
   rw [if_pos (by rw [decide_eq_true_eq]; simp only; omega)]
   simp only [hx0, Option.bind_some, n59, decide_eq_false hc, Bool.false_eq_true, if_false, hw]
theorem rtext_t (x : By) (hx : x.length ≤ 1000) : Tends (fun F => M_conciergeref23_text F x) (textG x) := by
 unfold M_conciergeref23_text textG
 have h := rtext_loop x hx x.length 0 (by omega)
 rw [List.drop_zero] at h
 refine Tends.bind h.run ?_
 by_cases ha : x.all (fun c => c != 59) = true
 ·rw [if_pos ha, ha, Bool.true_and]
  exact Tends.bind (check22_t x hx) (.ret _)
 ·have ha' : x.all (fun c => c != 59) = false := by simpa using ha
  rw [if_neg ha, ha', Bool.false_and]
  exact .ret _
theorem rphase_t (p : PhT) (hp : bndP p) : Tends (fun F => M_conciergeref23_phase F p) (rightG p) := by
 obtain ⟨k, nm, n, t, u⟩ := p
 obtain ⟨hn, ht⟩ := hp
 simp only at hn ht
 unfold M_conciergeref23_phase rightG
 simp only
 by_cases k1 : k = 1
 ·rw [if_pos k1]
  refine Tends.pos (decide_eq_true k1) (.of fun F => ?_)
  by_cases c1 : 1 ≤ n
  ·by_cases c2 : n ≤ 80
   ·by_cases c3 : nm = [] <;> by_cases c4 : t = [] <;> simp [c1, c2, c3, c4]
   ·simp [c1, c2]
  ·simp [c1]
 rw [if_neg k1]
 refine Tends.neg (by rw [decide_eq_true_eq]; exact k1) ?_
 by_cases k2 : k = 2
 ·rw [if_pos k2]
  refine Tends.pos (decide_eq_true k2) ?_
  refine Tends.bind (r := (((), decide (1 ≤ n) && decide (n ≤ 1073741824), (k, nm, n, t, ()), ()) : Unit × Bool × PhT × Unit)) (.of fun F => by
   by_cases c1 : 1 ≤ n <;> simp [c1]) ?_
  refine Tends.bind (r := (((), (decide (1 ≤ n) && decide (n ≤ 1073741824)) && nmP nm, (k, nm, n, t, ()), ()) : Unit × Bool × PhT × Unit)) ?_ ?_
  ·cases hb : (decide (1 ≤ n) && decide (n ≤ 1073741824)) with
   | true => exact Tends.pos rfl (Tends.bind (name22_t nm (by omega)) (.ret _))
   | false => exact Tends.neg Bool.false_ne_true (.ret _)
  ·refine .of fun F => ?_
   cases hb : ((decide (1 ≤ n) && decide (n ≤ 1073741824)) && nmP nm) <;> simp
 rw [if_neg k2]
 refine Tends.neg (by rw [decide_eq_true_eq]; exact k2) ?_
 by_cases k3 : k = 3
 ·rw [if_pos k3]
  refine Tends.pos (decide_eq_true k3) ?_
  refine Tends.bind (r := (((), decide (n = 0) && nmP nm, (k, nm, n, t, ()), ()) : Unit × Bool × PhT × Unit)) ?_ ?_
  ·by_cases c1 : n = 0
   ·rw [decide_eq_true c1, Bool.true_and]
    exact Tends.pos rfl (Tends.bind (name22_t nm (by omega)) (.ret _))
   ·rw [decide_eq_false c1, Bool.false_and]
    exact Tends.neg Bool.false_ne_true (.ret _)
  refine Tends.bind (r := (((decide (n = 0) && nmP nm) && textG t, ()) : Bool × Unit)) ?_ (.ret _)
  cases hb : (decide (n = 0) && nmP nm) with
  | true => exact Tends.pos rfl (Tends.bind (rtext_t t ht) (.ret _))
  | false => exact Tends.neg Bool.false_ne_true (.ret _)
 rw [if_neg k3]
 refine Tends.neg (by rw [decide_eq_true_eq]; exact k3) ?_
 by_cases k4 : k = 4
 ·rw [if_pos k4]
  refine Tends.bind (r := (((), decide (n = 200) || decide (n = 201), (k, nm, n, t, ()), ()) : Unit × Bool × PhT × Unit)) (Tends.pos (decide_eq_true k4) (.of fun F => by
   by_cases c1 : n = 200 <;> simp [c1])) ?_
  refine Tends.bind (r := (((), (decide (n = 200) || decide (n = 201)) && decide (nm = []), (k, nm, n, t, ()), ()) : Unit × Bool × PhT × Unit)) (.of fun F => by
   cases hb : (decide (n = 200) || decide (n = 201)) <;> simp [hb]) ?_
  refine Tends.bind (r := ((((decide (n = 200) || decide (n = 201)) && decide (nm = [])) && textG t, ()) : Bool × Unit)) ?_ (.ret _)
  cases hb : ((decide (n = 200) || decide (n = 201)) && decide (nm = [])) with
  | true => exact Tends.pos rfl (Tends.bind (rtext_t t ht) (.ret _))
  | false => exact Tends.neg Bool.false_ne_true (.ret _)
 ·rw [if_neg k4]
  refine Tends.bind (r := (((), false, (k, nm, n, t, ()), ()) : Unit × Bool × PhT × Unit)) (Tends.neg (by rw [decide_eq_true_eq]; exact k4) (.ret _)) (.of fun F => rfl)
theorem rmay_loop (l : List PhT) (hl : l.length ≤ 1000000) (hb : ∀ p ∈ l, bndP p) : ∀ (n i : Nat), i + n = l.length → TendsL M_conciergeref23_May_l0 (l, (i : Int), ()) (if mayL (l.drop i) = true then .inl () else .inr (false, ()))
 | 0, i, h => by
  refine TendsL.fin (.of fun F => ?_)
  unfold M_conciergeref23_May_l0
  rw [if_neg (by rw [decide_eq_true_eq]; simp only; omega), List.drop_eq_nil_of_le (by omega)]
  rfl
 | n + 1, i, h => by
  have hi : i < l.length := by omega
  have hx : idx l (i : Int) = some l[i] := idx_at _ _ _ (List.getElem?_eq_getElem hi)
  have hw : IntKind.i64.wrap ((i : Int) + 1) = ((i + 1 : Nat) : Int) := by rw [wrap64 _ (by omega) (by omega)]; omega
  have hw1 : IntKind.i64.wrap ((l.length : Int) - 1) = ((l.length - 1 : Nat) : Int) := by rw [wrap64 _ (by omega) (by omega)]; omega
  have ih := rmay_loop l hl hb n (i + 1) (by omega)
  have hr := rphase_t l[i] (hb _ (List.getElem_mem hi))
  have hd := drop_nil_iff l i hi
  rw [List.drop_eq_getElem_cons hi]
  generalize l[i] = p at *
  have hk : decide (l.drop (i + 1) = []) = decide ((i : Int) = ((l.length - 1 : Nat) : Int)) := by
   rw [Bool.eq_iff_iff, decide_eq_true_eq, decide_eq_true_eq, hd]; omega
  have e : mayL (p :: l.drop (i + 1)) = (rightG p && (decide (p.1 = 4) == decide ((i : Int) = ((l.length - 1 : Nat) : Int))) && mayL (l.drop (i + 1))) := by rw [← hk]; rfl
  rw [e]
  have hbody : Tends (fun F => M_conciergeref23_May_l0 F (l, (i : Int), ())) (if (rightG p && (decide (p.1 = 4) == decide ((i : Int) = ((l.length - 1 : Nat) : Int)))) = true then .inl (l, ((i + 1 : Nat) : Int), ()) else .inr (.inr (false, ()))) := by
   unfold M_conciergeref23_May_l0
   refine Tends.pos (by rw [decide_eq_true_eq]; simp only; omega) ?_
   refine Tends.bind (r := ((l, (i : Int), !(rightG p && (decide (p.1 = 4) == decide ((i : Int) = ((l.length - 1 : Nat) : Int)))), ()) : List PhT × Int × Bool × Unit)) (Tends.bind (.of fun F => hx) (Tends.bind hr ?_)) ?_
   ·cases hrp : rightG p with
    | true => exact .of fun F => by simp [hw1, hx]
    | false => exact .of fun F => by simp
   ·cases hrp : (rightG p && (decide (p.1 = 4) == decide ((i : Int) = ((l.length - 1 : Nat) : Int)))) with
    | true => exact Tends.neg (by simp) (.of fun F => by simp [hw])
    | false => exact Tends.pos (by simp) (.of fun F => by simp)
  cases hrp : (rightG p && (decide (p.1 = 4) == decide ((i : Int) = ((l.length - 1 : Nat) : Int)))) with
  | true =>
   rw [hrp, if_pos rfl] at hbody
   rw [Bool.true_and]
   exact TendsL.step hbody ih
  | false =>
   rw [hrp, if_neg Bool.false_ne_true] at hbody
   rw [Bool.false_and, if_neg Bool.false_ne_true]
   exact TendsL.fin hbody
theorem rmay_t (l : List PhT) (hl : l.length ≤ 1000000) (hb : ∀ p ∈ l, bndP p) : Tends (fun F => M_conciergeref23_May F l) (mayG l) := by
 unfold M_conciergeref23_May mayG
 refine Tends.bind (r := ((l, !(decide (1 ≤ l.length) && decide (l.length ≤ 5)), ()) : List PhT × Bool × Unit)) (.of fun F => ?_) ?_
 ·by_cases h0 : l.length = 0
  ·rw [if_neg (by rw [decide_eq_true (by omega)]; decide), decide_eq_false (by omega)]
   rfl
  ·rw [if_pos (decide_eq_false (by omega)), decide_eq_true (by omega : 1 ≤ l.length), Bool.true_and]
   by_cases h5 : l.length ≤ 5
   ·rw [decide_eq_false (by omega), decide_eq_true h5]; rfl
   ·rw [decide_eq_true (by omega), decide_eq_false h5]; rfl
 cases hc : (decide (1 ≤ l.length) && decide (l.length ≤ 5)) with
 | false => exact Tends.pos rfl (.ret _)
 | true =>
  refine Tends.neg (by simp) ?_
  have h := rmay_loop l hl hb l.length 0 (by omega)
  rw [List.drop_zero] at h
  refine Tends.bind h.run ?_
  rw [Bool.true_and]
  cases mayL l <;> exact .ret _
/-! ### texts -/
end Go.Vm
/- Programs: what the document parses is the plain one; small programs. No condition but on lengths. -/
namespace Go.Vm
open Go.Proofs
open Go.Lib (decDigits itoa)
set_option linter.unusedVariables false
set_option linter.unusedSimpArgs false
/-! ### words, numbers -/
end Go.Vm
/- Right texts, plainly. No condition. -/
namespace Go.Vm
open Go.Lib (decodeL decodeN decodeL_N decode_N decodeN_shape decodeL_le)
set_option linter.unusedVariables false
set_option linter.unusedSimpArgs false
end Go.Vm
/- Phrases: small entries; what is let out is right; the law of fills. No condition but on lengths. -/
namespace Go.Vm
open Go.Proofs
open Go.Lib (decodeL decodeN decodeL_N decode_N decodeN_shape decodeL_le)
set_option linter.unusedVariables false
set_option linter.unusedSimpArgs false
/-! ### small entries -/
def smallE (e : EnT) : Bool := decide (e.key.length ≤ 100) && decide (e.2.2.2.2.2.2.1.length ≤ 100) && decide (e.2.2.2.2.2.2.2.2.2.2.1.length ≤ 100) && decide (e.method.length ≤ 100) && decide (e.path.length ≤ 100) && decide (e.body.length ≤ 100)
theorem small_he (e : EnT) (h : smallE e = true) : e.key.length ≤ 1000 ∧ e.method.length ≤ 1000 ∧ e.path.length ≤ 1000 ∧ e.body.length ≤ 1000 := by
 unfold smallE at h
 simp only [Bool.and_eq_true, decide_eq_true_eq] at h
 omega
theorem small_loop (l : List (Int × EnT)) (hl : l.length ≤ 1000000) : ∀ (n i : Nat), i + n = l.length → TendsL M_conciergelaw18_Small_l0 (l, (l.length : Int), (i : Int), ()) (if (l.drop i).all (fun r => smallE r.2) = true then .inl () else .inr (false, ()))
 | 0, i, h => by
  refine TendsL.fin (.of fun F => ?_)
  unfold M_conciergelaw18_Small_l0
  rw [if_neg (by rw [decide_eq_true_eq]; simp only; omega), List.drop_eq_nil_of_le (by omega)]
  rfl
 | n + 1, i, h => by
  have hi : i < l.length := by omega
  have hx : idx l (i : Int) = some l[i] := idx_at _ _ _ (List.getElem?_eq_getElem hi)
  have hw : IntKind.i64.wrap ((i : Int) + 1) = ((i + 1 : Nat) : Int) := by rw [wrap64 _ (by omega) (by omega)]; omega
  have ih := small_loop l hl n (i + 1) (by omega)
  rw [List.drop_eq_getElem_cons hi, List.all_cons]
  generalize l[i] = m at *
  obtain ⟨k, te, key, st, ep, tok, po, pr, le, ex, sta, tx, me, pa, bo, u⟩ := m
  have body : ∀ F, M_conciergelaw18_Small_l0 F (l, (l.length : Int), (i : Int), ()) = some (if smallE (te, key, st, ep, tok, po, pr, le, ex, sta, tx, me, pa, bo, u) = true then .inl (l, (l.length : Int), ((i + 1 : Nat) : Int), ()) else .inr (.inr (false, ()))) := by
   intro F
   unfold M_conciergelaw18_Small_l0 smallE
   rw [if_pos (by rw [decide_eq_true_eq]; simp only; omega)]
   have e1 : ∀ a : By, (100 : Int) < (a.length : Int) ↔ ¬ a.length ≤ 100 := fun a => by omega
   simp only [hx, Option.bind_some, e1]
   by_cases a1 : key.length ≤ 100
   ·by_cases a2 : pr.length ≤ 100
    ·by_cases a3 : tx.length ≤ 100
     ·by_cases a4 : me.length ≤ 100
      ·by_cases a5 : pa.length ≤ 100
       ·by_cases a6 : bo.length ≤ 100
        ·simp [a1, a2, a3, a4, a5, a6, hw]
        ·simp [a1, a2, a3, a4, a5, a6, hw]
       ·simp [a1, a2, a3, a4, a5, hw]
      ·simp [a1, a2, a3, a4, hw]
     ·simp [a1, a2, a3, hw]
    ·simp [a1, a2, hw]
   ·simp [a1, hw]
  by_cases hc : smallE (te, key, st, ep, tok, po, pr, le, ex, sta, tx, me, pa, bo, u) = true
  ·rw [hc, Bool.true_and]
   exact TendsL.step (.of fun F => (body F).trans (by rw [if_pos hc])) ih
  ·have hc' : smallE (te, key, st, ep, tok, po, pr, le, ex, sta, tx, me, pa, bo, u) = false := by simpa using hc
   rw [hc', Bool.false_and]
   exact TendsL.fin (.of fun F => (body F).trans (by rw [if_neg hc]; rfl))
theorem small_t (l : List (Int × EnT)) (most : Int) (hl : l.length ≤ 1000000) : Tends (fun F => M_conciergelaw18_Small F (l, most)) (decide ((l.length : Int) ≤ most) && l.all fun r => smallE r.2) := by
 unfold M_conciergelaw18_Small
 by_cases hm : most < (l.length : Int)
 ·rw [decide_eq_false (p := (l.length : Int) ≤ most) (by omega), Bool.false_and]
  exact Tends.pos (decide_eq_true hm) (.ret _)
 rw [decide_eq_true (p := (l.length : Int) ≤ most) (by omega), Bool.true_and]
 refine Tends.neg (by rw [decide_eq_true_eq]; exact hm) ?_
 have h := small_loop l hl l.length 0 (by omega)
 rw [List.drop_zero] at h
 refine Tends.bind h.run ?_
 by_cases ha : (l.all fun r => smallE r.2) = true
 ·rw [if_pos ha, ha]; exact .ret _
 ·have ha' : (l.all fun r => smallE r.2) = false := by simpa using ha
  rw [if_neg ha, ha']; exact .ret _
/-! ### what is let out is right -/
def OutOk (a : By) : Prop := ∃ ks : List Nat, a = ks.flatMap encN ∧ ∀ k ∈ ks, okR k ∧ sortI (k : Int) ≠ 0
theorem outL_ok : ∀ (l : List Int) (acc : By), (∀ n ∈ l, ∃ c : Nat, n = (c : Int) ∧ okR c) → OutOk acc → acc.length ≤ 40 → OutOk (outL l acc) ∧ (outL l acc).length ≤ 40
 | [], acc, h, ha, hl => ⟨ha, hl⟩
 | n :: l, acc, h, ha, hl => by
  obtain ⟨c, hc, hco⟩ := h n (List.mem_cons_self ..)
  subst hc
  unfold outL
  obtain ⟨d, hd1, hd2, hd3⟩ : ∃ d : Nat, okR d ∧ (if sortI (c : Int) = 0 then [63] else encN (c : Int).toNat) = encN d ∧ sortI (d : Int) ≠ 0 := by
   by_cases h0 : sortI (c : Int) = 0
   ·exact ⟨63, by unfold okR; omega, by rw [if_pos h0]; rfl, by decide⟩
   ·exact ⟨c, hco, by rw [if_neg h0, Int.toNat_natCast], h0⟩
  rw [hd2]
  split
  ·exact ⟨ha, hl⟩
  ·rename_i h40
   refine outL_ok l _ (fun x hx => h x (List.mem_cons_of_mem _ hx)) ?_ (by rw [List.length_append]; omega)
   obtain ⟨ks, rfl, hk⟩ := ha
   refine ⟨ks ++ [d], by simp, fun k hk' => ?_⟩
   rcases List.mem_append.1 hk' with h1 | h1
   ·exact hk k h1
   ·rw [List.mem_singleton] at h1
    subst h1
    exact ⟨hd1, hd3⟩
theorem fill_out (s : By) (e : EnT) : OutOk (fillT s e) ∧ (fillT s e).length ≤ 40 := by
 unfold fillT
 have h0 : OutOk [] := ⟨[], rfl, fun k hk => by cases hk⟩
 split
 ·exact ⟨h0, Nat.zero_le _⟩
 ·split
  ·exact ⟨h0, Nat.zero_le _⟩
  ·exact outL_ok _ _ (signs_okR _) h0 (Nat.zero_le _)
end Go.Vm
/- Programs: what is to be done next, and how many calls are ahead: the program's answer and the document's are the plain one. No condition but on lengths. -/
namespace Go.Vm
open Go.Proofs
set_option linter.unusedVariables false
set_option linter.unusedSimpArgs false
/-! ### needs -/
theorem needs_t (body name : By) (n : Int) (hb : body.length ≤ 1000) : Tends (fun F => M_prog_needs F (body, name, n)) (needT body name n) := by
 unfold M_prog_needs needT
 refine Tends.bind (field_v body name hb) ?_
 have h4 := first_ok body name
 generalize firstM name (objL (vP body)) = v at h4
 obtain ⟨f, ok⟩ := v
 simp only at h4 ⊢
 refine Tends.bind (number_v f (by omega)) (.of fun F => ?_)
 cases ok with
 | false => rfl
 | true =>
  by_cases c1 : kindP (vP f) = 3
  ·by_cases c2 : 1 ≤ numV (vP f) <;> simp [c1, c2]
  ·simp [c1]
theorem sort_mem (x : Int) : decide (sortI x ∈ ([1, 2, 3] : List Int)) = decide (1 ≤ sortI x ∧ sortI x ≤ 3) := by
 rw [Bool.eq_iff_iff, decide_eq_true_eq, decide_eq_true_eq]
 simp only [List.mem_cons, List.not_mem_nil, or_false]
 omega
theorem ponly_t (s : By) (hs : s.length ≤ 100000) : Tends (fun F => M_sign_Only F (s, [1, 2, 3])) (((signs s).map (·.1)).all fun x => decide (1 ≤ sortI x ∧ sortI x ≤ 3)) := by
 have := only_tends s [1, 2, 3] (by decide)
 unfold onlyL at this
 simp only [sort_mem] at this
 exact this
theorem pass_t (F : Nat) (ok : Bool) (why : By) (h : why.length ≤ 2000) : M_prog_pass F (ok, why) = some (passD ok why) := by
 unfold M_prog_pass passD
 cases ok with
 | true => rfl
 | false =>
  show (if decide (([114, 101, 102, 117, 115, 101, 100, 32] : By).length + why.length ≤ 9223372036854775807) = true then _ else none) = _
  rw [if_pos (by rw [decide_eq_true_eq]; simp only [List.length_cons, List.length_nil]; omega)]
  rfl
/-! ### next -/
theorem next_t (p : List PhT) (e : EnT) (hl : p.length ≤ 1000000) (hb : ∀ x ∈ p, bndP x) (he : e.key.length ≤ 1000 ∧ e.method.length ≤ 1000 ∧ e.path.length ≤ 1000 ∧ e.body.length ≤ 1000) : Tends (fun F => M_prog_Next F (p, e)) (nextT p e) := by
 unfold M_prog_Next nextT
 refine Tends.bind (pmay_t p hl hb) ?_
 by_cases hm : mayG p = true
 case neg =>
  have hm' : mayG p = false := by simpa using hm
  rw [hm', if_pos rfl]
  exact Tends.pos rfl (.ret _)
 rw [hm, if_neg (show ¬ (true = false) by decide)]
 refine Tends.neg (by decide) ?_
 refine Tends.bind (r := ((p, (), (), decide (e.pt < 0 ∨ (p.length : Int) ≤ e.pt), e, zDo, ()) : List PhT × Unit × Unit × Bool × EnT × DoT × Unit)) (.of fun F => ?_) ?_
 ·show (if decide (e.pt < 0) = false then some (p, (), (), decide ((p.length : Int) ≤ e.pt), e, zDo, ()) else some (p, (), (), true, e, zDo, ())) = _
  by_cases c1 : e.pt < 0
  ·rw [if_neg (by rw [decide_eq_true c1]; decide), decide_eq_true (.inl c1)]
  ·rw [if_pos (decide_eq_false c1)]
   have : decide (e.pt < 0 ∨ (p.length : Int) ≤ e.pt) = decide ((p.length : Int) ≤ e.pt) := by rw [decide_eq_decide]; exact ⟨fun h => h.resolve_left c1, .inr⟩
   rw [this]
 by_cases hc : e.pt < 0 ∨ (p.length : Int) ≤ e.pt
 ·rw [if_pos hc]
  exact Tends.pos (decide_eq_true hc) (.ret _)
 rw [if_neg hc]
 refine Tends.neg (by rw [decide_eq_true_eq]; exact hc) ?_
 have hi : e.pt.toNat < p.length := by omega
 have hg : p[e.pt.toNat]? = some p[e.pt.toNat] := List.getElem?_eq_getElem hi
 have hx : idx p e.pt = some p[e.pt.toNat] := by
  have := idx_at p e.pt.toNat _ hg
  rwa [show ((e.pt.toNat : Nat) : Int) = e.pt by omega] at this
 obtain ⟨hbn, hbt⟩ := hb p[e.pt.toNat] (List.getElem_mem hi)
 rw [hg]
 generalize p[e.pt.toNat] = x at *
 refine Tends.bind (.of fun F => hx) ?_
 show Tends _ ((doT x e, 0) : DoT × Int)
 unfold doT
 by_cases k1 : x.1 = 1
 ·rw [if_pos k1]
  refine Tends.pos (decide_eq_true k1) ?_
  refine Tends.bind (r := (((), 0, passD (onlyT e.body x.2.2.1) wOnly, ()) : Unit × Int × DoT × Unit)) ?_ (.ret _)
  refine Tends.bind (count_tends e.body (by omega)) ?_
  unfold onlyT
  by_cases c : ((signs e.body).length : Int) ≤ x.2.2.1
  ·rw [decide_eq_true c, Bool.true_and]
   exact Tends.pos rfl (Tends.bind (ponly_t e.body (by omega)) (Tends.bind (.of fun F => pass_t F _ _ (by decide)) (.ret _)))
  ·rw [decide_eq_false c, Bool.false_and]
   exact Tends.neg (by decide) (Tends.bind (.of fun F => pass_t F _ _ (by decide)) (.ret _))
 rw [if_neg k1]
 refine Tends.neg (by rw [decide_eq_true_eq]; exact k1) ?_
 by_cases k2 : x.1 = 2
 ·rw [if_pos k2]
  refine Tends.pos (decide_eq_true k2) ?_
  refine Tends.bind (r := (((), 0, passD (needT e.body x.2.1 x.2.2.1) (wNeed ++ 32 :: x.2.1), ()) : Unit × Int × DoT × Unit)) ?_ (.ret _)
  refine Tends.bind (needs_t e.body x.2.1 x.2.2.1 (by omega)) ?_
  refine Tends.pos (by rw [decide_eq_true_eq]; simp only [List.length_cons, List.length_nil]; omega) ?_
  exact Tends.bind (.of fun F => pass_t F _ _ (by simp only [List.length_append, List.length_cons, List.length_nil]; omega)) (.ret _)
 rw [if_neg k2]
 refine Tends.neg (by rw [decide_eq_true_eq]; exact k2) ?_
 by_cases k3 : x.1 = 3
 ·rw [if_pos k3]
  refine Tends.pos (decide_eq_true k3) ?_
  refine Tends.bind (r := (((), (), zDo, (e.1, e.key, e.ep, e.pt, e.tk, x.2.1, fillT x.2.2.2.1 e, ()), ()) : Unit × Unit × DoT × (Int × By × Int × Int × Int × By × By × Unit) × Unit)) ?_ (.ret _)
  exact Tends.bind (fill_t x.2.2.2.1 e hbt he) (.ret _)
 rw [if_neg k3]
 refine Tends.neg (by rw [decide_eq_true_eq]; exact k3) ?_
 refine Tends.bind (r := (((), 0, (2, x.2.2.1, fillT x.2.2.2.1 e, 0, [], 0, 0, 0, [], [], ()), ()) : Unit × Int × DoT × Unit)) ?_ (.ret _)
 exact Tends.bind (fill_t x.2.2.2.1 e hbt he) (.ret _)
theorem calls_loop (p : List PhT) (pt : Int) (hl : p.length ≤ 1000000) : ∀ (k i : Nat), i + k = p.length → TendsL M_prog_Calls_l0 (pt, (callsN p (min i pt.toNat) : Int), p, (p.length : Int), (i : Int), ()) (callsT p pt, ())
 | 0, i, h => by
  have e : callsN p (min i pt.toNat) = callsN p pt.toNat := by
   rcases Nat.le_total i pt.toNat with c | c
   ·rw [Nat.min_eq_left c, callsN_all (show p.length ≤ pt.toNat by omega), show i = p.length by omega]
   ·rw [Nat.min_eq_right c]
  refine TendsL.fin (.of fun F => ?_)
  unfold M_prog_Calls_l0
  rw [if_neg (by rw [decide_eq_true_eq]; simp only; omega), e]
  rfl
 | k + 1, i, h => by
  have hi : i < p.length := by omega
  have hg : p[i]? = some p[i] := List.getElem?_eq_getElem hi
  have hx : idx p (i : Int) = some p[i] := idx_at _ _ _ hg
  have hw : IntKind.i64.wrap ((i : Int) + 1) = ((i + 1 : Nat) : Int) := by rw [wrap64 _ (by omega) (by omega)]; omega
  have ih := calls_loop p pt hl k (i + 1) (by omega)
  have hcl := callsN_le p (min i pt.toNat)
  refine TendsL.step (.of fun F => ?_) ih
  unfold M_prog_Calls_l0
  rw [if_pos (by rw [decide_eq_true_eq]; simp only; omega)]
  simp only [hx, Option.bind_some]
  by_cases c1 : (i : Int) < pt
  ·have m1 : min i pt.toNat = i := by omega
   have m2 : min (i + 1) pt.toNat = i + 1 := by omega
   have hcs := callsN_succ hg
   rw [m1] at hcl ⊢
   rw [m2, hcs]
   have hw2 : IntKind.i64.wrap ((callsN p i : Int) + 1) = ((callsN p i + 1 : Nat) : Int) := by rw [wrap64 _ (by omega) (by omega)]; omega
   by_cases c2 : (p[i]).1 = 3
   ·simp [c1, c2, hw, hw2]
   ·simp [c1, c2, hw]
  ·have m1 : min i pt.toNat = pt.toNat := by omega
   have m2 : min (i + 1) pt.toNat = pt.toNat := by omega
   rw [m1, m2]
   simp [c1, hw]
theorem calls_t (p : List PhT) (pt : Int) (hl : p.length ≤ 1000000) : Tends (fun F => M_prog_Calls F (p, pt)) (callsT p pt) := by
 unfold M_prog_Calls
 have h := calls_loop p pt hl p.length 0 (by omega)
 rw [Nat.zero_min] at h
 exact Tends.bind h.run (.ret _)
end Go.Vm
