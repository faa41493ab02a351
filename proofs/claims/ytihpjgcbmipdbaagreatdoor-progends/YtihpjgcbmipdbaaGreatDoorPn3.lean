import Derived.Test.YtihpjgcbmipdbaaGreatDoorFcanon
import Derived.Test.YtihpjgcbmipdbaaGreatDoorFref5
import Derived.Test.YtihpjgcbmipdbaaGreatDoorPh1
import Derived.Test.YtihpjgcbmipdbaaGreatDoorPg4
import Derived.Test.YtihpjgcbmipdbaaGreatDoorFroute
import Derived.Test.YtihpjgcbmipdbaaGreatDoorFref24
import Derived.Test.YtihpjgcbmipdbaaGreatDoorFlaw24
import Derived.Test.YtihpjgcbmipdbaaGreatDoorPn1
import Derived.Test.YtihpjgcbmipdbaaGreatDoorFlaw23
/- Letters, digits, plain bytes, methods and keys: plain. No condition. -/
namespace Go.Vm
open Go Go.Proofs
set_option linter.unusedVariables false
end Go.Vm
/- Reading and writing the parts of a path: plain. No condition. -/
namespace Go.Vm
open Go Go.Proofs
set_option linter.unusedVariables false
end Go.Vm
/- Paths: plain. No condition. -/
namespace Go.Vm
open Go Go.Proofs
set_option linter.unusedVariables false
/-! ### cut at each stroke -/
def Few (n : Nat) (l : List (List UInt8)) : Prop := l.length ≤ n ∧ ∀ q ∈ l, q.length ≤ 1000
theorem Few.take {n : Nat} {l : List (List UInt8)} (h : Few n l) (k : Nat) : Few n (l.take k) := ⟨by have := h.1; simp; omega, fun q hq => h.2 q (List.mem_of_mem_take hq)⟩
theorem Few.add {n : Nat} {l : List (List UInt8)} (h : Few n l) {q : List UInt8} (hq : q.length ≤ 1000) : Few (n + 1) (l ++ [q]) := ⟨by have := h.1; simp; omega, fun x hx => by
 rcases List.mem_append.1 hx with hx | hx
 ·exact h.2 x hx
 ·simp at hx; subst hx; exact hq⟩
theorem Few.mono {n m : Nat} {l : List (List UInt8)} (h : Few n l) (hm : n ≤ m) : Few m l := ⟨Nat.le_trans h.1 hm, h.2⟩
end Go.Vm
/- Tables: patterns, what fits, rules, their lines: plainly. No condition. -/
namespace Go.Vm
open Go.Lib (decDigits itoa decodeL)
set_option linter.unusedVariables false
set_option linter.unusedSimpArgs false
/-! ### paths and patterns -/
abbrev RlT := By × By × List PhT × Unit
def noSep (s : By) : Prop := ∀ b ∈ s, b ≠ 10 ∧ b ≠ 32 ∧ b ≠ 58
theorem noSep.app {a b : By} (ha : noSep a) (hb : noSep b) : noSep (a ++ b) := fun x hx => (List.mem_append.1 hx).elim (ha x) (hb x)
end Go.Vm
/- Tables: the program's functions are the plain ones. No condition but on lengths. -/
namespace Go.Vm
open Go.Proofs
set_option linter.unusedVariables false
set_option linter.unusedSimpArgs false
/-! ### parts, forms, patterns -/
end Go.Vm
/- Tables: what the program prints, parses and finds is the plain one. No condition but on lengths. -/
namespace Go.Vm
open Go.Proofs
set_option linter.unusedVariables false
set_option linter.unusedSimpArgs false
def bndR (r : RlT) : Prop := r.1.length ≤ 1000 ∧ r.2.1.length ≤ 1000 ∧ r.2.2.1.length ≤ 100000 ∧ ∀ p ∈ r.2.2.1, bndP p
end Go.Vm
/- Tables: the document's functions are the plain ones. No condition but on lengths. -/
namespace Go.Vm
open Go.Proofs
set_option linter.unusedVariables false
set_option linter.unusedSimpArgs false
/-! ### parts -/
end Go.Vm
/- Tables: what the document prints, parses and finds is the plain one; small tables. No condition but on lengths. -/
namespace Go.Vm
open Go.Proofs
set_option linter.unusedVariables false
set_option linter.unusedSimpArgs false
def bndQ (r : RlT) : Prop := r.1.length ≤ 900 ∧ r.2.1.length ≤ 900 ∧ r.2.2.1.length ≤ 100000 ∧ ∀ p ∈ r.2.2.1, bndP p
theorem bndQ.r {r : RlT} (h : bndQ r) : bndR r := ⟨by have := h.1; omega, by have := h.2.1; omega, h.2.2.1, h.2.2.2⟩
theorem right_bnd {p : PhT} (h : rightG p = true) : bndP p := by
 rcases right_cases h with ⟨n, rfl, _, _⟩ | ⟨nm, n, rfl, h, _, _⟩ | ⟨nm, t, rfl, h, ht⟩ | ⟨n, t, rfl, _, ht⟩
 ·exact ⟨Nat.zero_le _, Nat.zero_le _⟩
 ·exact ⟨by have := nm_len h; simp only; omega, Nat.zero_le _⟩
 ·exact ⟨by have := nm_len h; simp only; omega, by have := textG_len ht; simp only; omega⟩
 ·exact ⟨Nat.zero_le _, by have := textG_len ht; simp only; omega⟩
end Go.Vm
/- Tables: plain paths, the standard table, finding, small tables; the wake. No condition but on lengths. -/
namespace Go.Vm
open Go.Proofs
open Go.Lib (decDigits itoa)
set_option linter.unusedVariables false
set_option linter.unusedSimpArgs false
/-! ### plain paths -/
abbrev tSum : By := [37, 123, 115, 117, 109, 125]
theorem dd2 {i : Nat} (h1 : ¬ i < 10) (h2 : i < 100) : decDigits i = [UInt8.ofNat (48 + i / 10), UInt8.ofNat (48 + i % 10)] := Go.Lib.decDigits_two h1 h2
theorem dd3 {i : Nat} (h1 : ¬ i < 100) (h2 : i < 1000) : decDigits i = [UInt8.ofNat (48 + i / 10 / 10), UInt8.ofNat (48 + i / 10 % 10), UInt8.ofNat (48 + i % 10)] := by
 rw [decDigits, dif_neg (by omega), dd2 (by omega) (by omega)]
 rfl
theorem itoa_201 : itoa 201 = [50, 48, 49] := by unfold itoa; rw [if_neg (by decide)]; exact dd3 (by decide) (by decide)
end Go.Vm
/- Tables: the laws of fits, of any text, and of tables there and back. No condition but on lengths. -/
namespace Go.Vm
open Go.Proofs
set_option linter.unusedVariables false
set_option linter.unusedSimpArgs false
/-! ### small tables -/
def small23 (p : List PhT) : Bool := decide (p.length ≤ 10) && p.all fun x => decide (x.2.1.length ≤ 100) && decide (x.2.2.2.1.length ≤ 100)
theorem small23_loop (l : List PhT) (hl : l.length ≤ 1000000) : ∀ (n i : Nat), i + n = l.length → TendsL M_conciergelaw23_Small_l0 (l, (l.length : Int), (i : Int), ()) (if (l.drop i).all (fun x => decide (x.2.1.length ≤ 100) && decide (x.2.2.2.1.length ≤ 100)) = true then .inl () else .inr (false, ()))
 | 0, i, h => by
  refine TendsL.fin (.of fun F => ?_)
  unfold M_conciergelaw23_Small_l0
  rw [if_neg (by rw [decide_eq_true_eq]; simp only; omega), List.drop_eq_nil_of_le (by omega)]
  rfl
 | n + 1, i, h => by
  have hi : i < l.length := by omega
  have hx : idx l (i : Int) = some l[i] := idx_at _ _ _ (List.getElem?_eq_getElem hi)
  have hw : IntKind.i64.wrap ((i : Int) + 1) = ((i + 1 : Nat) : Int) := by rw [wrap64 _ (by omega) (by omega)]; omega
  have ih := small23_loop l hl n (i + 1) (by omega)
  rw [List.drop_eq_getElem_cons hi, List.all_cons]
  generalize l[i] = x at *
  have hbody : ∀ F, M_conciergelaw23_Small_l0 F (l, (l.length : Int), (i : Int), ()) = some (if (decide (x.2.1.length ≤ 100) && decide (x.2.2.2.1.length ≤ 100)) = true then .inl (l, (l.length : Int), ((i + 1 : Nat) : Int), ()) else .inr (.inr (false, ()))) := by
   intro F
   unfold M_conciergelaw23_Small_l0
   rw [if_pos (by rw [decide_eq_true_eq]; simp only; omega)]
   have e1 : ∀ a : By, (100 : Int) < (a.length : Int) ↔ ¬ a.length ≤ 100 := fun a => by omega
   simp only [hx, Option.bind_some, e1]
   by_cases a1 : x.2.1.length ≤ 100
   ·by_cases a2 : x.2.2.2.1.length ≤ 100 <;> simp [a1, a2, hw]
   ·simp [a1]
  cases hc : (decide (x.2.1.length ≤ 100) && decide (x.2.2.2.1.length ≤ 100)) with
  | true =>
   rw [Bool.true_and]
   exact TendsL.step (.of fun F => (hbody F).trans (by rw [hc, if_pos rfl])) ih
  | false =>
   rw [Bool.false_and]
   exact TendsL.fin (.of fun F => (hbody F).trans (by rw [hc]; rfl))
theorem small23_t (l : List PhT) : Tends (fun F => M_conciergelaw23_Small F l) (small23 l) := by
 unfold M_conciergelaw23_Small small23
 by_cases h10 : l.length ≤ 10
 ·rw [decide_eq_true h10, Bool.true_and]
  refine Tends.neg (by rw [decide_eq_true_eq]; omega) ?_
  have h := small23_loop l (by omega) l.length 0 (by omega)
  rw [List.drop_zero] at h
  refine Tends.bind h.run ?_
  cases hb : l.all (fun x => decide (x.2.1.length ≤ 100) && decide (x.2.2.2.1.length ≤ 100)) <;> exact .ret _
 ·rw [decide_eq_false h10, Bool.false_and]
  exact Tends.pos (by rw [decide_eq_true_eq]; omega) (.ret _)
end Go.Vm
/- Programs: the wake, and the laws of programs there and back, of any text, of what is next. No condition but on lengths. -/
namespace Go.Vm
open Go.Proofs
open Go.Lib (itoa decDigits)
set_option linter.unusedVariables false
set_option linter.unusedSimpArgs false
/-! ### the same -/
abbrev awS : By := [110, 101, 101, 100, 32, 115, 117, 109, 32, 49, 48, 48, 59, 32, 99, 97, 108, 108, 32, 100, 101, 98, 105, 116, 32, 37, 123, 115, 117, 109, 125, 59, 32, 101, 110, 100, 32, 50, 48, 49, 32, 112, 97, 105, 100]
def awP : List PhT := [(2, [115, 117, 109], 100, [], ()), (3, [100, 101, 98, 105, 116], 0, tSum, ()), (4, [], 201, [112, 97, 105, 100], ())]
abbrev awE : EnT := (0, [107], 0, 3, 2, 1, [], 0, 0, 0, [], [], [], wkB, ())
theorem itoa_100 : itoa 100 = [49, 48, 48] := by unfold itoa; rw [if_neg (by decide)]; exact dd3 (by decide) (by decide)
theorem aw_print : printG awP = awS := by
 have h1 : phText (2, [115, 117, 109], 100, [], ()) = wNeed ++ 32 :: ([115, 117, 109] ++ 32 :: itoa 100) := rfl
 have h4 : phText (4, [], 201, [112, 97, 105, 100], ()) = wEnd ++ 32 :: (itoa 201 ++ tailG [112, 97, 105, 100]) := rfl
 unfold printG awP
 simp only [List.map_cons, List.map_nil, h1, h4, itoa_100, itoa_201]
 decide
theorem aw_may : mayG awP = true := by kernel_rfl
theorem aw_cut : cutP tSum = some [(true, [37, 123, 115, 117, 109, 125], ())] := by kernel_rfl
theorem aw_fill : fillT tSum awE = [53] := by
 unfold fillT
 rw [if_neg (by decide), aw_cut]
 have hm : valT awE [37, 123, 115, 117, 109, 125] = memT wkB [115, 117, 109] := rfl
 simp only [flat_cons, hm, wk_mem]
 show outL ((signs [53]).map (·.1)) [] = _
 rw [signs_ascii _ (by decide)]
 kernel_rfl
theorem aw_next : nextT awP awE = ((3, 0, [], 0, [107], 3, 1, 2, [100, 101, 98, 105, 116], [53], ()), 0) := by
 unfold nextT
 rw [aw_may, if_neg (by decide), if_neg (by decide)]
 show ((doT (3, [100, 101, 98, 105, 116], 0, tSum, ()) awE, 0) : DoT × Int) = _
 unfold doT
 rw [if_neg (by decide), if_neg (by decide), if_pos rfl]
 show (((3, 0, [], 0, [107], 3, 1, 2, [100, 101, 98, 105, 116], fillT tSum awE, ()), 0) : DoT × Int) = _
 rw [aw_fill]
theorem aw_bnd : ∀ x ∈ awP, bndP x := by
 intro x hx
 exact right_bnd ((may_right aw_may).1 x hx)
theorem awake23_t : Tends (fun F => M_conciergelaw23_awake F ()) true := by
 have h1 := pparse_t awS (by decide)
 rw [← aw_print, parseT_print awP aw_may, aw_print] at h1
 have h2 := next_t awP awE (by decide) aw_bnd ⟨by decide, by decide, by decide, by decide⟩
 rw [aw_next] at h2
 unfold M_conciergelaw23_awake
 refine Tends.bind h1 (Tends.bind h2 (.of fun F => ?_))
 rfl
/-! ### programs there and back -/
theorem small23_bnd {l : List PhT} (h : small23 l = true) : l.length ≤ 10 ∧ ∀ x ∈ l, bndP x := by
 unfold small23 at h
 rw [Bool.and_eq_true, decide_eq_true_eq] at h
 refine ⟨h.1, fun p hp => ?_⟩
 have := List.all_eq_true.1 h.2 p hp
 simp only [Bool.and_eq_true, decide_eq_true_eq] at this
 exact ⟨by omega, by omega⟩
theorem small1_t (e : EnT) : Tends (fun F => M_conciergelaw18_Small F ([(0, e)], 1)) (smallE e) := by
 have h := small_t [(0, e)] 1 (by simp)
 simpa using h
end Go.Vm
/- Programs: from any phase on its end is come to. No condition but on lengths. -/
namespace Go.Vm
open Go.Proofs
set_option linter.unusedVariables false
set_option linter.unusedSimpArgs false
def withPt (e : EnT) (i : Int) : EnT := (e.1, e.2.1, e.2.2.1, e.2.2.2.1, e.2.2.2.2.1, i, e.2.2.2.2.2.2)
theorem next_at (p : List PhT) (e : EnT) (i : Nat) (x : PhT) (hl : p.length ≤ 1000000) (hb : ∀ x ∈ p, bndP x) (hm : mayG p = true) (hx : p[i]? = some x) (he : e.key.length ≤ 1000 ∧ e.method.length ≤ 1000 ∧ e.path.length ≤ 1000 ∧ e.body.length ≤ 1000) : Tends (fun F => M_prog_Next F (p, withPt e i)) (doT x (withPt e i), 0) := by
 have hlt : i < p.length := by
  rcases Nat.lt_or_ge i p.length with h | h
  ·exact h
  ·rw [List.getElem?_eq_none h] at hx; cases hx
 have h := next_t p (withPt e i) hl hb he
 have e1 : (withPt e i).pt = (i : Int) := rfl
 unfold nextT at h
 rw [hm, if_neg (by decide), e1, if_neg (by omega), Int.toNat_natCast, hx] at h
 exact h
abbrev EndS := List PhT × Unit × Int × Int × Int × Int × EnT × Unit
theorem ends_fin (p : List PhT) (e : EnT) (i k st : Nat) (last : Int) (x : PhT) (d : DoT) (hl : p.length ≤ 1000000) (hlt : i < p.length) (hx : p[i]? = some x) (hk : k ≤ callsN p i)
  (hn : Tends (fun F => M_prog_Next F (p, withPt e i)) (d, 0)) (h1 : d.1 = 2) (h2 : d.2.1 ≠ 402 → i + 1 = p.length ∧ d.2.1 = x.2.2.1) (h3 : d.2.2.1.length ≤ 40) :
  TendsL M_conciergelaw23_ProgEnds_l0 (p, (), (st : Int), (k : Int), last, (i : Int), e, ()) (.inr (true, ())) := by
 have hix : idx p (i : Int) = some x := idx_at _ _ _ hx
 refine TendsL.fin ?_
 unfold M_conciergelaw23_ProgEnds_l0
 refine Tends.pos (by rw [decide_eq_true_eq]; simp only; omega) ?_
 refine Tends.bind (r := (.inr (true, ()) : EndS ⊕ Bool × Unit)) (Tends.bind hn (Tends.neg (by simp) (Tends.neg (by simp [h1]) (Tends.neg (by simp [h1]) (Tends.pos (by simp [h1]) ?_))))) (.ret _)
 refine Tends.bind (r := ((p, (k : Int), (i : Int), (), false, d, ()) : List PhT × Int × Int × Unit × Bool × DoT × Unit)) ?_ (Tends.neg Bool.false_ne_true (Tends.bind (r := ((true, ()) : Bool × Unit)) (Tends.pos (by rw [decide_eq_true_eq]; simp only; omega) (Tends.bind (calls_t p i hl) (.of fun F => ?_))) (.ret _)))
 ·by_cases h4 : d.2.1 = 402
  ·exact Tends.neg (by simp [h4]) (.ret _)
  ·obtain ⟨a, b⟩ := h2 h4
   have hw : IntKind.i64.wrap ((p.length : Int) - 1) = (i : Int) := by rw [wrap64 _ (by omega) (by omega)]; omega
   exact Tends.pos (by simp [h4]) (Tends.pos (by simp [hw]) (Tends.bind (.of fun F => hix) (.of fun F => by simp [b])))
 ·have : (k : Int) ≤ callsT p i := by unfold callsT; rw [Int.toNat_natCast]; omega
  rw [decide_eq_true this]
theorem ends_pass (p : List PhT) (e : EnT) (i k st : Nat) (last : Int) (d : DoT) (hl : p.length ≤ 1000000) (hlt : i < p.length) (hst : st ≤ i)
  (hn : Tends (fun F => M_prog_Next F (p, withPt e i)) (d, 0)) (h1 : d.1 = 1) (r : Unit ⊕ Bool × Unit)
  (ih : TendsL M_conciergelaw23_ProgEnds_l0 (p, (), ((st + 1 : Nat) : Int), (k : Int), last, ((i + 1 : Nat) : Int), withPt e i, ()) r) :
  TendsL M_conciergelaw23_ProgEnds_l0 (p, (), (st : Int), (k : Int), last, (i : Int), e, ()) r := by
 have hw : IntKind.i64.wrap ((i : Int) + 1) = ((i + 1 : Nat) : Int) := by rw [wrap64 _ (by omega) (by omega)]; omega
 have hw2 : IntKind.i64.wrap ((st : Int) + 1) = ((st + 1 : Nat) : Int) := by rw [wrap64 _ (by omega) (by omega)]; omega
 refine TendsL.step ?_ ih
 unfold M_conciergelaw23_ProgEnds_l0
 refine Tends.pos (by rw [decide_eq_true_eq]; simp only; omega) ?_
 refine Tends.bind (r := (.inl (p, (), ((st + 1 : Nat) : Int), (k : Int), last, (i : Int), withPt e i, ()) : EndS ⊕ Bool × Unit)) (Tends.bind hn (Tends.neg (by simp) (Tends.pos (by simp [h1]) (.of fun F => ?_)))) (.of fun F => ?_)
 ·simp only [hw2]
  rfl
 ·rw [← hw]
  rfl
theorem ends_call (p : List PhT) (e : EnT) (i k st : Nat) (last : Int) (d : DoT) (hl : p.length ≤ 1000000) (hlt : i < p.length) (hst : st ≤ i) (hk : k ≤ i) (hla : last < i)
  (hn : Tends (fun F => M_prog_Next F (p, withPt e i)) (d, 0)) (h1 : d.1 = 3) (h2 : d.2.2.2.2.2.2.1 = (i : Int)) (h3 : d.2.2.2.2.2.2.2.1 = e.2.2.2.2.1) (h4 : d.2.2.2.2.2.1 = e.2.2.2.1) (r : Unit ⊕ Bool × Unit)
  (ih : TendsL M_conciergelaw23_ProgEnds_l0 (p, (), ((st + 1 : Nat) : Int), ((k + 1 : Nat) : Int), (i : Int), ((i + 1 : Nat) : Int), withPt e i, ()) r) :
  TendsL M_conciergelaw23_ProgEnds_l0 (p, (), (st : Int), (k : Int), last, (i : Int), e, ()) r := by
 have hw : IntKind.i64.wrap ((i : Int) + 1) = ((i + 1 : Nat) : Int) := by rw [wrap64 _ (by omega) (by omega)]; omega
 have hw2 : IntKind.i64.wrap ((st : Int) + 1) = ((st + 1 : Nat) : Int) := by rw [wrap64 _ (by omega) (by omega)]; omega
 have hw3 : IntKind.i64.wrap ((k : Int) + 1) = ((k + 1 : Nat) : Int) := by rw [wrap64 _ (by omega) (by omega)]; omega
 refine TendsL.step ?_ ih
 unfold M_conciergelaw23_ProgEnds_l0
 refine Tends.pos (by rw [decide_eq_true_eq]; simp only; omega) ?_
 refine Tends.bind (r := (.inl (p, (), ((st + 1 : Nat) : Int), ((k + 1 : Nat) : Int), (i : Int), (i : Int), withPt e i, ()) : EndS ⊕ Bool × Unit)) (Tends.bind hn (Tends.neg (by simp) (Tends.neg (by simp [h1]) (Tends.pos (by simp [h1]) ?_)))) (.of fun F => ?_)
 ·refine Tends.bind (r := ((p, (), ((st + 1 : Nat) : Int), (k : Int), (i : Int), (), false, withPt e i, d, ()) : List PhT × Unit × Int × Int × Int × Unit × Bool × EnT × DoT × Unit)) (Tends.pos (by rw [decide_eq_false_iff_not]; show ¬ (d.2.2.2.2.2.2.1 ≤ last); omega) (.of fun F => ?_)) ?_
  ·simp only [h3, decide_true, Bool.not_true, hw2]
   rfl
  refine Tends.bind (r := ((p, (), ((st + 1 : Nat) : Int), (k : Int), (i : Int), (), false, withPt e i, d, ()) : List PhT × Unit × Int × Int × Int × Unit × Bool × EnT × DoT × Unit)) (Tends.pos rfl (.of fun F => ?_)) (Tends.neg Bool.false_ne_true (.of fun F => ?_))
  ·have : d.2.2.2.2.2.1 = (withPt e i).2.2.2.1 := h4
   simp only [this, decide_true, Bool.not_true]
  ·simp only [h2, hw3]
 ·rw [← hw]
  rfl
theorem nm_le {s : By} (h : nmP s = true) : s.length ≤ 20 := by
 unfold nmP at h
 simp only [Bool.and_eq_true, decide_eq_true_eq] at h
 omega
theorem ends_loop (p : List PhT) (hl : p.length ≤ 1000000) (hb : ∀ x ∈ p, bndP x) (hm : mayG p = true) : ∀ (n i k st : Nat) (last : Int) (e : EnT), (e.key.length ≤ 1000 ∧ e.method.length ≤ 1000 ∧ e.path.length ≤ 1000 ∧ e.body.length ≤ 1000) → i + (n + 1) = p.length → k ≤ callsN p i → k ≤ i → st ≤ i → last < i →
  TendsL M_conciergelaw23_ProgEnds_l0 (p, (), (st : Int), (k : Int), last, (i : Int), e, ()) (.inr (true, ())) := by
 intro n
 induction n with
 | zero =>
  intro i k st last e he h hk hki hst hla
  have hlt : i < p.length := by omega
  have hx : p[i]? = some p[i] := List.getElem?_eq_getElem hlt
  obtain ⟨hr, h4⟩ := mayG_at hm hx
  have k4 : (p[i]).1 = 4 := h4.2 (by omega)
  have hn := next_at p e i _ hl hb hm hx he
  have e0 : doT p[i] (withPt e i) = (2, (p[i]).2.2.1, fillT (p[i]).2.2.2.1 (withPt e i), 0, [], 0, 0, 0, [], [], ()) := by
   unfold doT
   rw [if_neg (by rw [k4]; decide), if_neg (by rw [k4]; decide), if_neg (by rw [k4]; decide)]
  rw [e0] at hn
  exact ends_fin p e i k st last _ _ hl hlt hx hk hn rfl (fun _ => ⟨by omega, rfl⟩) (fill_out _ _).2
 | succ n ih =>
  intro i k st last e he h hk hki hst hla
  have hlt : i < p.length := by omega
  have hx : p[i]? = some p[i] := List.getElem?_eq_getElem hlt
  obtain ⟨hr, h4⟩ := mayG_at hm hx
  have k4 : (p[i]).1 ≠ 4 := fun c => by have := h4.1 c; omega
  have hn := next_at p e i _ hl hb hm hx he
  have hcs := callsN_succ hx
  generalize p[i] = x at *
  have hpass : ∀ (ok : Bool) (why : By), why.length ≤ 30 → doT x (withPt e i) = passD ok why → TendsL M_conciergelaw23_ProgEnds_l0 (p, (), (st : Int), (k : Int), last, (i : Int), e, ()) (.inr (true, ())) := by
   intro ok why hwl hd
   rw [hd] at hn
   cases ok with
   | true => exact ends_pass p e i k st last _ hl hlt hst hn rfl _ (ih (i + 1) k (st + 1) last (withPt e i) he (by omega) (by omega) (by omega) (by omega) (by omega))
   | false => exact ends_fin p e i k st last _ _ hl hlt hx hk hn rfl (fun h => absurd rfl h) (by show (tRef ++ why).length ≤ 40; rw [List.length_append]; have : tRef.length = 8 := rfl; omega)
  by_cases k1 : x.1 = 1
  ·exact hpass _ wOnly (by decide) (by unfold doT; rw [if_pos k1])
  by_cases k2 : x.1 = 2
  ·refine hpass _ (wNeed ++ 32 :: x.2.1) ?_ (by unfold doT; rw [if_neg k1, if_pos k2])
   unfold rightG at hr
   rw [if_neg k1, if_pos k2] at hr
   simp only [Bool.and_eq_true] at hr
   have := nm_le hr.1.2
   simp only [List.length_append, List.length_cons, List.length_nil]
   omega
  by_cases k3 : x.1 = 3
  ·have e0 : doT x (withPt e i) = (3, 0, [], (withPt e i).1, (withPt e i).key, (withPt e i).ep, (withPt e i).pt, (withPt e i).tk, x.2.1, fillT x.2.2.2.1 (withPt e i), ()) := by
    unfold doT
    rw [if_neg k1, if_neg k2, if_pos k3]
   rw [e0] at hn
   rw [if_pos k3] at hcs
   exact ends_call p e i k st last _ hl hlt hst hki hla hn rfl rfl rfl rfl _ (ih (i + 1) (k + 1) (st + 1) (i : Int) (withPt e i) he (by omega) (by omega) (by omega) (by omega) (by omega))
  ·exfalso
   unfold rightG at hr
   rw [if_neg k1, if_neg k2, if_neg k3, if_neg k4] at hr
   cases hr
theorem progEnds_t (p : List PhT) (e : EnT) : Tends (fun F => M_conciergelaw23_ProgEnds F (p, e)) true := by
 unfold M_conciergelaw23_ProgEnds
 refine Tends.bind awake23_t (Tends.neg (by decide) ?_)
 refine Tends.bind (r := ((p, (), !(small23 p && smallE e), e, ()) : List PhT × Unit × Bool × EnT × Unit)) ?_ ?_
 ·refine Tends.bind (small23_t p) ?_
  cases small23 p with
  | true => exact Tends.pos rfl (Tends.bind (small1_t e) (.ret _))
  | false => exact Tends.neg (by decide) (.ret _)
 cases hs : (small23 p && smallE e) with
 | false =>
  refine Tends.bind (r := ((p, (), true, e, ()) : List PhT × Unit × Bool × EnT × Unit)) (Tends.neg (by simp) (.ret _)) ?_
  refine Tends.bind (r := ((p, (), true, e, ()) : List PhT × Unit × Bool × EnT × Unit)) (Tends.neg (by simp) (.ret _)) ?_
  refine Tends.bind (r := ((p, (), true, e, ()) : List PhT × Unit × Bool × EnT × Unit)) (Tends.neg (by simp) (.ret _)) ?_
  exact Tends.pos rfl (.ret _)
 | true =>
  rw [Bool.and_eq_true] at hs
  obtain ⟨hl, hb⟩ := small23_bnd hs.1
  have he := small_he e hs.2
  refine Tends.bind (r := ((p, (), !mayG p, e, ()) : List PhT × Unit × Bool × EnT × Unit)) (Tends.pos rfl (Tends.bind (rmay_t p (by omega) hb) (.ret _))) ?_
  refine Tends.bind (r := ((p, (), !mayG p || decide (e.pt < 0), e, ()) : List PhT × Unit × Bool × EnT × Unit)) ?_ ?_
  ·cases mayG p with
   | true => exact Tends.pos rfl (.ret _)
   | false => exact Tends.neg (by simp) (.ret _)
  refine Tends.bind (r := ((p, (), !mayG p || decide (e.pt < 0) || decide ((p.length : Int) ≤ e.pt), e, ()) : List PhT × Unit × Bool × EnT × Unit)) ?_ ?_
  ·cases (!mayG p || decide (e.pt < 0)) with
   | false => exact Tends.pos rfl (.ret _)
   | true => exact Tends.neg (by simp) (.ret _)
  cases hc : (!mayG p || decide (e.pt < 0) || decide ((p.length : Int) ≤ e.pt)) with
  | true => exact Tends.pos rfl (.ret _)
  | false =>
   rw [Bool.or_eq_false_iff, Bool.or_eq_false_iff, decide_eq_false_iff_not, decide_eq_false_iff_not] at hc
   obtain ⟨⟨c1, c2⟩, c3⟩ := hc
   have hm : mayG p = true := by simpa using c1
   obtain ⟨j, hj⟩ : ∃ j : Nat, e.pt = (j : Int) := ⟨e.pt.toNat, by omega⟩
   have h := ends_loop p (by omega) hb hm (p.length - j - 1) j 0 0 (-1) e he (by omega) (by omega) (by omega) (by omega) (by omega)
   have hj' : e.2.2.2.2.2.1 = (j : Int) := hj
   refine Tends.neg (by simp) (Tends.bind (r := (.inr (true, ()) : Unit ⊕ Bool × Unit)) ?_ (.ret _))
   simp only [hj']
   exact h.run
theorem pure_conciergelaw23_ProgEnds (p : List PhT) (e : EnT) : ∃ F, M_conciergelaw23_ProgEnds F (p, e) = some true := (progEnds_t p e).ex
end Go.Vm
