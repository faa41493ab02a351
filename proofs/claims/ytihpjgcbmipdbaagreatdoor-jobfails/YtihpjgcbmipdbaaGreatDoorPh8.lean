import Derived.Test.YtihpjgcbmipdbaaGreatDoorFsignx
import Derived.Test.YtihpjgcbmipdbaaGreatDoorPjob1
import Derived.Lib.AtoiAllCases
import Derived.Test.YtihpjgcbmipdbaaGreatDoorFlaw22
import Derived.Test.YtihpjgcbmipdbaaGreatDoorPk1
/- Programs: the program's functions are the plain ones. No condition but on lengths. -/
namespace Go.Vm
open Go.Proofs
open Go.Lib (decDigits itoa)
set_option linter.unusedVariables false
set_option linter.unusedSimpArgs false
/-! ### cutting -/
theorem idx59 (x : By) : decide (Lib.indexByte x 59 < 0) = x.all (fun c => c != 59) := by
 have hg := Lib.indexByte_ge x 59
 by_cases h : Lib.indexByte x 59 < 0
 ·rw [decide_eq_true h]
  have hm : Lib.indexByte x 59 = -1 := by omega
  symm
  rw [List.all_eq_true]
  intro c hc
  obtain ⟨k, hk⟩ := List.getElem?_of_mem hc
  have := Lib.indexByte_none hm k
  rw [bne_iff_ne]
  rintro rfl
  exact this hk
 ·rw [decide_eq_false h]
  obtain ⟨o, ho⟩ : ∃ o : Nat, Lib.indexByte x 59 = o := ⟨(Lib.indexByte x 59).toNat, by omega⟩
  have h1 := (Lib.indexByte_some ho).1
  symm
  rw [List.all_eq_false]
  exact ⟨59, List.mem_of_getElem? h1, by decide⟩
theorem ptext_t (x : By) (hx : x.length ≤ 1000) : Tends (fun F => M_prog_text F x) (textG x) := by
 unfold M_prog_text textG
 have hi : ∀ F, M_strings_IndexByte F (x, 59) = some (Lib.indexByte x 59) := fun F => rfl
 have h9 := idx59 x
 by_cases h : Lib.indexByte x 59 < 0
 ·rw [decide_eq_true h] at h9
  rw [← h9, Bool.true_and]
  refine Tends.bind (r := ((checkT x, ()) : Bool × Unit)) (Tends.bind (.of hi) (Tends.pos (decide_eq_true h) (Tends.bind (check_v x hx) (.ret _)))) (.ret _)
 ·rw [decide_eq_false h] at h9
  rw [← h9, Bool.false_and]
  refine Tends.bind (r := ((false, ()) : Bool × Unit)) (Tends.bind (.of hi) (Tends.neg (by rw [decide_eq_true_eq]; exact h) (.ret _))) (.ret _)
def bndP (p : PhT) : Prop := p.2.1.length ≤ 1000 ∧ p.2.2.2.1.length ≤ 1000
theorem right_t (p : PhT) (hp : bndP p) : Tends (fun F => M_prog_right F p) (rightG p) := by
 obtain ⟨k, nm, n, t, u⟩ := p
 obtain ⟨hn, ht⟩ := hp
 simp only at hn ht
 unfold M_prog_right rightG
 simp only
 by_cases k1 : k = 1
 ·rw [if_pos k1]
  refine Tends.pos (decide_eq_true k1) (.of fun F => ?_)
  by_cases c1 : 1 ≤ n
  ·by_cases c2 : n ≤ 80
   ·have hlen : nm.length + t.length ≤ 9223372036854775807 := by omega
    rw [if_pos (decide_eq_true c1)]
    simp only [Option.bind_some, decide_eq_true c2, if_true, decide_eq_true hlen]
    by_cases c3 : nm = [] <;> by_cases c4 : t = [] <;> simp [c1, c3, c4]
   ·simp [c1, c2]
  ·simp [c1]
 rw [if_neg k1]
 refine Tends.neg (by rw [decide_eq_true_eq]; exact k1) ?_
 by_cases k2 : k = 2
 ·rw [if_pos k2]
  refine Tends.pos (decide_eq_true k2) (.of fun F => ?_)
  simp only [name_eq]
  by_cases c1 : 1 ≤ n
  ·by_cases c2 : n ≤ 1073741824
   ·cases hnm : nmP nm <;> simp [c1, c2, hnm]
   ·simp [c1, c2]
  ·simp [c1]
 rw [if_neg k2]
 refine Tends.neg (by rw [decide_eq_true_eq]; exact k2) ?_
 by_cases k3 : k = 3
 ·rw [if_pos k3]
  refine Tends.pos (decide_eq_true k3) ?_
  refine Tends.bind (r := (((), decide (n = 0) && nmP nm, (k, nm, n, t, ()), ()) : Unit × Bool × PhT × Unit)) (.of fun F => by
   simp only [name_eq]
   by_cases c1 : n = 0 <;> simp [c1]) ?_
  refine Tends.bind (r := (((decide (n = 0) && nmP nm) && textG t, ()) : Bool × Unit)) ?_ (.ret _)
  cases hb : (decide (n = 0) && nmP nm) with
  | true => exact Tends.pos rfl (Tends.bind (ptext_t t ht) (.ret _))
  | false => exact Tends.neg Bool.false_ne_true (.ret _)
 rw [if_neg k3]
 refine Tends.neg (by rw [decide_eq_true_eq]; exact k3) ?_
 by_cases k4 : k = 4
 ·rw [if_pos k4]
  refine Tends.pos (decide_eq_true k4) ?_
  refine Tends.bind (r := (((), decide (n = 200) || decide (n = 201), (k, nm, n, t, ()), ()) : Unit × Bool × PhT × Unit)) (.of fun F => by
   by_cases c1 : n = 200 <;> simp [c1]) ?_
  refine Tends.bind (r := (((), (decide (n = 200) || decide (n = 201)) && decide (nm = []), (k, nm, n, t, ()), ()) : Unit × Bool × PhT × Unit)) (.of fun F => by
   cases hb : (decide (n = 200) || decide (n = 201)) <;> simp [hb]) ?_
  refine Tends.bind (r := ((((decide (n = 200) || decide (n = 201)) && decide (nm = [])) && textG t, ()) : Bool × Unit)) ?_ (.ret _)
  cases hb : ((decide (n = 200) || decide (n = 201)) && decide (nm = [])) with
  | true => exact Tends.pos rfl (Tends.bind (ptext_t t ht) (.ret _))
  | false => exact Tends.neg Bool.false_ne_true (.ret _)
 ·rw [if_neg k4]
  exact Tends.neg (by rw [decide_eq_true_eq]; exact k4) (.ret _)
theorem drop_nil_iff {α : Type} (l : List α) (i : Nat) (h : i < l.length) : (l.drop (i + 1) = []) ↔ i = l.length - 1 := by
 rw [List.drop_eq_nil_iff]
 omega
theorem pmay_loop (l : List PhT) (hl : l.length ≤ 1000000) (hb : ∀ p ∈ l, bndP p) : ∀ (n i : Nat), i + n = l.length → TendsL M_prog_May_l0 (l, l, (l.length : Int), (i : Int), ()) (if mayL (l.drop i) = true then .inl () else .inr (false, ()))
 | 0, i, h => by
  refine TendsL.fin (.of fun F => ?_)
  unfold M_prog_May_l0
  rw [if_neg (by rw [decide_eq_true_eq]; simp only; omega), List.drop_eq_nil_of_le (by omega)]
  rfl
 | n + 1, i, h => by
  have hi : i < l.length := by omega
  have hx : idx l (i : Int) = some l[i] := idx_at _ _ _ (List.getElem?_eq_getElem hi)
  have hw : IntKind.i64.wrap ((i : Int) + 1) = ((i + 1 : Nat) : Int) := by rw [wrap64 _ (by omega) (by omega)]; omega
  have hw1 : IntKind.i64.wrap ((l.length : Int) - 1) = ((l.length - 1 : Nat) : Int) := by rw [wrap64 _ (by omega) (by omega)]; omega
  have ih := pmay_loop l hl hb n (i + 1) (by omega)
  have hr := right_t l[i] (hb _ (List.getElem_mem hi))
  have hd := drop_nil_iff l i hi
  rw [List.drop_eq_getElem_cons hi]
  generalize l[i] = p at *
  have hk : decide (l.drop (i + 1) = []) = decide ((i : Int) = ((l.length - 1 : Nat) : Int)) := by
   rw [Bool.eq_iff_iff, decide_eq_true_eq, decide_eq_true_eq, hd]; omega
  have e : mayL (p :: l.drop (i + 1)) = (rightG p && (decide (p.1 = 4) == decide ((i : Int) = ((l.length - 1 : Nat) : Int))) && mayL (l.drop (i + 1))) := by rw [← hk]; rfl
  rw [e]
  have hbody : Tends (fun F => M_prog_May_l0 F (l, l, (l.length : Int), (i : Int), ())) (if (rightG p && (decide (p.1 = 4) == decide ((i : Int) = ((l.length - 1 : Nat) : Int)))) = true then .inl (l, l, (l.length : Int), ((i + 1 : Nat) : Int), ()) else .inr (.inr (false, ()))) := by
   unfold M_prog_May_l0
   refine Tends.pos (by rw [decide_eq_true_eq]; simp only; omega) ?_
   refine Tends.bind (.of fun F => hx) ?_
   refine Tends.bind (r := ((l, l, (l.length : Int), (i : Int), !(rightG p && (decide (p.1 = 4) == decide ((i : Int) = ((l.length - 1 : Nat) : Int)))), ()) : List PhT × List PhT × Int × Int × Bool × Unit)) (Tends.bind hr ?_) ?_
   ·cases hrp : rightG p with
    | true => exact .of fun F => by simp [hw1]
    | false => exact .of fun F => by simp
   ·cases hrp : (rightG p && (decide (p.1 = 4) == decide ((i : Int) = ((l.length - 1 : Nat) : Int)))) with
    | true => exact Tends.neg (by simp) (.of fun F => by simp [hw])
    | false => exact Tends.pos (by simp) (.of fun F => by simp)
  cases hrp : (rightG p && (decide (p.1 = 4) == decide ((i : Int) = ((l.length - 1 : Nat) : Int)))) with
  | true =>
   rw [hrp, if_pos rfl] at hbody
   rw [Bool.true_and]
   exact TendsL.step hbody ih
  | false =>
   rw [hrp, if_neg Bool.false_ne_true] at hbody
   rw [Bool.false_and, if_neg Bool.false_ne_true]
   exact TendsL.fin hbody
theorem pmay_t (l : List PhT) (hl : l.length ≤ 1000000) (hb : ∀ p ∈ l, bndP p) : Tends (fun F => M_prog_May F l) (mayG l) := by
 unfold M_prog_May mayG
 refine Tends.bind (r := ((l, !(decide (1 ≤ l.length) && decide (l.length ≤ 5)), ()) : List PhT × Bool × Unit)) (.of fun F => ?_) ?_
 ·by_cases h0 : l.length = 0
  ·rw [if_neg (by rw [decide_eq_true (by omega)]; decide), decide_eq_false (by omega)]
   rfl
  ·rw [if_pos (decide_eq_false (by omega)), decide_eq_true (by omega : 1 ≤ l.length), Bool.true_and]
   by_cases h5 : l.length ≤ 5
   ·rw [decide_eq_false (by omega), decide_eq_true h5]; rfl
   ·rw [decide_eq_true (by omega), decide_eq_false h5]; rfl
 cases hc : (decide (1 ≤ l.length) && decide (l.length ≤ 5)) with
 | false => exact Tends.pos rfl (.ret _)
 | true =>
  refine Tends.neg (by simp) ?_
  have h := pmay_loop l hl hb l.length 0 (by omega)
  rw [List.drop_zero] at h
  refine Tends.bind h.run ?_
  rw [Bool.true_and]
  cases mayL l <;> exact .ret _
end Go.Vm
/- Programs: what the program prints and parses is the plain one. No condition but on lengths. -/
namespace Go.Vm
open Go.Proofs
open Go.Lib (decDigits itoa)
set_option linter.unusedVariables false
set_option linter.unusedSimpArgs false
theorem nm_len {s : By} (h : nmP s = true) : s.length ≤ 12 := by
 unfold nmP at h
 simp only [Bool.and_eq_true, decide_eq_true_eq] at h
 exact h.2
theorem textG_len {s : By} (h : textG s = true) : s.length ≤ 60 := by
 unfold textG checkT at h
 simp only [Bool.and_eq_true, decide_eq_true_eq] at h
 exact h.2.1
end Go.Vm
/- Programs: the document's functions are the plain ones. No condition but on lengths. -/
namespace Go.Vm
open Go.Proofs
open Go.Lib (decDigits itoa)
set_option linter.unusedVariables false
set_option linter.unusedSimpArgs false
/-! ### phases -/
end Go.Vm
/- Programs: what the document parses is the plain one; small programs. No condition but on lengths. -/
namespace Go.Vm
open Go.Proofs
open Go.Lib (decDigits itoa)
set_option linter.unusedVariables false
set_option linter.unusedSimpArgs false
/-! ### words, numbers -/
end Go.Vm
/- Phrases: small entries; what is let out is right; the law of fills. No condition but on lengths. -/
namespace Go.Vm
open Go.Proofs
open Go.Lib (decodeL decodeN decodeL_N decode_N decodeN_shape decodeL_le)
set_option linter.unusedVariables false
set_option linter.unusedSimpArgs false
/-! ### small entries -/
def smallE (e : EnT) : Bool := decide (e.key.length ≤ 100) && decide (e.2.2.2.2.2.2.1.length ≤ 100) && decide (e.2.2.2.2.2.2.2.2.2.2.1.length ≤ 100) && decide (e.method.length ≤ 100) && decide (e.path.length ≤ 100) && decide (e.body.length ≤ 100)
theorem small_he (e : EnT) (h : smallE e = true) : e.key.length ≤ 1000 ∧ e.method.length ≤ 1000 ∧ e.path.length ≤ 1000 ∧ e.body.length ≤ 1000 := by
 unfold smallE at h
 simp only [Bool.and_eq_true, decide_eq_true_eq] at h
 omega
theorem small_loop (l : List (Int × EnT)) (hl : l.length ≤ 1000000) : ∀ (n i : Nat), i + n = l.length → TendsL M_conciergelaw18_Small_l0 (l, (l.length : Int), (i : Int), ()) (if (l.drop i).all (fun r => smallE r.2) = true then .inl () else .inr (false, ()))
 | 0, i, h => by
  refine TendsL.fin (.of fun F => ?_)
  unfold M_conciergelaw18_Small_l0
  rw [if_neg (by rw [decide_eq_true_eq]; simp only; omega), List.drop_eq_nil_of_le (by omega)]
  rfl
 | n + 1, i, h => by
  have hi : i < l.length := by omega
  have hx : idx l (i : Int) = some l[i] := idx_at _ _ _ (List.getElem?_eq_getElem hi)
  have hw : IntKind.i64.wrap ((i : Int) + 1) = ((i + 1 : Nat) : Int) := by rw [wrap64 _ (by omega) (by omega)]; omega
  have ih := small_loop l hl n (i + 1) (by omega)
  rw [List.drop_eq_getElem_cons hi, List.all_cons]
  generalize l[i] = m at *
  obtain ⟨k, te, key, st, ep, tok, po, pr, le, ex, sta, tx, me, pa, bo, u⟩ := m
  have body : ∀ F, M_conciergelaw18_Small_l0 F (l, (l.length : Int), (i : Int), ()) = some (if smallE (te, key, st, ep, tok, po, pr, le, ex, sta, tx, me, pa, bo, u) = true then .inl (l, (l.length : Int), ((i + 1 : Nat) : Int), ()) else .inr (.inr (false, ()))) := by
   intro F
   unfold M_conciergelaw18_Small_l0 smallE
   rw [if_pos (by rw [decide_eq_true_eq]; simp only; omega)]
   have e1 : ∀ a : By, (100 : Int) < (a.length : Int) ↔ ¬ a.length ≤ 100 := fun a => by omega
   simp only [hx, Option.bind_some, e1]
   by_cases a1 : key.length ≤ 100
   ·by_cases a2 : pr.length ≤ 100
    ·by_cases a3 : tx.length ≤ 100
     ·by_cases a4 : me.length ≤ 100
      ·by_cases a5 : pa.length ≤ 100
       ·by_cases a6 : bo.length ≤ 100
        ·simp [a1, a2, a3, a4, a5, a6, hw]
        ·simp [a1, a2, a3, a4, a5, a6, hw]
       ·simp [a1, a2, a3, a4, a5, hw]
      ·simp [a1, a2, a3, a4, hw]
     ·simp [a1, a2, a3, hw]
    ·simp [a1, a2, hw]
   ·simp [a1, hw]
  by_cases hc : smallE (te, key, st, ep, tok, po, pr, le, ex, sta, tx, me, pa, bo, u) = true
  ·rw [hc, Bool.true_and]
   exact TendsL.step (.of fun F => (body F).trans (by rw [if_pos hc])) ih
  ·have hc' : smallE (te, key, st, ep, tok, po, pr, le, ex, sta, tx, me, pa, bo, u) = false := by simpa using hc
   rw [hc', Bool.false_and]
   exact TendsL.fin (.of fun F => (body F).trans (by rw [if_neg hc]; rfl))
theorem small_t (l : List (Int × EnT)) (most : Int) (hl : l.length ≤ 1000000) : Tends (fun F => M_conciergelaw18_Small F (l, most)) (decide ((l.length : Int) ≤ most) && l.all fun r => smallE r.2) := by
 unfold M_conciergelaw18_Small
 by_cases hm : most < (l.length : Int)
 ·rw [decide_eq_false (p := (l.length : Int) ≤ most) (by omega), Bool.false_and]
  exact Tends.pos (decide_eq_true hm) (.ret _)
 rw [decide_eq_true (p := (l.length : Int) ≤ most) (by omega), Bool.true_and]
 refine Tends.neg (by rw [decide_eq_true_eq]; exact hm) ?_
 have h := small_loop l hl l.length 0 (by omega)
 rw [List.drop_zero] at h
 refine Tends.bind h.run ?_
 by_cases ha : (l.all fun r => smallE r.2) = true
 ·rw [if_pos ha, ha]; exact .ret _
 ·have ha' : (l.all fun r => smallE r.2) = false := by simpa using ha
  rw [if_neg ha, ha']; exact .ret _
/-! ### what is let out is right -/
end Go.Vm
