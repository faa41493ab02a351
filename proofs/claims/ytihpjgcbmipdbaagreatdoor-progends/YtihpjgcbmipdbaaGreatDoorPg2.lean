/- Programs: numbers, phases, their texts, what reads them: plainly. No condition. -/
import Derived.Test.YtihpjgcbmipdbaaGreatDoorPh1
import Derived.Test.YtihpjgcbmipdbaaGreatDoorPh5
namespace Go.Vm
open Go.Lib (decDigits itoa decNat decFrom digitVal)
set_option linter.unusedVariables false
set_option linter.unusedSimpArgs false
/-! ### numbers -/
theorem decNat_digs {l : By} (h : ∀ c ∈ l, isDig c = true) (hne : l ≠ []) : decNat l = some (valD l) := by
 have main : ∀ (l : By) (n : Nat), (∀ c ∈ l, isDig c = true) → decFrom n l = some (l.foldl (fun n c => n * 10 + (c.toNat - 48)) n) := by
  intro l
  induction l with
  | nil => intro n _; rfl
  | cons c l ih =>
   intro n hd
   have hc := hd c (List.mem_cons_self ..)
   have hv : digitVal c = some (c.toNat - 48) := by
    unfold digitVal
    simp [isDig] at hc
    rw [if_pos ⟨hc.1, hc.2⟩]
   unfold decFrom
   rw [hv]
   exact ih _ (fun x hx => hd x (List.mem_cons_of_mem _ hx))
 unfold decNat valD
 rw [main l 0 h]
 cases l with
 | nil => exact absurd rfl hne
 | cons c l => rfl
theorem atoi_itoa (n : Nat) (h : n < 100000000000000000) : Lib.atoiAll (itoa (n : Int)) = .ok (n : Int) := by
 have hl : (itoa (n : Int)).length ≤ 18 := Nat.le_trans (itoa_len n 17 (by decide) (by omega)).1 (by decide)
 have hd := itoa_dig n
 have hne := itoa_ne n
 rw [Lib.atoiAll_short _ hl]
 have hv : valD (itoa (n : Int)) = n := by rw [itoa_nat]; exact (dec_facts n).2.1
 have hdn := decNat_digs hd hne
 rw [hv] at hdn
 cases hc : itoa (n : Int) with
 | nil => exact absurd hc hne
 | cons c q =>
  rw [hc] at hdn hd
  have h0 := hd c (List.mem_cons_self ..)
  have h45 : (c == 45) = false := by
   cases hh : c == 45 with
   | false => rfl
   | true => rw [beq_iff_eq] at hh; subst hh; exact absurd h0 (by decide)
  have h43 : (c == 43) = false := by
   cases hh : c == 43 with
   | false => rfl
   | true => rw [beq_iff_eq] at hh; subst hh; exact absurd h0 (by decide)
  show Lib.NumEnd.ofOption (if (c == 45) = true then (decNat q).map (fun (m : Nat) => -(m : Int)) else if (c == 43) = true then (decNat q).map (fun (m : Nat) => (m : Int)) else (decNat (c :: q)).map (fun (m : Nat) => (m : Int))) = _
  rw [h45, h43, hdn]
  rfl
def numG (s : By) : Int := match Lib.atoiAll s with
 | .ok n => if n < 1 ∨ itoa n ≠ s then 0 else n
 | _ => 0
theorem numG_itoa (n : Nat) (h1 : 1 ≤ n) (h : n ≤ 1073741824) : numG (itoa (n : Int)) = n := by
 unfold numG
 rw [atoi_itoa n (by omega)]
 simp only
 rw [if_neg]
 rintro (h | h)
 ·omega
 ·exact h rfl
def rnumG (acc : Nat) : By → Nat
 | [] => acc
 | c :: r => if isDig c = true ∧ acc ≤ 1073741824 then rnumG (acc * 10 + (c.toNat - 48)) r else 0
theorem fold_ge : ∀ (l : By) (acc : Nat), acc ≤ l.foldl (fun n c => n * 10 + (c.toNat - 48)) acc
 | [], acc => Nat.le_refl _
 | c :: l, acc => by
  have := fold_ge l (acc * 10 + (c.toNat - 48))
  rw [List.foldl_cons]
  omega
theorem rnumG_val : ∀ (l : By) (acc : Nat), (∀ c ∈ l, isDig c = true) → l.foldl (fun n c => n * 10 + (c.toNat - 48)) acc ≤ 1073741824 → rnumG acc l = l.foldl (fun n c => n * 10 + (c.toNat - 48)) acc
 | [], acc, h, hv => rfl
 | c :: l, acc, h, hv => by
  rw [List.foldl_cons] at hv
  have := fold_ge l (acc * 10 + (c.toNat - 48))
  unfold rnumG
  rw [if_pos ⟨h c (List.mem_cons_self ..), by omega⟩, List.foldl_cons]
  exact rnumG_val l _ (fun x hx => h x (List.mem_cons_of_mem _ hx)) hv
theorem rnumG_itoa (n : Nat) (h : n ≤ 1073741824) : rnumG 0 (itoa (n : Int)) = n := by
 have hv : valD (itoa (n : Int)) = n := by rw [itoa_nat]; exact (dec_facts n).2.1
 have := rnumG_val (itoa (n : Int)) 0 (itoa_dig n) (by show valD (itoa (n : Int)) ≤ _; omega)
 rw [this]
 exact hv
/-! ### phases -/
abbrev PhT := Int × By × Int × By × Unit
def textG (s : By) : Bool := s.all (fun c => c != 59) && checkT s
def rightG (p : PhT) : Bool :=
 if p.1 = 1 then decide (1 ≤ p.2.2.1) && decide (p.2.2.1 ≤ 80) && decide (p.2.1 = []) && decide (p.2.2.2.1 = [])
 else if p.1 = 2 then decide (1 ≤ p.2.2.1) && decide (p.2.2.1 ≤ 1073741824) && nmP p.2.1 && decide (p.2.2.2.1 = [])
 else if p.1 = 3 then decide (p.2.2.1 = 0) && nmP p.2.1 && textG p.2.2.2.1
 else if p.1 = 4 then (decide (p.2.2.1 = 200) || decide (p.2.2.1 = 201)) && decide (p.2.1 = []) && textG p.2.2.2.1
 else false
def mayL : List PhT → Bool
 | [] => true
 | p :: r => rightG p && (decide (p.1 = 4) == decide (r = [])) && mayL r
def mayG (l : List PhT) : Bool := decide (1 ≤ l.length) && decide (l.length ≤ 5) && mayL l
abbrev wOnly : By := [111, 110, 108, 121]
abbrev wNeed : By := [110, 101, 101, 100]
abbrev wCall : By := [99, 97, 108, 108]
abbrev wEnd : By := [101, 110, 100]
def tailG (s : By) : By := if s = [] then [] else 32 :: s
def phText (p : PhT) : By :=
 if p.1 = 1 then wOnly ++ 32 :: itoa p.2.2.1
 else if p.1 = 2 then wNeed ++ 32 :: (p.2.1 ++ 32 :: itoa p.2.2.1)
 else if p.1 = 3 then wCall ++ 32 :: (p.2.1 ++ tailG p.2.2.2.1)
 else wEnd ++ 32 :: (itoa p.2.2.1 ++ tailG p.2.2.2.1)
abbrev z23 : PhT := (0, [], 0, [], ())
def readG (s : By) : PhT := if (Lib.cut s [32]).2.2 = false then z23
 else if (Lib.cut s [32]).1 = wOnly then (1, [], numG (Lib.cut s [32]).2.1, [], ())
 else if (Lib.cut (Lib.cut s [32]).2.1 [32]).2.1 = [] ∧ (Lib.cut (Lib.cut s [32]).2.1 [32]).1 ≠ (Lib.cut s [32]).2.1 then z23
 else if (Lib.cut s [32]).1 = wNeed then (2, (Lib.cut (Lib.cut s [32]).2.1 [32]).1, numG (Lib.cut (Lib.cut s [32]).2.1 [32]).2.1, [], ())
 else if (Lib.cut s [32]).1 = wCall then (3, (Lib.cut (Lib.cut s [32]).2.1 [32]).1, 0, (Lib.cut (Lib.cut s [32]).2.1 [32]).2.1, ())
 else if (Lib.cut s [32]).1 = wEnd then (4, [], numG (Lib.cut (Lib.cut s [32]).2.1 [32]).1, (Lib.cut (Lib.cut s [32]).2.1 [32]).2.1, ())
 else z23
def rwordG (s : By) : By × By := ((Lib.cut s [32]).1, (Lib.cut s [32]).2.1)
def rreadG (s : By) : PhT :=
 if (rwordG s).1 = wOnly then (1, [], (rnumG 0 (rwordG s).2 : Int), [], ())
 else if (rwordG s).1 = wNeed then (2, (rwordG (rwordG s).2).1, (rnumG 0 (rwordG (rwordG s).2).2 : Int), [], ())
 else if (rwordG s).1 = wCall then (3, (rwordG (rwordG s).2).1, 0, (rwordG (rwordG s).2).2, ())
 else if (rwordG s).1 = wEnd then (4, [], (rnumG 0 (rwordG (rwordG s).2).1 : Int), (rwordG (rwordG s).2).2, ())
 else z23
theorem nm_bytes {s : By} (h : nmP s = true) : ∀ b ∈ s, b ≠ 32 ∧ b ≠ 59 := by
 unfold nmP at h
 simp only [Bool.and_eq_true] at h
 intro b hb
 have := List.all_eq_true.1 h.1.1 b hb
 constructor <;> rintro rfl <;> exact absurd this (by decide)
theorem dig_bytes (n : Nat) : ∀ b ∈ itoa (n : Int), b ≠ 32 ∧ b ≠ 59 := by
 intro b hb
 have := itoa_dig n b hb
 constructor <;> rintro rfl <;> exact absurd this (by decide)
theorem cut_tail {p : By} (hp : ∀ b ∈ p, b ≠ 32) (t : By) : (Lib.cut (p ++ tailG t) [32]).1 = p ∧ (Lib.cut (p ++ tailG t) [32]).2.1 = t := by
 unfold tailG
 by_cases ht : t = []
 ·rw [if_pos ht, List.append_nil, cut_miss hp, ht]
  exact ⟨rfl, rfl⟩
 ·rw [if_neg ht, cut_hit hp]
  exact ⟨rfl, rfl⟩
theorem cutW {p : By} (hp : ∀ b ∈ p, b ≠ 32) (s : By) : Lib.cut (p ++ 32 :: s) [32] = (p, s, true) := cut_hit hp s
theorem kw_only : ∀ b ∈ wOnly, b ≠ 32 := by decide
theorem kw_need : ∀ b ∈ wNeed, b ≠ 32 := by decide
theorem kw_call : ∀ b ∈ wCall, b ≠ 32 := by decide
theorem kw_end : ∀ b ∈ wEnd, b ≠ 32 := by decide
theorem right_cases {p : PhT} (h : rightG p = true) :
  (∃ n : Nat, p = (1, [], (n : Int), [], ()) ∧ 1 ≤ n ∧ n ≤ 80) ∨ (∃ (nm : By) (n : Nat), p = (2, nm, (n : Int), [], ()) ∧ nmP nm = true ∧ 1 ≤ n ∧ n ≤ 1073741824) ∨
  (∃ nm t, p = (3, nm, 0, t, ()) ∧ nmP nm = true ∧ textG t = true) ∨ ∃ (n : Nat) (t : By), p = (4, [], (n : Int), t, ()) ∧ (n = 200 ∨ n = 201) ∧ textG t = true := by
 obtain ⟨k, nm, n, t, u⟩ := p
 unfold rightG at h
 simp only at h
 split at h
 ·rename_i hk
  subst hk
  simp only [Bool.and_eq_true, decide_eq_true_eq] at h
  obtain ⟨⟨⟨h1, h2⟩, rfl⟩, rfl⟩ := h
  exact .inl ⟨n.toNat, by rw [show ((n.toNat : Nat) : Int) = n by omega], by omega, by omega⟩
 split at h
 ·rename_i hk
  subst hk
  simp only [Bool.and_eq_true, decide_eq_true_eq] at h
  obtain ⟨⟨⟨h1, h2⟩, h3⟩, rfl⟩ := h
  exact .inr (.inl ⟨nm, n.toNat, by rw [show ((n.toNat : Nat) : Int) = n by omega], h3, by omega, by omega⟩)
 split at h
 ·rename_i hk
  subst hk
  simp only [Bool.and_eq_true, decide_eq_true_eq] at h
  obtain ⟨⟨rfl, h2⟩, h3⟩ := h
  exact .inr (.inr (.inl ⟨nm, t, rfl, h2, h3⟩))
 split at h
 ·rename_i hk
  subst hk
  simp only [Bool.and_eq_true, Bool.or_eq_true, decide_eq_true_eq] at h
  obtain ⟨⟨h1, rfl⟩, h3⟩ := h
  exact .inr (.inr (.inr ⟨n.toNat, t, by rw [show ((n.toNat : Nat) : Int) = n by omega], by omega, h3⟩))
 ·cases h
theorem read_text (p : PhT) (h : rightG p = true) : readG (phText p) = p ∧ rreadG (phText p) = p := by
 rcases right_cases h with ⟨n, rfl, h1, h2⟩ | ⟨nm, n, rfl, h3, h1, h2⟩ | ⟨nm, t, rfl, h2, h3⟩ | ⟨n, t, rfl, h1, h3⟩
 ·have e : phText (1, [], (n : Int), [], ()) = wOnly ++ 32 :: itoa (n : Int) := rfl
  rw [e]
  unfold readG rreadG rwordG
  rw [cutW kw_only]
  simp only
  rw [if_neg (by decide), if_pos trivial, if_pos trivial, numG_itoa n h1 (by omega), rnumG_itoa n (by omega)]
  exact ⟨rfl, rfl⟩
 ·have e : phText (2, nm, (n : Int), [], ()) = wNeed ++ 32 :: (nm ++ 32 :: itoa (n : Int)) := rfl
  rw [e]
  unfold readG rreadG rwordG
  rw [cutW kw_need]
  simp only
  rw [cutW fun b hb => (nm_bytes h3 b hb).1]
  simp only
  rw [if_neg (by decide), if_neg (by decide), if_neg (fun hh => itoa_ne n hh.1), if_pos trivial, if_neg (by decide), if_pos trivial, numG_itoa n h1 h2, rnumG_itoa n h2]
  exact ⟨rfl, rfl⟩
 ·have e : phText (3, nm, 0, t, ()) = wCall ++ 32 :: (nm ++ tailG t) := rfl
  obtain ⟨c1, c2⟩ := cut_tail (fun b hb => (nm_bytes h2 b hb).1) t
  rw [e]
  unfold readG rreadG rwordG
  rw [cutW kw_call]
  simp only [c1, c2]
  rw [if_neg (by decide), if_neg (by decide), if_neg, if_neg (by decide), if_pos trivial, if_neg (by decide), if_neg (by decide), if_pos trivial]
  ·exact ⟨rfl, rfl⟩
  ·rintro ⟨rfl, hh⟩
   exact hh (by unfold tailG; simp)
 ·have e : phText (4, [], (n : Int), t, ()) = wEnd ++ 32 :: (itoa (n : Int) ++ tailG t) := rfl
  obtain ⟨c1, c2⟩ := cut_tail (fun b hb => (dig_bytes n b hb).1) t
  rw [e]
  unfold readG rreadG rwordG
  rw [cutW kw_end]
  simp only [c1, c2]
  rw [if_neg (by decide), if_neg (by decide), if_neg, if_neg (by decide), if_neg (by decide), if_pos trivial, if_neg (by decide), if_neg (by decide), if_neg (by decide), if_pos trivial, numG_itoa n (by omega) (by omega), rnumG_itoa n (by omega)]
  ·exact ⟨rfl, rfl⟩
  ·rintro ⟨rfl, hh⟩
   exact hh (by unfold tailG; simp)
end Go.Vm
