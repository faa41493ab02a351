import Derived.Test.YtihpjgcbmipdbaaGreatDoorPh1
import Derived.Test.YtihpjgcbmipdbaaGreatDoorPh5
import Derived.Test.YtihpjgcbmipdbaaGreatDoorFsignx
import Derived.Test.YtihpjgcbmipdbaaGreatDoorFprog
import Derived.Lib.AtoiAllCases
/- Programs: numbers, phases, their texts, what reads them: plainly. No condition. -/
namespace Go.Vm
open Go.Lib (decDigits itoa decNat decFrom digitVal)
set_option linter.unusedVariables false
set_option linter.unusedSimpArgs false
/-! ### numbers -/
theorem decNat_digs {l : By} (h : ∀ c ∈ l, isDig c = true) (hne : l ≠ []) : decNat l = some (valD l) := by
 have main : ∀ (l : By) (n : Nat), (∀ c ∈ l, isDig c = true) → decFrom n l = some (l.foldl (fun n c => n * 10 + (c.toNat - 48)) n) := by
  intro l
  induction l with
  | nil => intro n _; rfl
  | cons c l ih =>
   intro n hd
   have hc := hd c (List.mem_cons_self ..)
   have hv : digitVal c = some (c.toNat - 48) := by
    unfold digitVal
    simp [isDig] at hc
    rw [if_pos ⟨hc.1, hc.2⟩]
   unfold decFrom
   rw [hv]
   exact ih _ (fun x hx => hd x (List.mem_cons_of_mem _ hx))
 unfold decNat valD
 rw [main l 0 h]
 cases l with
 | nil => exact absurd rfl hne
 | cons c l => rfl
theorem atoi_itoa (n : Nat) (h : n < 100000000000000000) : Lib.atoiAll (itoa (n : Int)) = .ok (n : Int) := by
 have hl : (itoa (n : Int)).length ≤ 18 := Nat.le_trans (itoa_len n 17 (by decide) (by omega)).1 (by decide)
 have hd := itoa_dig n
 have hne := itoa_ne n
 rw [Lib.atoiAll_short _ hl]
 have hv : valD (itoa (n : Int)) = n := by rw [itoa_nat]; exact (dec_facts n).2.1
 have hdn := decNat_digs hd hne
 rw [hv] at hdn
 cases hc : itoa (n : Int) with
 | nil => exact absurd hc hne
 | cons c q =>
  rw [hc] at hdn hd
  have h0 := hd c (List.mem_cons_self ..)
  have h45 : (c == 45) = false := by
   cases hh : c == 45 with
   | false => rfl
   | true => rw [beq_iff_eq] at hh; subst hh; exact absurd h0 (by decide)
  have h43 : (c == 43) = false := by
   cases hh : c == 43 with
   | false => rfl
   | true => rw [beq_iff_eq] at hh; subst hh; exact absurd h0 (by decide)
  show Lib.NumEnd.ofOption (if (c == 45) = true then (decNat q).map (fun (m : Nat) => -(m : Int)) else if (c == 43) = true then (decNat q).map (fun (m : Nat) => (m : Int)) else (decNat (c :: q)).map (fun (m : Nat) => (m : Int))) = _
  rw [h45, h43, hdn]
  rfl
def numG (s : By) : Int := match Lib.atoiAll s with
 | .ok n => if n < 1 ∨ itoa n ≠ s then 0 else n
 | _ => 0
theorem numG_itoa (n : Nat) (h1 : 1 ≤ n) (h : n ≤ 1073741824) : numG (itoa (n : Int)) = n := by
 unfold numG
 rw [atoi_itoa n (by omega)]
 simp only
 rw [if_neg]
 rintro (h | h)
 ·omega
 ·exact h rfl
def rnumG (acc : Nat) : By → Nat
 | [] => acc
 | c :: r => if isDig c = true ∧ acc ≤ 1073741824 then rnumG (acc * 10 + (c.toNat - 48)) r else 0
theorem fold_ge : ∀ (l : By) (acc : Nat), acc ≤ l.foldl (fun n c => n * 10 + (c.toNat - 48)) acc
 | [], acc => Nat.le_refl _
 | c :: l, acc => by
  have := fold_ge l (acc * 10 + (c.toNat - 48))
  rw [List.foldl_cons]
  omega
theorem rnumG_val : ∀ (l : By) (acc : Nat), (∀ c ∈ l, isDig c = true) → l.foldl (fun n c => n * 10 + (c.toNat - 48)) acc ≤ 1073741824 → rnumG acc l = l.foldl (fun n c => n * 10 + (c.toNat - 48)) acc
 | [], acc, h, hv => rfl
 | c :: l, acc, h, hv => by
  rw [List.foldl_cons] at hv
  have := fold_ge l (acc * 10 + (c.toNat - 48))
  unfold rnumG
  rw [if_pos ⟨h c (List.mem_cons_self ..), by omega⟩, List.foldl_cons]
  exact rnumG_val l _ (fun x hx => h x (List.mem_cons_of_mem _ hx)) hv
theorem rnumG_itoa (n : Nat) (h : n ≤ 1073741824) : rnumG 0 (itoa (n : Int)) = n := by
 have hv : valD (itoa (n : Int)) = n := by rw [itoa_nat]; exact (dec_facts n).2.1
 have := rnumG_val (itoa (n : Int)) 0 (itoa_dig n) (by show valD (itoa (n : Int)) ≤ _; omega)
 rw [this]
 exact hv
/-! ### phases -/
abbrev PhT := Int × By × Int × By × Unit
def textG (s : By) : Bool := s.all (fun c => c != 59) && checkT s
def rightG (p : PhT) : Bool :=
 if p.1 = 1 then decide (1 ≤ p.2.2.1) && decide (p.2.2.1 ≤ 80) && decide (p.2.1 = []) && decide (p.2.2.2.1 = [])
 else if p.1 = 2 then decide (1 ≤ p.2.2.1) && decide (p.2.2.1 ≤ 1073741824) && nmP p.2.1 && decide (p.2.2.2.1 = [])
 else if p.1 = 3 then decide (p.2.2.1 = 0) && nmP p.2.1 && textG p.2.2.2.1
 else if p.1 = 4 then (decide (p.2.2.1 = 200) || decide (p.2.2.1 = 201)) && decide (p.2.1 = []) && textG p.2.2.2.1
 else false
def mayL : List PhT → Bool
 | [] => true
 | p :: r => rightG p && (decide (p.1 = 4) == decide (r = [])) && mayL r
def mayG (l : List PhT) : Bool := decide (1 ≤ l.length) && decide (l.length ≤ 5) && mayL l
abbrev wOnly : By := [111, 110, 108, 121]
abbrev wNeed : By := [110, 101, 101, 100]
abbrev wCall : By := [99, 97, 108, 108]
abbrev wEnd : By := [101, 110, 100]
def tailG (s : By) : By := if s = [] then [] else 32 :: s
def phText (p : PhT) : By :=
 if p.1 = 1 then wOnly ++ 32 :: itoa p.2.2.1
 else if p.1 = 2 then wNeed ++ 32 :: (p.2.1 ++ 32 :: itoa p.2.2.1)
 else if p.1 = 3 then wCall ++ 32 :: (p.2.1 ++ tailG p.2.2.2.1)
 else wEnd ++ 32 :: (itoa p.2.2.1 ++ tailG p.2.2.2.1)
abbrev z23 : PhT := (0, [], 0, [], ())
def readG (s : By) : PhT := if (Lib.cut s [32]).2.2 = false then z23
 else if (Lib.cut s [32]).1 = wOnly then (1, [], numG (Lib.cut s [32]).2.1, [], ())
 else if (Lib.cut (Lib.cut s [32]).2.1 [32]).2.1 = [] ∧ (Lib.cut (Lib.cut s [32]).2.1 [32]).1 ≠ (Lib.cut s [32]).2.1 then z23
 else if (Lib.cut s [32]).1 = wNeed then (2, (Lib.cut (Lib.cut s [32]).2.1 [32]).1, numG (Lib.cut (Lib.cut s [32]).2.1 [32]).2.1, [], ())
 else if (Lib.cut s [32]).1 = wCall then (3, (Lib.cut (Lib.cut s [32]).2.1 [32]).1, 0, (Lib.cut (Lib.cut s [32]).2.1 [32]).2.1, ())
 else if (Lib.cut s [32]).1 = wEnd then (4, [], numG (Lib.cut (Lib.cut s [32]).2.1 [32]).1, (Lib.cut (Lib.cut s [32]).2.1 [32]).2.1, ())
 else z23
def rwordG (s : By) : By × By := ((Lib.cut s [32]).1, (Lib.cut s [32]).2.1)
def rreadG (s : By) : PhT :=
 if (rwordG s).1 = wOnly then (1, [], (rnumG 0 (rwordG s).2 : Int), [], ())
 else if (rwordG s).1 = wNeed then (2, (rwordG (rwordG s).2).1, (rnumG 0 (rwordG (rwordG s).2).2 : Int), [], ())
 else if (rwordG s).1 = wCall then (3, (rwordG (rwordG s).2).1, 0, (rwordG (rwordG s).2).2, ())
 else if (rwordG s).1 = wEnd then (4, [], (rnumG 0 (rwordG (rwordG s).2).1 : Int), (rwordG (rwordG s).2).2, ())
 else z23
theorem nm_bytes {s : By} (h : nmP s = true) : ∀ b ∈ s, b ≠ 32 ∧ b ≠ 59 := by
 unfold nmP at h
 simp only [Bool.and_eq_true] at h
 intro b hb
 have := List.all_eq_true.1 h.1.1 b hb
 constructor <;> rintro rfl <;> exact absurd this (by decide)
theorem dig_bytes (n : Nat) : ∀ b ∈ itoa (n : Int), b ≠ 32 ∧ b ≠ 59 := by
 intro b hb
 have := itoa_dig n b hb
 constructor <;> rintro rfl <;> exact absurd this (by decide)
theorem cut_tail {p : By} (hp : ∀ b ∈ p, b ≠ 32) (t : By) : (Lib.cut (p ++ tailG t) [32]).1 = p ∧ (Lib.cut (p ++ tailG t) [32]).2.1 = t := by
 unfold tailG
 by_cases ht : t = []
 ·rw [if_pos ht, List.append_nil, cut_miss hp, ht]
  exact ⟨rfl, rfl⟩
 ·rw [if_neg ht, cut_hit hp]
  exact ⟨rfl, rfl⟩
theorem cutW {p : By} (hp : ∀ b ∈ p, b ≠ 32) (s : By) : Lib.cut (p ++ 32 :: s) [32] = (p, s, true) := cut_hit hp s
theorem kw_only : ∀ b ∈ wOnly, b ≠ 32 := by decide
theorem kw_need : ∀ b ∈ wNeed, b ≠ 32 := by decide
theorem kw_call : ∀ b ∈ wCall, b ≠ 32 := by decide
theorem kw_end : ∀ b ∈ wEnd, b ≠ 32 := by decide
theorem right_cases {p : PhT} (h : rightG p = true) :
  (∃ n : Nat, p = (1, [], (n : Int), [], ()) ∧ 1 ≤ n ∧ n ≤ 80) ∨ (∃ (nm : By) (n : Nat), p = (2, nm, (n : Int), [], ()) ∧ nmP nm = true ∧ 1 ≤ n ∧ n ≤ 1073741824) ∨
  (∃ nm t, p = (3, nm, 0, t, ()) ∧ nmP nm = true ∧ textG t = true) ∨ ∃ (n : Nat) (t : By), p = (4, [], (n : Int), t, ()) ∧ (n = 200 ∨ n = 201) ∧ textG t = true := by
 obtain ⟨k, nm, n, t, u⟩ := p
 unfold rightG at h
 simp only at h
 split at h
 ·rename_i hk
  subst hk
  simp only [Bool.and_eq_true, decide_eq_true_eq] at h
  obtain ⟨⟨⟨h1, h2⟩, rfl⟩, rfl⟩ := h
  exact .inl ⟨n.toNat, by rw [show ((n.toNat : Nat) : Int) = n by omega], by omega, by omega⟩
 split at h
 ·rename_i hk
  subst hk
  simp only [Bool.and_eq_true, decide_eq_true_eq] at h
  obtain ⟨⟨⟨h1, h2⟩, h3⟩, rfl⟩ := h
  exact .inr (.inl ⟨nm, n.toNat, by rw [show ((n.toNat : Nat) : Int) = n by omega], h3, by omega, by omega⟩)
 split at h
 ·rename_i hk
  subst hk
  simp only [Bool.and_eq_true, decide_eq_true_eq] at h
  obtain ⟨⟨rfl, h2⟩, h3⟩ := h
  exact .inr (.inr (.inl ⟨nm, t, rfl, h2, h3⟩))
 split at h
 ·rename_i hk
  subst hk
  simp only [Bool.and_eq_true, Bool.or_eq_true, decide_eq_true_eq] at h
  obtain ⟨⟨h1, rfl⟩, h3⟩ := h
  exact .inr (.inr (.inr ⟨n.toNat, t, by rw [show ((n.toNat : Nat) : Int) = n by omega], by omega, h3⟩))
 ·cases h
theorem read_text (p : PhT) (h : rightG p = true) : readG (phText p) = p ∧ rreadG (phText p) = p := by
 rcases right_cases h with ⟨n, rfl, h1, h2⟩ | ⟨nm, n, rfl, h3, h1, h2⟩ | ⟨nm, t, rfl, h2, h3⟩ | ⟨n, t, rfl, h1, h3⟩
 ·have e : phText (1, [], (n : Int), [], ()) = wOnly ++ 32 :: itoa (n : Int) := rfl
  rw [e]
  unfold readG rreadG rwordG
  rw [cutW kw_only]
  simp only
  rw [if_neg (by decide), if_pos trivial, if_pos trivial, numG_itoa n h1 (by omega), rnumG_itoa n (by omega)]
  exact ⟨rfl, rfl⟩
 ·have e : phText (2, nm, (n : Int), [], ()) = wNeed ++ 32 :: (nm ++ 32 :: itoa (n : Int)) := rfl
  rw [e]
  unfold readG rreadG rwordG
  rw [cutW kw_need]
  simp only
  rw [cutW fun b hb => (nm_bytes h3 b hb).1]
  simp only
  rw [if_neg (by decide), if_neg (by decide), if_neg (fun hh => itoa_ne n hh.1), if_pos trivial, if_neg (by decide), if_pos trivial, numG_itoa n h1 h2, rnumG_itoa n h2]
  exact ⟨rfl, rfl⟩
 ·have e : phText (3, nm, 0, t, ()) = wCall ++ 32 :: (nm ++ tailG t) := rfl
  obtain ⟨c1, c2⟩ := cut_tail (fun b hb => (nm_bytes h2 b hb).1) t
  rw [e]
  unfold readG rreadG rwordG
  rw [cutW kw_call]
  simp only [c1, c2]
  rw [if_neg (by decide), if_neg (by decide), if_neg, if_neg (by decide), if_pos trivial, if_neg (by decide), if_neg (by decide), if_pos trivial]
  ·exact ⟨rfl, rfl⟩
  ·rintro ⟨rfl, hh⟩
   exact hh (by unfold tailG; simp)
 ·have e : phText (4, [], (n : Int), t, ()) = wEnd ++ 32 :: (itoa (n : Int) ++ tailG t) := rfl
  obtain ⟨c1, c2⟩ := cut_tail (fun b hb => (dig_bytes n b hb).1) t
  rw [e]
  unfold readG rreadG rwordG
  rw [cutW kw_end]
  simp only [c1, c2]
  rw [if_neg (by decide), if_neg (by decide), if_neg, if_neg (by decide), if_neg (by decide), if_pos trivial, if_neg (by decide), if_neg (by decide), if_neg (by decide), if_pos trivial, numG_itoa n (by omega) (by omega), rnumG_itoa n (by omega)]
  ·exact ⟨rfl, rfl⟩
  ·rintro ⟨rfl, hh⟩
   exact hh (by unfold tailG; simp)
end Go.Vm
/- Programs: printed and parsed, plainly; the document's parser on a printed one. No condition. -/
namespace Go.Vm
open Go.Lib (decDigits itoa)
set_option linter.unusedVariables false
set_option linter.unusedSimpArgs false
def printG (l : List PhT) : By := Lib.join (l.map phText) [59, 32]
def restG : List By → Option (List PhT)
 | [] => some []
 | x :: r => match x with
  | 32 :: t => (restG r).map (readG t :: ·)
  | _ => none
def parsG (s : By) : Option (List PhT) := match splC 59 s with
 | x :: r => (restG r).map (readG x :: ·)
 | [] => none
theorem join_tail (x : By) : ∀ r : List By, joinD 59 (x :: r.map (fun t => 32 :: t)) = x ++ Lib.joinTail [59, 32] r
 | [] => by show x = x ++ []; rw [List.append_nil]
 | t :: r => by
  rw [List.map_cons, joinD_cons 59 x (by simp), join_tail (32 :: t) r]
  show x ++ 59 :: ((32 :: t) ++ Lib.joinTail [59, 32] r) = x ++ ((59 :: 32 :: t) ++ Lib.joinTail [59, 32] r)
  rfl
theorem printG_cons (p : PhT) (r : List PhT) : printG (p :: r) = phText p ++ Lib.joinTail [59, 32] (r.map phText) := by
 unfold printG
 rw [List.map_cons, Lib.join_cons]
theorem tailG_no {d : UInt8} (hd : d ≠ 32) {t : By} (h : ∀ b ∈ t, b ≠ d) : ∀ b ∈ tailG t, b ≠ d := by
 unfold tailG
 split
 ·exact fun b hb => by cases hb
 ·intro b hb
  rcases List.mem_cons.1 hb with rfl | hb
  ·exact fun e => hd e.symm
  ·exact h b hb
theorem textG_no {t : By} (h : textG t = true) : ∀ b ∈ t, b ≠ 59 := by
 unfold textG at h
 rw [Bool.and_eq_true] at h
 intro b hb
 have := List.all_eq_true.1 h.1 b hb
 simpa using this
theorem app_no {d : UInt8} {a b : By} (ha : ∀ x ∈ a, x ≠ d) (hb : ∀ x ∈ b, x ≠ d) : ∀ x ∈ a ++ b, x ≠ d := fun x hx => (List.mem_append.1 hx).elim (ha x) (hb x)
theorem cons_no {d c : UInt8} {b : By} (hc : c ≠ d) (hb : ∀ x ∈ b, x ≠ d) : ∀ x ∈ c :: b, x ≠ d := fun x hx => (List.mem_cons.1 hx).elim (fun e => e ▸ hc) (hb x)
theorem text_no {p : PhT} (h : rightG p = true) : ∀ b ∈ phText p, b ≠ 59 := by
 rcases right_cases h with ⟨n, rfl, h1, h2⟩ | ⟨nm, n, rfl, h3, h1, h2⟩ | ⟨nm, t, rfl, h2, h3⟩ | ⟨n, t, rfl, h1, h3⟩
 ·exact app_no (a := wOnly) (by decide) (cons_no (by decide) fun b hb => (dig_bytes n b hb).2)
 ·exact app_no (a := wNeed) (by decide) (cons_no (by decide) (app_no (fun b hb => (nm_bytes h3 b hb).2) (cons_no (by decide) fun b hb => (dig_bytes n b hb).2)))
 ·exact app_no (a := wCall) (by decide) (cons_no (by decide) (app_no (fun b hb => (nm_bytes h2 b hb).2) (tailG_no (by decide) (textG_no h3))))
 ·exact app_no (a := wEnd) (by decide) (cons_no (by decide) (app_no (fun b hb => (dig_bytes n b hb).2) (tailG_no (by decide) (textG_no h3))))
theorem mayL_right : ∀ l : List PhT, mayL l = true → ∀ p ∈ l, rightG p = true
 | [], h, p, hp => by cases hp
 | q :: l, h, p, hp => by
  unfold mayL at h
  rw [Bool.and_eq_true, Bool.and_eq_true] at h
  rcases List.mem_cons.1 hp with rfl | hp
  ·exact h.1.1
  ·exact mayL_right l h.2 p hp
theorem may_right {l : List PhT} (h : mayG l = true) : (∀ p ∈ l, rightG p = true) ∧ 1 ≤ l.length ∧ l.length ≤ 5 := by
 unfold mayG at h
 simp only [Bool.and_eq_true, decide_eq_true_eq] at h
 exact ⟨mayL_right l h.2, h.1.1, h.1.2⟩
theorem rest_text : ∀ r : List PhT, (∀ p ∈ r, rightG p = true) → restG (r.map fun p => 32 :: phText p) = some r
 | [], h => rfl
 | p :: r, h => by
  rw [List.map_cons]
  show (restG (r.map fun p => 32 :: phText p)).map (readG (phText p) :: ·) = _
  rw [rest_text r fun q hq => h q (List.mem_cons_of_mem _ hq), (read_text p (h p (List.mem_cons_self ..))).1]
  rfl
theorem pars_print (l : List PhT) (h : mayG l = true) : parsG (printG l) = some l := by
 obtain ⟨h1, h2, h3⟩ := may_right h
 cases l with
 | nil => simp at h2
 | cons p r =>
  have e : printG (p :: r) = joinD 59 (phText p :: r.map fun p => 32 :: phText p) := by
   rw [printG_cons, ← join_tail, List.map_map]
   rfl
  have hs : splC 59 (joinD 59 (phText p :: r.map fun p => 32 :: phText p)) = phText p :: r.map fun p => 32 :: phText p := by
   refine splC_join _ (by simp) fun x hx => ?_
   rcases List.mem_cons.1 hx with rfl | hx
   ·exact text_no (h1 p (List.mem_cons_self ..))
   ·obtain ⟨q, hq, rfl⟩ := List.mem_map.1 hx
    exact cons_no (by decide) (text_no (h1 q (List.mem_cons_of_mem _ hq)))
  unfold parsG
  rw [e, hs]
  show (restG (r.map fun p => 32 :: phText p)).map (readG (phText p) :: ·) = _
  rw [rest_text r fun q hq => h1 q (List.mem_cons_of_mem _ hq), (read_text p (h1 p (List.mem_cons_self ..))).1]
  rfl
def parseT (s : By) : List PhT × Int := match parsG s with
 | some l => if mayG l = true then (l, 0) else ([], 3)
 | none => ([], 3)
theorem parseT_print (l : List PhT) (h : mayG l = true) : parseT (printG l) = (l, 0) := by
 unfold parseT
 rw [pars_print l h]
 exact if_pos h
end Go.Vm
/- Phrases: gaps; the wake; the law of checks. No condition but on lengths. -/
namespace Go.Vm
open Go.Proofs
open Go.Lib (decodeL decodeN decodeL_N decode_N decodeN_shape decodeL_le)
set_option linter.unusedVariables false
set_option linter.unusedSimpArgs false
theorem signs_ascii : ∀ s : By, (∀ b ∈ s, b.toNat < 128) → (signs s).map (·.1) = s.map fun b => (b.toNat : Int)
 | [], h => by rw [signs_nil]; rfl
 | c :: s, h => by
  rw [signs_one c (h c (List.mem_cons_self ..)), List.map_cons, List.map_cons, signs_ascii s fun b hb => h b (List.mem_cons_of_mem _ hb)]
abbrev wkB : By := [123, 34, 115, 117, 109, 34, 58, 53, 125]
theorem wk_all : allP wkB = .ok (.obj [([115, 117, 109], .int 5, ())]) := by kernel_rfl
theorem wk_five : allP [53] = .ok (.int 5) := by kernel_rfl
theorem itoa_5 : Go.Lib.itoa 5 = [53] := by unfold Go.Lib.itoa; rw [if_neg (by decide)]; exact Go.Lib.decDigits_one (by decide)
theorem wk_mem : memT wkB [115, 117, 109] = [53] := by
 have hv : vP wkB = .obj [([115, 117, 109], .int 5, ())] := by unfold vP; rw [wk_all]
 have h5 : vP [53] = .int 5 := by unfold vP; rw [wk_five]
 have hl : layP 7 (.int 5) = [53] := by rw [layP_B]; exact itoa_5
 have hf : firstM [115, 117, 109] [(([115, 117, 109], .int 5, ()) : Me)] = ([53], true) := by
  unfold firstM
  rw [if_pos rfl, hl]
 have hf2 : firstM [115, 117, 109] (objL (vP wkB)) = ([53], true) := by rw [hv]; exact hf
 unfold memT
 rw [hf2, if_pos rfl]
 show (if kindP (vP [53]) = 4 then textP (vP [53]) else [53]) = _
 rw [h5]
 exact if_neg (by decide)
end Go.Vm
/- Phrases: what the document fills is the plain text. No condition but on lengths. -/
namespace Go.Vm
open Go.Proofs
open Go.Lib (decodeL decodeN decodeL_N decode_N decodeN_shape decodeL_le)
set_option linter.unusedVariables false
set_option linter.unusedSimpArgs false
/-! ### members -/
theorem signs_okR : ∀ s : By, ∀ n ∈ (signs s).map (·.1), ∃ c : Nat, n = (c : Int) ∧ okR c := by
 refine signs_ind ?_ ?_
 ·rw [signs_nil]; intro n hn; cases hn
 ·intro l h ih n hn
  rw [signs_cons h, List.map_cons] at hn
  rcases List.mem_cons.1 hn with rfl | hn
  ·exact ⟨_, rfl, rune_ok l⟩
  ·exact ih n hn
end Go.Vm
/- Programs: what is to be done next, how many calls are ahead: plainly. No condition. -/
namespace Go.Vm
open Go.Proofs
set_option linter.unusedVariables false
set_option linter.unusedSimpArgs false
theorem mayL_at : ∀ (l : List PhT), mayL l = true → ∀ (i : Nat) (x : PhT), l[i]? = some x → rightG x = true ∧ (x.1 = 4 ↔ i + 1 = l.length)
 | [], _, i, x, h => by simp at h
 | p :: r, hm, i, x, h => by
  unfold mayL at hm
  rw [Bool.and_eq_true, Bool.and_eq_true, beq_iff_eq] at hm
  obtain ⟨⟨h1, h2⟩, h3⟩ := hm
  cases i with
  | zero =>
   have : p = x := by simpa using h
   subst this
   refine ⟨h1, ?_⟩
   rw [decide_eq_decide] at h2
   rw [h2, List.length_cons]
   cases r <;> simp
  | succ i =>
   have := mayL_at r h3 i x (by simpa using h)
   rw [List.length_cons]
   exact ⟨this.1, this.2.trans (by omega)⟩
theorem mayG_at {l : List PhT} (hm : mayG l = true) {i : Nat} {x : PhT} (h : l[i]? = some x) : rightG x = true ∧ (x.1 = 4 ↔ i + 1 = l.length) := by
 unfold mayG at hm
 rw [Bool.and_eq_true] at hm
 exact mayL_at l hm.2 i x h
/-! ### what is to be done next -/
abbrev DoT := Int × Int × By × Int × By × Int × Int × Int × By × By × Unit
abbrev zDo : DoT := (0, 0, [], 0, [], 0, 0, 0, [], [], ())
abbrev tRef : By := [114, 101, 102, 117, 115, 101, 100, 32]
abbrev EnT.pt (e : EnT) : Int := e.2.2.2.2.2.1
abbrev EnT.tk (e : EnT) : Int := e.2.2.2.2.1
abbrev EnT.ep (e : EnT) : Int := e.2.2.2.1
def onlyT (s : By) (n : Int) : Bool := decide (((signs s).length : Int) ≤ n) && ((signs s).map (·.1)).all fun x => decide (1 ≤ sortI x ∧ sortI x ≤ 3)
def needT (body name : By) (n : Int) : Bool := (firstM name (objL (vP body))).2 && (decide (kindP (vP (firstM name (objL (vP body))).1) = 3) && (decide (1 ≤ numV (vP (firstM name (objL (vP body))).1)) && decide (numV (vP (firstM name (objL (vP body))).1) ≤ n)))
def passD (ok : Bool) (why : By) : DoT := if ok = true then (1, 0, [], 0, [], 0, 0, 0, [], [], ()) else (2, 402, tRef ++ why, 0, [], 0, 0, 0, [], [], ())
def doT (x : PhT) (e : EnT) : DoT :=
 if x.1 = 1 then passD (onlyT e.body x.2.2.1) wOnly
 else if x.1 = 2 then passD (needT e.body x.2.1 x.2.2.1) (wNeed ++ 32 :: x.2.1)
 else if x.1 = 3 then (3, 0, [], e.1, e.key, e.ep, e.pt, e.tk, x.2.1, fillT x.2.2.2.1 e, ())
 else (2, x.2.2.1, fillT x.2.2.2.1 e, 0, [], 0, 0, 0, [], [], ())
def nextT (p : List PhT) (e : EnT) : DoT × Int :=
 if mayG p = false then (zDo, 1) else if e.pt < 0 ∨ (p.length : Int) ≤ e.pt then (zDo, 6) else
 match p[e.pt.toNat]? with
 | none => (zDo, 6)
 | some x => (doT x e, 0)
/-! ### calls -/
def callsN (p : List PhT) (n : Nat) : Nat := ((p.take n).filter fun x => decide (x.1 = 3)).length
def callsT (p : List PhT) (point : Int) : Int := (callsN p point.toNat : Nat)
theorem callsN_succ {p : List PhT} {n : Nat} {x : PhT} (h : p[n]? = some x) : callsN p (n + 1) = callsN p n + if x.1 = 3 then 1 else 0 := by
 unfold callsN
 rw [List.take_succ, h, List.filter_append, List.length_append]
 congr 1
 by_cases c : x.1 = 3 <;> simp [c]
theorem callsN_le (p : List PhT) (n : Nat) : callsN p n ≤ p.length := by
 unfold callsN
 have h1 := List.length_filter_le (fun x : PhT => decide (x.1 = 3)) (p.take n)
 rw [List.length_take] at h1
 omega
theorem callsN_all {p : List PhT} {n : Nat} (h : p.length ≤ n) : callsN p n = callsN p p.length := by
 unfold callsN
 rw [List.take_of_length_le h, List.take_of_length_le (Nat.le_refl _)]
end Go.Vm
/- Signs of a text: how many, and whether all are of some sorts (cut out of the texts of sign). No condition but on lengths. -/
namespace Go.Vm
open Go.Lib (decodeL decodeN decodeL_N decode_N decodeN_shape decodeL_le)
set_option linter.unusedVariables false
set_option linter.unusedSimpArgs false
theorem idx_nat {α : Type} (l : List α) (k : Nat) : idx l (k : Int) = l[k]? := by
 unfold idx
 rw [if_pos (by omega)]
 simp
theorem idx_mid {α : Type} (pre t : List α) (x : α) : idx (pre ++ x :: t) (pre.length : Int) = some x := by
 rw [idx_nat]; simp
def findFrom (r : Int) : Nat → List Int → Int
 | _, [] => -1
 | k, x :: t => if x = r then (k : Int) else findFrom r (k + 1) t
theorem index_tends (l : List Int) (hl : l.length ≤ 1000000000000) (v : Int) : Tends (fun F => M_slices_Index_int_int F (l, v)) (findFrom v 0 l) := by
 have loop : ∀ (t pre : List Int), l = pre ++ t → ∃ y, TendsL M_slices_Index_int_int_l0 (l, v, (l.length : Int), (pre.length : Int), ()) y ∧ sumC y (fun _ => (-1 : Int)) (fun v => v.1) = findFrom v pre.length t := by
  intro t
  induction t with
  | nil =>
   intro pre h
   simp only [List.append_nil] at h
   subst h
   refine ⟨.inl (), TendsL.fin (Tends.of fun F => ?_), rfl⟩
   unfold M_slices_Index_int_int_l0
   simp
  | cons x t ih =>
   intro pre h
   have hlen : l.length = pre.length + (t.length + 1) := by rw [h]; simp
   have h1 : (pre.length : Int) < (l.length : Int) := by omega
   have hi : idx l (pre.length : Int) = some x := by rw [h]; exact idx_mid pre t x
   simp only [findFrom]
   by_cases he : x = v
   ·rw [if_pos he]
    refine ⟨.inr ((pre.length : Int), ()), TendsL.fin (Tends.of fun F => ?_), rfl⟩
    unfold M_slices_Index_int_int_l0
    simp [h1, hi, he]
   ·rw [if_neg he]
    obtain ⟨y, q1, q2⟩ := ih (pre ++ [x]) (by rw [h]; simp)
    refine ⟨y, TendsL.step (Tends.of fun F => ?_) q1, by simpa using q2⟩
    unfold M_slices_Index_int_int_l0
    have he' : ¬ v = x := fun e => he e.symm
    have hw : IntKind.i64.wrap ((pre.length : Int) + 1) = ((pre.length + 1 : Nat) : Int) := by rw [wrap64 _ (by omega) (by omega)]; rfl
    simp [h1, hi, he', hw]
 obtain ⟨y, h1, h2⟩ := loop l [] rfl
 unfold M_slices_Index_int_int
 refine h1.run.bind ?_
 refine Tends.of fun F => ?_
 rw [← (show _ = findFrom v 0 l from h2)]
 cases y <;> rfl
theorem findFrom_mem (v : Int) : ∀ (l : List Int) (k : Nat), decide (0 ≤ findFrom v k l) = decide (v ∈ l)
 | [], k => by simp [findFrom]
 | x :: t, k => by
  unfold findFrom
  by_cases h : x = v
  ·rw [if_pos h]
   have : (0 : Int) ≤ (k : Int) := by omega
   simp [this, h]
  ·rw [if_neg h, findFrom_mem v t (k + 1)]
   have h' : ¬ v = x := fun e => h e.symm
   simp [h']
theorem contains_tends (l : List Int) (hl : l.length ≤ 1000000000000) (v : Int) : Tends (fun F => M_slices_Contains_int_int F (l, v)) (decide (v ∈ l)) := by
 unfold M_slices_Contains_int_int
 refine (index_tends l hl v).bind ?_
 exact Tends.of fun F => by rw [findFrom_mem]
def onlyL (sorts : List Int) (l : List Int) : Bool := l.all fun x => decide (sortI x ∈ sorts)
theorem only_tends (s : List UInt8) (sorts : List Int) (hl : sorts.length ≤ 1000000000000) : Tends (fun F => M_sign_Only F (s, sorts)) (onlyL sorts ((signs s).map (·.1))) := by
 have loop : ∀ (n p : Nat), s.length - p ≤ n → p ≤ s.length →
   ∃ y, TendsL M_sign_Only_l0 (sorts, (), (s, p), ()) y ∧ sumC y (fun _ => true) (fun v => v.1) = onlyL sorts ((signs (s.drop p)).map (·.1)) := by
  intro n
  induction n with
  | zero =>
   intro p hn hp
   have hpe : p = s.length := by omega
   subst hpe
   refine ⟨.inl (), TendsL.fin (Tends.of fun F => ?_), by rw [List.drop_length, signs_nil]; rfl⟩
   unfold M_sign_Only_l0
   simp
  | succ n ih =>
   intro p hn hp
   by_cases hlt : p < s.length
   case neg => exact ih p (by omega) hp
   have hpos := decodeL_pos (s.drop p)
   have hnx := next_le hlt
   rw [signs_cons (drop_ne hlt), drop_next]
   have hc := contains_tends sorts hl (sortI ((decodeL (s.drop p)).1 : Int))
   by_cases he : sortI ((decodeL (s.drop p)).1 : Int) ∈ sorts
   ·obtain ⟨y, h1, h2⟩ := ih (p + (decodeL (s.drop p)).2) (by omega) hnx
    refine ⟨y, TendsL.step ?_ h1, by rw [h2]; simp [onlyL, he]⟩
    unfold M_sign_Only_l0
    simp only [hlt, decide_true, if_true, sort_eq, Option.bind_some, runeAt_eq, runeLen_eq]
    refine hc.bind ?_
    exact Tends.of fun F => by simp [he]
   ·refine ⟨.inr (false, ()), TendsL.fin ?_, by simp [onlyL, he, sumC]⟩
    unfold M_sign_Only_l0
    simp only [hlt, decide_true, if_true, sort_eq, Option.bind_some, runeAt_eq, runeLen_eq]
    refine hc.bind ?_
    exact Tends.of fun F => by simp [he]
 obtain ⟨y, h1, h2⟩ := loop s.length 0 (by omega) (by omega)
 unfold M_sign_Only
 refine h1.run.bind ?_
 refine Tends.of fun F => ?_
 rw [List.drop_zero] at h2
 rw [← h2]
 cases y <;> rfl
theorem countLoop (s : List UInt8) (hs : s.length ≤ 100000000000) (p : Nat) (hp : p ≤ s.length) (k : Nat) (hk : k + (s.length - p) ≤ 1000000000000) : TendsL M_sign_Count_l0 ((k : Int), (), (s, p), ()) (((k + (signs (s.drop p)).length : Nat) : Int), ()) := by
 have main : ∀ n p k, s.length - p ≤ n → p ≤ s.length → k + (s.length - p) ≤ 1000000000000 → TendsL M_sign_Count_l0 ((k : Int), (), (s, p), ()) (((k + (signs (s.drop p)).length : Nat) : Int), ()) := by
  intro n
  induction n with
  | zero =>
   intro p k hn hp hk
   have : p = s.length := by omega
   subst this
   refine TendsL.fin (Tends.of fun F => ?_)
   unfold M_sign_Count_l0
   simp [signs_nil]
  | succ n ih =>
   intro p k hn hp hk
   by_cases hlt : p < s.length
   ·have hpos := decodeL_pos (s.drop p)
    have hnx := next_le hlt
    rw [signs_cons (drop_ne hlt), drop_next]
    refine TendsL.step (x' := (((k + 1 : Nat) : Int), (), (s, p + (decodeL (s.drop p)).2), ())) (Tends.of fun F => ?_) ?_
    ·have w : IntKind.i64.wrap ((k : Int) + 1) = ((k + 1 : Nat) : Int) := by rw [wrap64 _ (by omega) (by omega)]; rfl
     unfold M_sign_Count_l0
     simp only [hlt, decide_true, if_true, runeLen_eq, w]
    ·have := ih (p + (decodeL (s.drop p)).2) (k + 1) (by omega) hnx (by omega)
     rw [List.length_cons, show k + ((signs (List.drop (p + (decodeL (List.drop p s)).2) s)).length + 1) = k + 1 + (signs (List.drop (p + (decodeL (List.drop p s)).2) s)).length by omega]
     exact this
   ·have : p = s.length := by omega
    subst this
    refine TendsL.fin (Tends.of fun F => ?_)
    unfold M_sign_Count_l0
    simp [signs_nil]
 exact main _ p k (Nat.le_refl _) hp hk
theorem count_tends (s : List UInt8) (hs : s.length ≤ 100000000000) : Tends (fun F => M_sign_Count F s) ((signs s).length : Int) := by
 unfold M_sign_Count
 have := countLoop s hs 0 (by omega) 0 (by omega)
 rw [List.drop_zero, Nat.zero_add] at this
 exact this.run.bind (k := fun F (v1 : Int × Unit) => some v1.1) (Tends.of fun F => rfl)
end Go.Vm
/- Programs: the program's functions are the plain ones. No condition but on lengths. -/
namespace Go.Vm
open Go.Proofs
open Go.Lib (decDigits itoa)
set_option linter.unusedVariables false
set_option linter.unusedSimpArgs false
/-! ### cutting -/
theorem index_t (F : Nat) (s c : By) (h : s.length ≤ 4294967280) : M_internal_stringslite_Index F (s, c) = some (Lib.index s c) := by
 unfold M_internal_stringslite_Index MIndex
 exact if_pos (decide_eq_true h)
theorem cut_len (s d : By) : (Lib.cut s d).1.length ≤ s.length ∧ (Lib.cut s d).2.1.length ≤ s.length := by
 unfold Lib.cut
 split
 ·exact ⟨by simp only [List.length_take]; omega, by simp only [List.length_drop]; omega⟩
 ·exact ⟨Nat.le_refl _, Nat.zero_le _⟩
theorem cut_eq (F : Nat) (s d : By) (h : s.length ≤ 1000000) (hd : d.length ≤ 1000) : M_strings_Cut F (s, d) = some (Lib.cut s d) := by
 unfold M_strings_Cut M_internal_stringslite_Cut
 simp only [index_t F s d (by omega), Option.bind_some]
 have hr := Lib.index_room s d
 have hg := Lib.index_ge s d
 by_cases h0 : 0 ≤ Lib.index s d
 ·obtain ⟨i, hi⟩ : ∃ i : Nat, Lib.index s d = i := ⟨(Lib.index s d).toNat, by omega⟩
  have hr' := hr h0
  rw [hi] at hr'
  have s1 : sub s 0 (i : Int) = some (s.take i) := by
   have := sub_nat s 0 i (Nat.zero_le _) (by omega)
   simpa using this
  have s2 : sub s ((i + d.length : Nat) : Int) (s.length : Int) = some (s.drop (i + d.length)) := sub_to_end s _ (by omega)
  have hw : IntKind.i64.wrap ((i : Int) + (d.length : Int)) = ((i + d.length : Nat) : Int) := by rw [wrap64 _ (by omega) (by omega)]; omega
  have e : Lib.cut s d = (s.take i, s.drop (i + d.length), true) := by
   unfold Lib.cut
   rw [hi, if_pos (by omega), Int.toNat_natCast]
  rw [hi, if_pos (by rw [decide_eq_true_eq]; omega), e]
  simp only [s1, hw, s2, Option.bind_some]
 ·have e : Lib.cut s d = (s, [], false) := by unfold Lib.cut; rw [if_neg h0]
  rw [if_neg (by rw [decide_eq_true_eq]; exact h0), e]
  rfl
theorem pre_hit (F : Nat) (t : By) (h : t.length ≤ 1000000) : M_strings_CutPrefix F (32 :: t, [32]) = some (t, true) := by
 unfold M_strings_CutPrefix M_internal_stringslite_CutPrefix M_internal_stringslite_HasPrefix
 have s0 : sub (32 :: t : By) 0 (([32] : By).length : Int) = some [32] := by
  have := sub_nat (32 :: t : By) 0 1 (by omega) (by simp)
  exact this
 have s1 : sub (32 :: t : By) (([32] : By).length : Int) ((32 :: t : By).length : Int) = some t := sub_to_end (32 :: t : By) 1 (by simp)
 rw [if_pos (by rw [decide_eq_true_eq]; simp only [List.length_cons, List.length_nil]; omega)]
 simp only [s0, Option.bind_some, decide_true, Bool.not_true, Bool.false_eq_true, if_false, s1]
theorem pre_miss (F : Nat) (x : By) (h : ∀ t, x ≠ 32 :: t) : M_strings_CutPrefix F (x, [32]) = some (x, false) := by
 unfold M_strings_CutPrefix M_internal_stringslite_CutPrefix M_internal_stringslite_HasPrefix
 cases x with
 | nil => rfl
 | cons c t =>
  have s0 : sub (c :: t : By) 0 (([32] : By).length : Int) = some [c] := by
   have := sub_nat (c :: t : By) 0 1 (by omega) (by simp)
   exact this
  have hc : ¬ ([c] : By) = [32] := by
   intro hh
   injection hh with hh _
   exact h t (by rw [hh])
  rw [if_pos (by rw [decide_eq_true_eq]; simp only [List.length_cons, List.length_nil]; omega)]
  simp only [s0, Option.bind_some, decide_eq_false hc, Bool.not_false, if_true]
/-! ### numbers, phases -/
theorem pnumber_t (F : Nat) (s : By) (h : s.length ≤ 1000000) : M_prog_number F s = some (numG s) := by
 unfold M_prog_number numG
 cases hx : Lib.atoiAll s with
 | ok n =>
  have ha : M_strconv_AtoiA F s = some (n, false) := by
   unfold M_strconv_AtoiA MAtoiA
   rw [if_pos (decide_eq_true (by omega)), hx]
  obtain ⟨b1, b2⟩ := Lib.atoiAll_bounds hx
  have hi : M_strconv_Itoa F n = some (itoa n) := by
   unfold M_strconv_Itoa MItoa
   rw [if_pos (decide_eq_true b1), if_pos (decide_eq_true b2)]
  simp only [ha, Option.bind_some, Bool.not_false, Bool.not_true, if_true]
  by_cases c1 : n < 1
  ·simp [c1]
  ·by_cases c2 : itoa n = s
   ·simp [c1, c2, hi]
   ·simp [c1, c2, hi]
 | range =>
  have ha : M_strconv_AtoiA F s = some (Lib.atoiSat s, true) := by
   unfold M_strconv_AtoiA MAtoiA
   rw [if_pos (decide_eq_true (by omega)), hx]
  simp [ha]
 | _ =>
  have ha : M_strconv_AtoiA F s = some (0, true) := by
   unfold M_strconv_AtoiA MAtoiA
   rw [if_pos (decide_eq_true (by omega)), hx]
  simp [ha]
theorem read_eq (F : Nat) (s : By) (h : s.length ≤ 100000) : M_prog_read F s = some (readG s) := by
 unfold M_prog_read readG
 have hl := (cut_len s [32]).2
 simp only [cut_eq F s [32] (by omega) (by decide), Option.bind_some]
 generalize Lib.cut s [32] = c at hl
 obtain ⟨kind, rest, more⟩ := c
 simp only at hl ⊢
 have hl2 := cut_len rest [32]
 cases more with
 | false => rfl
 | true =>
  simp only [Bool.not_true, Bool.false_eq_true, if_false, Bool.true_eq_false]
  by_cases k1 : kind = wOnly
  ·rw [if_pos (decide_eq_true k1), if_pos k1, pnumber_t F rest (by omega)]
   rfl
  rw [if_neg (by rw [decide_eq_true_eq]; exact k1), if_neg k1, cut_eq F rest [32] (by omega) (by decide)]
  simp only [Option.bind_some]
  generalize Lib.cut rest [32] = d at hl2
  obtain ⟨one, behind, mo⟩ := d
  simp only at hl2 ⊢
  have hb : (if decide (behind = []) = true then some ((), kind, one, behind, !decide (one = rest), z23, ()) else some ((), kind, one, behind, false, z23, ()) : Option (Unit × By × By × By × Bool × PhT × Unit)) = some ((), kind, one, behind, decide (behind = [] ∧ one ≠ rest), z23, ()) := by
   by_cases b1 : behind = []
   ·rw [if_pos (decide_eq_true b1)]
    by_cases b2 : one = rest <;> simp [b1, b2]
   ·rw [if_neg (by rw [decide_eq_true_eq]; exact b1)]
    simp [b1]
  rw [hb, Option.bind_some]
  simp only
  by_cases b3 : behind = [] ∧ one ≠ rest
  ·rw [if_pos (decide_eq_true b3), if_pos b3]
  rw [if_neg (by rw [decide_eq_true_eq]; exact b3), if_neg b3]
  by_cases k2 : kind = wNeed
  ·rw [if_pos (decide_eq_true k2), if_pos k2, pnumber_t F behind (by omega)]
   rfl
  rw [if_neg (by rw [decide_eq_true_eq]; exact k2), if_neg k2]
  by_cases k3 : kind = wCall
  ·rw [if_pos (decide_eq_true k3), if_pos k3]
  rw [if_neg (by rw [decide_eq_true_eq]; exact k3), if_neg k3]
  by_cases k4 : kind = wEnd
  ·rw [if_pos (decide_eq_true k4), if_pos k4, pnumber_t F one (by omega)]
   rfl
  rw [if_neg (by rw [decide_eq_true_eq]; exact k4), if_neg k4]
theorem idx59 (x : By) : decide (Lib.indexByte x 59 < 0) = x.all (fun c => c != 59) := by
 have hg := Lib.indexByte_ge x 59
 by_cases h : Lib.indexByte x 59 < 0
 ·rw [decide_eq_true h]
  have hm : Lib.indexByte x 59 = -1 := by omega
  symm
  rw [List.all_eq_true]
  intro c hc
  obtain ⟨k, hk⟩ := List.getElem?_of_mem hc
  have := Lib.indexByte_none hm k
  rw [bne_iff_ne]
  rintro rfl
  exact this hk
 ·rw [decide_eq_false h]
  obtain ⟨o, ho⟩ : ∃ o : Nat, Lib.indexByte x 59 = o := ⟨(Lib.indexByte x 59).toNat, by omega⟩
  have h1 := (Lib.indexByte_some ho).1
  symm
  rw [List.all_eq_false]
  exact ⟨59, List.mem_of_getElem? h1, by decide⟩
theorem ptext_t (x : By) (hx : x.length ≤ 1000) : Tends (fun F => M_prog_text F x) (textG x) := by
 unfold M_prog_text textG
 have hi : ∀ F, M_strings_IndexByte F (x, 59) = some (Lib.indexByte x 59) := fun F => rfl
 have h9 := idx59 x
 by_cases h : Lib.indexByte x 59 < 0
 ·rw [decide_eq_true h] at h9
  rw [← h9, Bool.true_and]
  refine Tends.bind (r := ((checkT x, ()) : Bool × Unit)) (Tends.bind (.of hi) (Tends.pos (decide_eq_true h) (Tends.bind (check_v x hx) (.ret _)))) (.ret _)
 ·rw [decide_eq_false h] at h9
  rw [← h9, Bool.false_and]
  refine Tends.bind (r := ((false, ()) : Bool × Unit)) (Tends.bind (.of hi) (Tends.neg (by rw [decide_eq_true_eq]; exact h) (.ret _))) (.ret _)
def bndP (p : PhT) : Prop := p.2.1.length ≤ 1000 ∧ p.2.2.2.1.length ≤ 1000
theorem right_t (p : PhT) (hp : bndP p) : Tends (fun F => M_prog_right F p) (rightG p) := by
 obtain ⟨k, nm, n, t, u⟩ := p
 obtain ⟨hn, ht⟩ := hp
 simp only at hn ht
 unfold M_prog_right rightG
 simp only
 by_cases k1 : k = 1
 ·rw [if_pos k1]
  refine Tends.pos (decide_eq_true k1) (.of fun F => ?_)
  by_cases c1 : 1 ≤ n
  ·by_cases c2 : n ≤ 80
   ·have hlen : nm.length + t.length ≤ 9223372036854775807 := by omega
    rw [if_pos (decide_eq_true c1)]
    simp only [Option.bind_some, decide_eq_true c2, if_true, decide_eq_true hlen]
    by_cases c3 : nm = [] <;> by_cases c4 : t = [] <;> simp [c1, c3, c4]
   ·simp [c1, c2]
  ·simp [c1]
 rw [if_neg k1]
 refine Tends.neg (by rw [decide_eq_true_eq]; exact k1) ?_
 by_cases k2 : k = 2
 ·rw [if_pos k2]
  refine Tends.pos (decide_eq_true k2) (.of fun F => ?_)
  simp only [name_eq]
  by_cases c1 : 1 ≤ n
  ·by_cases c2 : n ≤ 1073741824
   ·cases hnm : nmP nm <;> simp [c1, c2, hnm]
   ·simp [c1, c2]
  ·simp [c1]
 rw [if_neg k2]
 refine Tends.neg (by rw [decide_eq_true_eq]; exact k2) ?_
 by_cases k3 : k = 3
 ·rw [if_pos k3]
  refine Tends.pos (decide_eq_true k3) ?_
  refine Tends.bind (r := (((), decide (n = 0) && nmP nm, (k, nm, n, t, ()), ()) : Unit × Bool × PhT × Unit)) (.of fun F => by
   simp only [name_eq]
   by_cases c1 : n = 0 <;> simp [c1]) ?_
  refine Tends.bind (r := (((decide (n = 0) && nmP nm) && textG t, ()) : Bool × Unit)) ?_ (.ret _)
  cases hb : (decide (n = 0) && nmP nm) with
  | true => exact Tends.pos rfl (Tends.bind (ptext_t t ht) (.ret _))
  | false => exact Tends.neg Bool.false_ne_true (.ret _)
 rw [if_neg k3]
 refine Tends.neg (by rw [decide_eq_true_eq]; exact k3) ?_
 by_cases k4 : k = 4
 ·rw [if_pos k4]
  refine Tends.pos (decide_eq_true k4) ?_
  refine Tends.bind (r := (((), decide (n = 200) || decide (n = 201), (k, nm, n, t, ()), ()) : Unit × Bool × PhT × Unit)) (.of fun F => by
   by_cases c1 : n = 200 <;> simp [c1]) ?_
  refine Tends.bind (r := (((), (decide (n = 200) || decide (n = 201)) && decide (nm = []), (k, nm, n, t, ()), ()) : Unit × Bool × PhT × Unit)) (.of fun F => by
   cases hb : (decide (n = 200) || decide (n = 201)) <;> simp [hb]) ?_
  refine Tends.bind (r := ((((decide (n = 200) || decide (n = 201)) && decide (nm = [])) && textG t, ()) : Bool × Unit)) ?_ (.ret _)
  cases hb : ((decide (n = 200) || decide (n = 201)) && decide (nm = [])) with
  | true => exact Tends.pos rfl (Tends.bind (ptext_t t ht) (.ret _))
  | false => exact Tends.neg Bool.false_ne_true (.ret _)
 ·rw [if_neg k4]
  exact Tends.neg (by rw [decide_eq_true_eq]; exact k4) (.ret _)
theorem drop_nil_iff {α : Type} (l : List α) (i : Nat) (h : i < l.length) : (l.drop (i + 1) = []) ↔ i = l.length - 1 := by
 rw [List.drop_eq_nil_iff]
 omega
theorem pmay_loop (l : List PhT) (hl : l.length ≤ 1000000) (hb : ∀ p ∈ l, bndP p) : ∀ (n i : Nat), i + n = l.length → TendsL M_prog_May_l0 (l, l, (l.length : Int), (i : Int), ()) (if mayL (l.drop i) = true then .inl () else .inr (false, ()))
 | 0, i, h => by
  refine TendsL.fin (.of fun F => ?_)
  unfold M_prog_May_l0
  rw [if_neg (by rw [decide_eq_true_eq]; simp only; omega), List.drop_eq_nil_of_le (by omega)]
  rfl
 | n + 1, i, h => by
  have hi : i < l.length := by omega
  have hx : idx l (i : Int) = some l[i] := idx_at _ _ _ (List.getElem?_eq_getElem hi)
  have hw : IntKind.i64.wrap ((i : Int) + 1) = ((i + 1 : Nat) : Int) := by rw [wrap64 _ (by omega) (by omega)]; omega
  have hw1 : IntKind.i64.wrap ((l.length : Int) - 1) = ((l.length - 1 : Nat) : Int) := by rw [wrap64 _ (by omega) (by omega)]; omega
  have ih := pmay_loop l hl hb n (i + 1) (by omega)
  have hr := right_t l[i] (hb _ (List.getElem_mem hi))
  have hd := drop_nil_iff l i hi
  rw [List.drop_eq_getElem_cons hi]
  generalize l[i] = p at *
  have hk : decide (l.drop (i + 1) = []) = decide ((i : Int) = ((l.length - 1 : Nat) : Int)) := by
   rw [Bool.eq_iff_iff, decide_eq_true_eq, decide_eq_true_eq, hd]; omega
  have e : mayL (p :: l.drop (i + 1)) = (rightG p && (decide (p.1 = 4) == decide ((i : Int) = ((l.length - 1 : Nat) : Int))) && mayL (l.drop (i + 1))) := by rw [← hk]; rfl
  rw [e]
  have hbody : Tends (fun F => M_prog_May_l0 F (l, l, (l.length : Int), (i : Int), ())) (if (rightG p && (decide (p.1 = 4) == decide ((i : Int) = ((l.length - 1 : Nat) : Int)))) = true then .inl (l, l, (l.length : Int), ((i + 1 : Nat) : Int), ()) else .inr (.inr (false, ()))) := by
   unfold M_prog_May_l0
   refine Tends.pos (by rw [decide_eq_true_eq]; simp only; omega) ?_
   refine Tends.bind (.of fun F => hx) ?_
   refine Tends.bind (r := ((l, l, (l.length : Int), (i : Int), !(rightG p && (decide (p.1 = 4) == decide ((i : Int) = ((l.length - 1 : Nat) : Int)))), ()) : List PhT × List PhT × Int × Int × Bool × Unit)) (Tends.bind hr ?_) ?_
   ·cases hrp : rightG p with
    | true => exact .of fun F => by simp [hw1]
    | false => exact .of fun F => by simp
   ·cases hrp : (rightG p && (decide (p.1 = 4) == decide ((i : Int) = ((l.length - 1 : Nat) : Int)))) with
    | true => exact Tends.neg (by simp) (.of fun F => by simp [hw])
    | false => exact Tends.pos (by simp) (.of fun F => by simp)
  cases hrp : (rightG p && (decide (p.1 = 4) == decide ((i : Int) = ((l.length - 1 : Nat) : Int)))) with
  | true =>
   rw [hrp, if_pos rfl] at hbody
   rw [Bool.true_and]
   exact TendsL.step hbody ih
  | false =>
   rw [hrp, if_neg Bool.false_ne_true] at hbody
   rw [Bool.false_and, if_neg Bool.false_ne_true]
   exact TendsL.fin hbody
theorem pmay_t (l : List PhT) (hl : l.length ≤ 1000000) (hb : ∀ p ∈ l, bndP p) : Tends (fun F => M_prog_May F l) (mayG l) := by
 unfold M_prog_May mayG
 refine Tends.bind (r := ((l, !(decide (1 ≤ l.length) && decide (l.length ≤ 5)), ()) : List PhT × Bool × Unit)) (.of fun F => ?_) ?_
 ·by_cases h0 : l.length = 0
  ·rw [if_neg (by rw [decide_eq_true (by omega)]; decide), decide_eq_false (by omega)]
   rfl
  ·rw [if_pos (decide_eq_false (by omega)), decide_eq_true (by omega : 1 ≤ l.length), Bool.true_and]
   by_cases h5 : l.length ≤ 5
   ·rw [decide_eq_false (by omega), decide_eq_true h5]; rfl
   ·rw [decide_eq_true (by omega), decide_eq_false h5]; rfl
 cases hc : (decide (1 ≤ l.length) && decide (l.length ≤ 5)) with
 | false => exact Tends.pos rfl (.ret _)
 | true =>
  refine Tends.neg (by simp) ?_
  have h := pmay_loop l hl hb l.length 0 (by omega)
  rw [List.drop_zero] at h
  refine Tends.bind h.run ?_
  rw [Bool.true_and]
  cases mayL l <;> exact .ret _
end Go.Vm
