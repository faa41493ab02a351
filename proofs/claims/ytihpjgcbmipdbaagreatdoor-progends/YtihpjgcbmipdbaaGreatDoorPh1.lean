import Derived.Test.YtihpjgcbmipdbaaGreatDoorPj4
import Derived.Lib.SplitLaws
import Derived.Lib.Join
import Derived.Lib.AtoiTie
import Derived.Test.YtihpjgcbmipdbaaGreatDoorFref4
import Derived.Test.YtihpjgcbmipdbaaGreatDoorPj2
/- Cutting at a byte, joining again, numbers and their texts: plainly. No condition. -/
namespace Go.Vm
open Go.Lib (decDigits itoa)
set_option linter.unusedVariables false
set_option linter.unusedSimpArgs false
/-! ### cut at each such byte -/
def splC (d : UInt8) : By → List By
 | [] => [[]]
 | c :: s => if c = d then [] :: splC d s else match splC d s with
  | p :: ps => (c :: p) :: ps
  | [] => [[c]]
theorem splC_nil (d : UInt8) : splC d [] = [[]] := rfl
theorem splC_s (d : UInt8) (s : By) : splC d (d :: s) = [] :: splC d s := by rw [splC, if_pos rfl]
theorem splC_c {d c : UInt8} {s p : By} {ps : List By} (h : c ≠ d) (hs : splC d s = p :: ps) : splC d (c :: s) = (c :: p) :: ps := by rw [splC, if_neg h, hs]
theorem splC_ne (d : UInt8) : ∀ s : By, splC d s ≠ []
 | [] => by simp [splC]
 | c :: s => by
  rw [splC]
  split
  ·simp
  ·split <;> simp
theorem indexD (d : UInt8) (l : By) : Lib.index (d :: l) [d] = ((0 : Nat) : Int) := by rw [Lib.index]; simp [List.isPrefixOf]
theorem indexD_ne {d b : UInt8} {l : By} {j : Nat} (h : b ≠ d) (hj : Lib.index l [d] = (j : Int)) : Lib.index (b :: l) [d] = ((j + 1 : Nat) : Int) := by
 have hp : ([d] : By).isPrefixOf (b :: l) = false := by simp [List.isPrefixOf, Ne.symm h]
 rw [Lib.index, hp, hj]
 have : ¬ ((j : Int) == -1) = true := fun e => by have := beq_iff_eq.1 e; omega
 simp [this]
theorem split_splC (d : UInt8) : ∀ s : By, Lib.split s [d] = splC d s
 | [] => by simp [Lib.split, Lib.count_miss, Lib.index, Lib.splitK, splC]
 | b :: l => by
  have ih := split_splC d l
  unfold Lib.split at ih ⊢
  by_cases hb : b = d
  ·subst hb
   rw [Lib.count_cons_eq, splC_s, Nat.add_comm, Lib.splitK, indexD]
   rw [if_neg (by simp)]
   simpa using ih
  ·rw [Lib.count_cons_ne b d l hb]
   by_cases hm : Lib.index l [d] = -1
   ·rw [Lib.count_miss hm] at ih ⊢
    rw [Lib.splitK] at ih ⊢
    exact (splC_c hb ih.symm).symm
   ·have hge := Lib.index_ge l [d]
    obtain ⟨j, hj⟩ : ∃ j : Nat, Lib.index l [d] = j := ⟨(Lib.index l [d]).toNat, by omega⟩
    have hc := Lib.count_hit (s := l) (sub := [d]) (by simp) hj
    generalize Lib.count (l.drop (j + [d].length)) [d] = k at hc
    rw [hc, Nat.add_comm, Lib.splitK, hj, if_neg (fun e => by have := beq_iff_eq.1 e; omega)] at ih
    rw [hc, Nat.add_comm, Lib.splitK, indexD_ne hb hj, if_neg (fun e => by have := beq_iff_eq.1 e; omega)]
    rw [splC_c hb ih.symm]
    simp
theorem splC_len (d : UInt8) : ∀ s : By, (splC d s).length ≤ s.length + 1 ∧ ∀ p ∈ splC d s, p.length ≤ s.length
 | [] => ⟨Nat.le_refl _, fun p hp => by
  rw [splC_nil, List.mem_singleton] at hp
  subst hp
  exact Nat.le_refl _⟩
 | c :: s => by
  obtain ⟨h1, h2⟩ := splC_len d s
  by_cases hc : c = d
  ·subst hc
   rw [splC_s]
   refine ⟨by rw [List.length_cons, List.length_cons]; omega, fun p hp => ?_⟩
   rcases List.mem_cons.1 hp with rfl | hp
   ·exact Nat.zero_le _
   ·have := h2 p hp
    rw [List.length_cons]; omega
  ·cases hx : splC d s with
   | nil => exact absurd hx (splC_ne d s)
   | cons q qs =>
    rw [splC_c hc hx]
    rw [hx] at h1 h2
    rw [List.length_cons] at h1
    refine ⟨by rw [List.length_cons, List.length_cons]; omega, fun p hp => ?_⟩
    rcases List.mem_cons.1 hp with rfl | hp
    ·have := h2 q (List.mem_cons_self ..)
     rw [List.length_cons, List.length_cons]; omega
    ·have := h2 p (List.mem_cons_of_mem _ hp)
     rw [List.length_cons]; omega
def joinD (d : UInt8) : List By → By
 | [] => []
 | [p] => p
 | p :: q :: r => p ++ d :: joinD d (q :: r)
theorem joinD_cons (d : UInt8) (p : By) {r : List By} (h : r ≠ []) : joinD d (p :: r) = p ++ d :: joinD d r := by
 cases r with
 | nil => exact absurd rfl h
 | cons q r => rfl
theorem splC_app {d : UInt8} {p : By} (hp : ∀ b ∈ p, b ≠ d) (s : By) : splC d (p ++ d :: s) = p :: splC d s := by
 induction p with
 | nil => exact splC_s d s
 | cons c p ih => exact splC_c (hp c (List.mem_cons_self ..)) (ih fun b hb => hp b (List.mem_cons_of_mem _ hb))
theorem splC_none {d : UInt8} {p : By} (hp : ∀ b ∈ p, b ≠ d) : splC d p = [p] := by
 induction p with
 | nil => rfl
 | cons c p ih => exact splC_c (hp c (List.mem_cons_self ..)) (ih fun b hb => hp b (List.mem_cons_of_mem _ hb))
theorem splC_join {d : UInt8} : ∀ l : List By, l ≠ [] → (∀ p ∈ l, ∀ b ∈ p, b ≠ d) → splC d (joinD d l) = l
 | [], h, _ => absurd rfl h
 | [p], _, h => splC_none (h p (List.mem_cons_self ..))
 | p :: q :: r, _, h => by
  rw [joinD_cons d p (by simp), splC_app (h p (List.mem_cons_self ..)), splC_join (q :: r) (by simp) fun x hx => h x (List.mem_cons_of_mem _ hx)]
/-! ### cut once -/
theorem cut_hit {d : UInt8} {p : By} (hp : ∀ b ∈ p, b ≠ d) (s : By) : Lib.cut (p ++ d :: s) [d] = (p, s, true) := by
 have hi : Lib.index (p ++ d :: s) [d] = (p.length : Int) := by
  induction p with
  | nil => exact indexD d s
  | cons c p ih => exact indexD_ne (hp c (List.mem_cons_self ..)) (ih fun b hb => hp b (List.mem_cons_of_mem _ hb))
 unfold Lib.cut
 rw [hi, if_pos (by omega)]
 simp
theorem index_miss {d : UInt8} {p : By} (hp : ∀ b ∈ p, b ≠ d) : Lib.index p [d] = -1 := by
 refine Lib.index_none fun j hj => ?_
 cases h : Lib.occAt p [d] j with
 | false => rfl
 | true =>
  have := Lib.occAt_head (c := d) (t := []) rfl h
  exact absurd rfl (hp d (List.mem_of_getElem? this))
theorem cut_miss {d : UInt8} {p : By} (hp : ∀ b ∈ p, b ≠ d) : Lib.cut p [d] = (p, [], false) := by
 unfold Lib.cut
 rw [index_miss hp, if_neg (by decide)]
theorem itoa_nat (n : Nat) : itoa (n : Int) = decDigits n := by unfold itoa; rw [if_neg (by omega), Int.toNat_natCast]
theorem itoa_dig (n : Nat) : ∀ c ∈ itoa (n : Int), isDig c = true := by rw [itoa_nat]; exact (dec_facts n).1
theorem itoa_ne (n : Nat) : itoa (n : Int) ≠ [] := by
 rw [itoa_nat]
 obtain ⟨c, q, hc, _⟩ := dec_head n
 rw [hc]; simp
end Go.Vm
/- Sorts of signs, plainly. No condition. -/
namespace Go.Vm
set_option linter.unusedVariables false
set_option linter.unusedSimpArgs false
theorem among_eq (F : Nat) (r a b c : Int) : M_sign_among F (r, a, b, c) = some (decide (a ≤ r ∧ r ≤ b ∧ r ≠ c)) := by
 unfold M_sign_among
 simp only [bind_ite, Option.bind_some, decide_eq_true_eq]
 repeat' split
 all_goals (rw [Option.some.injEq, Bool.eq_iff_iff]; simp only [Bool.not_eq_true', decide_eq_true_eq, decide_eq_false_iff_not, Bool.false_eq_true, true_iff, false_iff]; first | omega | (simp_all; done))
theorem valid_eq (F : Nat) (r : Int) : M_unicode_utf8_ValidRune F r = some (decide (0 ≤ r ∧ (r < 55296 ∨ 57343 < r) ∧ r ≤ 1114111)) := by
 unfold M_unicode_utf8_ValidRune
 simp only [bind_ite, Option.bind_some, decide_eq_true_eq, Bool.false_eq_true, if_false]
 repeat' split
 all_goals (rw [Option.some.injEq, Bool.eq_iff_iff]; simp only [Bool.not_eq_true', decide_eq_true_eq, decide_eq_false_iff_not, Bool.false_eq_true, true_iff, false_iff]; omega)
theorem control_eq (F : Nat) (r : Int) : M_sign_control F r = some (decide (r < 32 ∨ (127 ≤ r ∧ r ≤ 159) ∨ r = 65533 ∨ (55296 ≤ r ∧ r ≤ 57343) ∨ 1114111 < r)) := by
 unfold M_sign_control
 simp only [among_eq, valid_eq, bind_ite, Option.bind_some, decide_eq_true_eq, decide_eq_false_iff_not, Bool.true_eq_false, if_false]
 repeat' split
 all_goals (rw [Option.some.injEq, Bool.eq_iff_iff]; simp only [Bool.not_eq_true', decide_eq_true_eq, decide_eq_false_iff_not, Bool.false_eq_true, true_iff, false_iff]; omega)
theorem blank_eq (F : Nat) (r : Int) : M_sign_blank F r = some (decide (r = 32 ∨ r = 160 ∨ (8192 ≤ r ∧ r ≤ 8202) ∨ r = 12288)) := by
 unfold M_sign_blank
 simp only [among_eq, valid_eq, bind_ite, Option.bind_some, decide_eq_true_eq, decide_eq_false_iff_not, Bool.true_eq_false, if_false]
 repeat' split
 all_goals (rw [Option.some.injEq, Bool.eq_iff_iff]; simp only [Bool.not_eq_true', decide_eq_true_eq, decide_eq_false_iff_not, Bool.false_eq_true, true_iff, false_iff]; omega)
theorem letter_eq (F : Nat) (r : Int) : M_sign_letter F r = some (decide ((65 ≤ r ∧ r ≤ 90) ∨ (97 ≤ r ∧ r ≤ 122) ∨ (192 ≤ r ∧ r ≤ 591 ∧ r ≠ 215 ∧ r ≠ 247) ∨ (913 ≤ r ∧ r ≤ 969 ∧ r ≠ 930))) := by
 unfold M_sign_letter
 simp only [among_eq, some_ite, prod_ite, ite_self, Option.bind_some, Bool.if_true_right, Bool.if_true_left, Bool.if_false_left, Bool.if_false_right, Option.some.injEq]
 rw [Bool.eq_iff_iff]
 simp
 omega
def sortI (n : Int) : Int :=
 if n < 32 ∨ (127 ≤ n ∧ n ≤ 159) ∨ n = 65533 ∨ (55296 ≤ n ∧ n ≤ 57343) ∨ 1114111 < n then 0
 else if n = 32 ∨ n = 160 ∨ (8192 ≤ n ∧ n ≤ 8202) ∨ n = 12288 then 1
 else if 48 ≤ n ∧ n ≤ 57 then 2
 else if (65 ≤ n ∧ n ≤ 90) ∨ (97 ≤ n ∧ n ≤ 122) ∨ (192 ≤ n ∧ n ≤ 591 ∧ n ≠ 215 ∧ n ≠ 247) ∨ (913 ≤ n ∧ n ≤ 969 ∧ n ≠ 930) then 3 else 4
theorem sort_eq (F : Nat) (r : Int) : M_sign_Sort F r = some (sortI r) := by
 unfold M_sign_Sort sortI
 simp only [control_eq, blank_eq, among_eq, letter_eq, Option.bind_some, decide_eq_true_eq]
 repeat' split
 all_goals first | rfl | omega
theorem refSort_eq (F : Nat) (n : Int) : M_conciergeref04_Sort F n = some (sortI n) := by
 unfold M_conciergeref04_Sort sortI
 simp only [some_ite, prod_ite, ite_self, Option.bind_some, Option.some.injEq]
 simp only [Bool.if_true_right, Bool.if_true_left, Bool.if_false_left, Bool.if_false_right, Bool.and_eq_true, Bool.or_eq_true, Bool.not_eq_true', decide_eq_true_eq, decide_eq_false_iff_not]
 simp
 repeat' split
 all_goals first | rfl | omega
end Go.Vm
/- Phrases, plainly: names, gaps, pieces sign by sign and byte by byte. No condition. -/
namespace Go.Vm
open Go.Lib (decodeL decodeN decodeL_N decode_N decodeN_shape decodeL_le)
set_option linter.unusedVariables false
set_option linter.unusedSimpArgs false
def isNm (c : UInt8) : Bool := (decide (97 ≤ c.toNat) && decide (c.toNat ≤ 122)) || (decide (48 ≤ c.toNat) && decide (c.toNat ≤ 57))
def nmP (s : By) : Bool := s.all isNm && decide (1 ≤ s.length) && decide (s.length ≤ 12)
def gapN (s : By) : Nat := match s with
 | _ :: b :: r => if b = 37 ∨ b = 98 ∨ b = 107 ∨ b = 109 ∨ b = 112 then 2 else if b = 123 then
   (if (r.takeWhile (fun c => c != 125)).length < r.length ∧ nmP (r.takeWhile (fun c => c != 125)) = true then (r.takeWhile (fun c => c != 125)).length + 3 else 0) else 0
 | _ => 0
theorem gapN_le (s : By) : gapN s ≤ s.length := by
 unfold gapN
 split
 ·rename_i a b r
  split
  ·simp
  ·split
   ·split
    ·rename_i h
     simp only [List.length_cons]
     omega
    ·omega
   ·omega
 ·omega
theorem gapN_one (s : By) : gapN s ≠ 1 := by
 unfold gapN
 split
 ·split
  ·decide
  ·split
   ·split <;> omega
   ·decide
 ·decide
def plnB (b : UInt8) : Prop := 33 ≤ b.toNat ∧ b.toNat ≤ 126
theorem take_more (a : By) (x : UInt8) (t : By) : (a ++ x :: t).take (a.length + 1) = a ++ [x] := by
 rw [List.take_append, List.take_of_length_le (by omega), show a.length + 1 - a.length = 1 by omega]
 rfl
theorem gapN_bytes (r : By) : ∀ b ∈ (37 :: r : By).take (gapN (37 :: r)), plnB b := by
 unfold gapN
 split
 ·rename_i a c q heq
  injection heq with h1 h2
  subst h1; subst h2
  split
  ·rename_i hc
   intro b hb
   simp only [List.take_succ_cons, List.take_zero] at hb
   rcases List.mem_cons.1 hb with rfl | hb
   ·exact ⟨by decide, by decide⟩
   ·rw [List.mem_singleton] at hb
    subst hb
    rcases hc with rfl | rfl | rfl | rfl | rfl <;> exact ⟨by decide, by decide⟩
  ·split
   ·rename_i hb123
    subst hb123
    split
    ·rename_i hk
     obtain ⟨hk, hnm⟩ := hk
     intro b hb
     have hdec : q = q.takeWhile (fun c => c != 125) ++ q.dropWhile (fun c => c != 125) := (List.takeWhile_append_dropWhile ..).symm
     have hne : q.dropWhile (fun c => c != 125) ≠ [] := by
      intro hh
      rw [hh, List.append_nil] at hdec
      have := congrArg List.length hdec
      omega
     obtain ⟨x, t, hx⟩ := List.exists_cons_of_ne_nil hne
     have hx125 : x = 125 := by
      have := List.head_dropWhile_not (fun c => c != 125) hne
      simp only [hx, List.head_cons] at this
      simpa using this
     have htk : (37 :: 123 :: q : By).take ((q.takeWhile (fun c => c != 125)).length + 3) = 37 :: 123 :: (q.takeWhile (fun c => c != 125) ++ [x]) := by
      rw [show (q.takeWhile (fun c => c != 125)).length + 3 = ((q.takeWhile (fun c => c != 125)).length + 1) + 1 + 1 by omega, List.take_succ_cons, List.take_succ_cons]
      congr 2
      exact (congrArg (List.take _) (hdec.trans (by rw [hx]))).trans (take_more _ _ _)
     rw [htk] at hb
     unfold nmP at hnm
     simp only [Bool.and_eq_true] at hnm
     rcases List.mem_cons.1 hb with rfl | hb
     ·exact ⟨by decide, by decide⟩
     rcases List.mem_cons.1 hb with rfl | hb
     ·exact ⟨by decide, by decide⟩
     rcases List.mem_append.1 hb with hb | hb
     ·have := List.all_eq_true.1 hnm.1.1 b hb
      simp [isNm] at this
      unfold plnB
      omega
     ·rw [List.mem_singleton] at hb
      subst hb
      subst hx125
      exact ⟨by decide, by decide⟩
    ·intro b hb; rw [List.take_zero] at hb; cases hb
   ·intro b hb; rw [List.take_zero] at hb; cases hb
 ·intro b hb; rw [List.take_zero] at hb; cases hb
end Go.Vm
