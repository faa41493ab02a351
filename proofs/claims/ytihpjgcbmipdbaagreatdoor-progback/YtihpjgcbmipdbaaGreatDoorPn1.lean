import Derived.Test.YtihpjgcbmipdbaaGreatDoorFprog
import Derived.Test.YtihpjgcbmipdbaaGreatDoorPsx
import Derived.Lib.AtoiAllCases
import Derived.Test.YtihpjgcbmipdbaaGreatDoorFref23
import Derived.Test.YtihpjgcbmipdbaaGreatDoorFlaw23s
import Derived.Test.YtihpjgcbmipdbaaGreatDoorPh1
import Derived.Test.YtihpjgcbmipdbaaGreatDoorFprog2
import Derived.Test.YtihpjgcbmipdbaaGreatDoorFref23b
/- Programs: the program's functions are the plain ones. No condition but on lengths. -/
namespace Go.Vm
open Go.Proofs
open Go.Lib (decDigits itoa)
set_option linter.unusedVariables false
set_option linter.unusedSimpArgs false
/-! ### cutting -/
theorem index_t (F : Nat) (s c : By) (h : s.length ≤ 4294967280) : M_internal_stringslite_Index F (s, c) = some (Lib.index s c) := by
 unfold M_internal_stringslite_Index MIndex
 exact if_pos (decide_eq_true h)
theorem cut_len (s d : By) : (Lib.cut s d).1.length ≤ s.length ∧ (Lib.cut s d).2.1.length ≤ s.length := by
 unfold Lib.cut
 split
 ·exact ⟨by simp only [List.length_take]; omega, by simp only [List.length_drop]; omega⟩
 ·exact ⟨Nat.le_refl _, Nat.zero_le _⟩
theorem cut_eq (F : Nat) (s d : By) (h : s.length ≤ 1000000) (hd : d.length ≤ 1000) : M_strings_Cut F (s, d) = some (Lib.cut s d) := by
 unfold M_strings_Cut M_internal_stringslite_Cut
 simp only [index_t F s d (by omega), Option.bind_some]
 have hr := Lib.index_room s d
 have hg := Lib.index_ge s d
 by_cases h0 : 0 ≤ Lib.index s d
 ·obtain ⟨i, hi⟩ : ∃ i : Nat, Lib.index s d = i := ⟨(Lib.index s d).toNat, by omega⟩
  have hr' := hr h0
  rw [hi] at hr'
  have s1 : sub s 0 (i : Int) = some (s.take i) := by
   have := sub_nat s 0 i (Nat.zero_le _) (by omega)
   simpa using this
  have s2 : sub s ((i + d.length : Nat) : Int) (s.length : Int) = some (s.drop (i + d.length)) := sub_to_end s _ (by omega)
  have hw : IntKind.i64.wrap ((i : Int) + (d.length : Int)) = ((i + d.length : Nat) : Int) := by rw [wrap64 _ (by omega) (by omega)]; omega
  have e : Lib.cut s d = (s.take i, s.drop (i + d.length), true) := by
   unfold Lib.cut
   rw [hi, if_pos (by omega), Int.toNat_natCast]
  rw [hi, if_pos (by rw [decide_eq_true_eq]; omega), e]
  simp only [s1, hw, s2, Option.bind_some]
 ·have e : Lib.cut s d = (s, [], false) := by unfold Lib.cut; rw [if_neg h0]
  rw [if_neg (by rw [decide_eq_true_eq]; exact h0), e]
  rfl
theorem pre_hit (F : Nat) (t : By) (h : t.length ≤ 1000000) : M_strings_CutPrefix F (32 :: t, [32]) = some (t, true) := by
 unfold M_strings_CutPrefix M_internal_stringslite_CutPrefix M_internal_stringslite_HasPrefix
 have s0 : sub (32 :: t : By) 0 (([32] : By).length : Int) = some [32] := by
  have := sub_nat (32 :: t : By) 0 1 (by omega) (by simp)
  exact this
 have s1 : sub (32 :: t : By) (([32] : By).length : Int) ((32 :: t : By).length : Int) = some t := sub_to_end (32 :: t : By) 1 (by simp)
 rw [if_pos (by rw [decide_eq_true_eq]; simp only [List.length_cons, List.length_nil]; omega)]
 simp only [s0, Option.bind_some, decide_true, Bool.not_true, Bool.false_eq_true, if_false, s1]
theorem pre_miss (F : Nat) (x : By) (h : ∀ t, x ≠ 32 :: t) : M_strings_CutPrefix F (x, [32]) = some (x, false) := by
 unfold M_strings_CutPrefix M_internal_stringslite_CutPrefix M_internal_stringslite_HasPrefix
 cases x with
 | nil => rfl
 | cons c t =>
  have s0 : sub (c :: t : By) 0 (([32] : By).length : Int) = some [c] := by
   have := sub_nat (c :: t : By) 0 1 (by omega) (by simp)
   exact this
  have hc : ¬ ([c] : By) = [32] := by
   intro hh
   injection hh with hh _
   exact h t (by rw [hh])
  rw [if_pos (by rw [decide_eq_true_eq]; simp only [List.length_cons, List.length_nil]; omega)]
  simp only [s0, Option.bind_some, decide_eq_false hc, Bool.not_false, if_true]
/-! ### numbers, phases -/
theorem pnumber_t (F : Nat) (s : By) (h : s.length ≤ 1000000) : M_prog_number F s = some (numG s) := by
 unfold M_prog_number numG
 cases hx : Lib.atoiAll s with
 | ok n =>
  have ha : M_strconv_AtoiA F s = some (n, false) := by
   unfold M_strconv_AtoiA MAtoiA
   rw [if_pos (decide_eq_true (by omega)), hx]
  obtain ⟨b1, b2⟩ := Lib.atoiAll_bounds hx
  have hi : M_strconv_Itoa F n = some (itoa n) := by
   unfold M_strconv_Itoa MItoa
   rw [if_pos (decide_eq_true b1), if_pos (decide_eq_true b2)]
  simp only [ha, Option.bind_some, Bool.not_false, Bool.not_true, if_true]
  by_cases c1 : n < 1
  ·simp [c1]
  ·by_cases c2 : itoa n = s
   ·simp [c1, c2, hi]
   ·simp [c1, c2, hi]
 | range =>
  have ha : M_strconv_AtoiA F s = some (Lib.atoiSat s, true) := by
   unfold M_strconv_AtoiA MAtoiA
   rw [if_pos (decide_eq_true (by omega)), hx]
  simp [ha]
 | _ =>
  have ha : M_strconv_AtoiA F s = some (0, true) := by
   unfold M_strconv_AtoiA MAtoiA
   rw [if_pos (decide_eq_true (by omega)), hx]
  simp [ha]
theorem read_eq (F : Nat) (s : By) (h : s.length ≤ 100000) : M_prog_read F s = some (readG s) := by
 unfold M_prog_read readG
 have hl := (cut_len s [32]).2
 simp only [cut_eq F s [32] (by omega) (by decide), Option.bind_some]
 generalize Lib.cut s [32] = c at hl
 obtain ⟨kind, rest, more⟩ := c
 simp only at hl ⊢
 have hl2 := cut_len rest [32]
 cases more with
 | false => rfl
 | true =>
  simp only [Bool.not_true, Bool.false_eq_true, if_false, Bool.true_eq_false]
  by_cases k1 : kind = wOnly
  ·rw [if_pos (decide_eq_true k1), if_pos k1, pnumber_t F rest (by omega)]
   rfl
  rw [if_neg (by rw [decide_eq_true_eq]; exact k1), if_neg k1, cut_eq F rest [32] (by omega) (by decide)]
  simp only [Option.bind_some]
  generalize Lib.cut rest [32] = d at hl2
  obtain ⟨one, behind, mo⟩ := d
  simp only at hl2 ⊢
  have hb : (if decide (behind = []) = true then some ((), kind, one, behind, !decide (one = rest), z23, ()) else some ((), kind, one, behind, false, z23, ()) : Option (Unit × By × By × By × Bool × PhT × Unit)) = some ((), kind, one, behind, decide (behind = [] ∧ one ≠ rest), z23, ()) := by
   by_cases b1 : behind = []
   ·rw [if_pos (decide_eq_true b1)]
    by_cases b2 : one = rest <;> simp [b1, b2]
   ·rw [if_neg (by rw [decide_eq_true_eq]; exact b1)]
    simp [b1]
  rw [hb, Option.bind_some]
  simp only
  by_cases b3 : behind = [] ∧ one ≠ rest
  ·rw [if_pos (decide_eq_true b3), if_pos b3]
  rw [if_neg (by rw [decide_eq_true_eq]; exact b3), if_neg b3]
  by_cases k2 : kind = wNeed
  ·rw [if_pos (decide_eq_true k2), if_pos k2, pnumber_t F behind (by omega)]
   rfl
  rw [if_neg (by rw [decide_eq_true_eq]; exact k2), if_neg k2]
  by_cases k3 : kind = wCall
  ·rw [if_pos (decide_eq_true k3), if_pos k3]
  rw [if_neg (by rw [decide_eq_true_eq]; exact k3), if_neg k3]
  by_cases k4 : kind = wEnd
  ·rw [if_pos (decide_eq_true k4), if_pos k4, pnumber_t F one (by omega)]
   rfl
  rw [if_neg (by rw [decide_eq_true_eq]; exact k4), if_neg k4]
theorem idx59 (x : By) : decide (Lib.indexByte x 59 < 0) = x.all (fun c => c != 59) := by
 have hg := Lib.indexByte_ge x 59
 by_cases h : Lib.indexByte x 59 < 0
 ·rw [decide_eq_true h]
  have hm : Lib.indexByte x 59 = -1 := by omega
  symm
  rw [List.all_eq_true]
  intro c hc
  obtain ⟨k, hk⟩ := List.getElem?_of_mem hc
  have := Lib.indexByte_none hm k
  rw [bne_iff_ne]
  rintro rfl
  exact this hk
 ·rw [decide_eq_false h]
  obtain ⟨o, ho⟩ : ∃ o : Nat, Lib.indexByte x 59 = o := ⟨(Lib.indexByte x 59).toNat, by omega⟩
  have h1 := (Lib.indexByte_some ho).1
  symm
  rw [List.all_eq_false]
  exact ⟨59, List.mem_of_getElem? h1, by decide⟩
theorem ptext_t (x : By) (hx : x.length ≤ 1000) : Tends (fun F => M_prog_text F x) (textG x) := by
 unfold M_prog_text textG
 have hi : ∀ F, M_strings_IndexByte F (x, 59) = some (Lib.indexByte x 59) := fun F => rfl
 have h9 := idx59 x
 by_cases h : Lib.indexByte x 59 < 0
 ·rw [decide_eq_true h] at h9
  rw [← h9, Bool.true_and]
  refine Tends.bind (r := ((checkT x, ()) : Bool × Unit)) (Tends.bind (.of hi) (Tends.pos (decide_eq_true h) (Tends.bind (check_v x hx) (.ret _)))) (.ret _)
 ·rw [decide_eq_false h] at h9
  rw [← h9, Bool.false_and]
  refine Tends.bind (r := ((false, ()) : Bool × Unit)) (Tends.bind (.of hi) (Tends.neg (by rw [decide_eq_true_eq]; exact h) (.ret _))) (.ret _)
def bndP (p : PhT) : Prop := p.2.1.length ≤ 1000 ∧ p.2.2.2.1.length ≤ 1000
theorem right_t (p : PhT) (hp : bndP p) : Tends (fun F => M_prog_right F p) (rightG p) := by
 obtain ⟨k, nm, n, t, u⟩ := p
 obtain ⟨hn, ht⟩ := hp
 simp only at hn ht
 unfold M_prog_right rightG
 simp only
 by_cases k1 : k = 1
 ·rw [if_pos k1]
  refine Tends.pos (decide_eq_true k1) (.of fun F => ?_)
  by_cases c1 : 1 ≤ n
  ·by_cases c2 : n ≤ 80
   ·have hlen : nm.length + t.length ≤ 9223372036854775807 := by omega
    rw [if_pos (decide_eq_true c1)]
    simp only [Option.bind_some, decide_eq_true c2, if_true, decide_eq_true hlen]
    by_cases c3 : nm = [] <;> by_cases c4 : t = [] <;> simp [c1, c3, c4]
   ·simp [c1, c2]
  ·simp [c1]
 rw [if_neg k1]
 refine Tends.neg (by rw [decide_eq_true_eq]; exact k1) ?_
 by_cases k2 : k = 2
 ·rw [if_pos k2]
  refine Tends.pos (decide_eq_true k2) (.of fun F => ?_)
  simp only [name_eq]
  by_cases c1 : 1 ≤ n
  ·by_cases c2 : n ≤ 1073741824
   ·cases hnm : nmP nm <;> simp [c1, c2, hnm]
   ·simp [c1, c2]
  ·simp [c1]
 rw [if_neg k2]
 refine Tends.neg (by rw [decide_eq_true_eq]; exact k2) ?_
 by_cases k3 : k = 3
 ·rw [if_pos k3]
  refine Tends.pos (decide_eq_true k3) ?_
  refine Tends.bind (r := (((), decide (n = 0) && nmP nm, (k, nm, n, t, ()), ()) : Unit × Bool × PhT × Unit)) (.of fun F => by
   simp only [name_eq]
   by_cases c1 : n = 0 <;> simp [c1]) ?_
  refine Tends.bind (r := (((decide (n = 0) && nmP nm) && textG t, ()) : Bool × Unit)) ?_ (.ret _)
  cases hb : (decide (n = 0) && nmP nm) with
  | true => exact Tends.pos rfl (Tends.bind (ptext_t t ht) (.ret _))
  | false => exact Tends.neg Bool.false_ne_true (.ret _)
 rw [if_neg k3]
 refine Tends.neg (by rw [decide_eq_true_eq]; exact k3) ?_
 by_cases k4 : k = 4
 ·rw [if_pos k4]
  refine Tends.pos (decide_eq_true k4) ?_
  refine Tends.bind (r := (((), decide (n = 200) || decide (n = 201), (k, nm, n, t, ()), ()) : Unit × Bool × PhT × Unit)) (.of fun F => by
   by_cases c1 : n = 200 <;> simp [c1]) ?_
  refine Tends.bind (r := (((), (decide (n = 200) || decide (n = 201)) && decide (nm = []), (k, nm, n, t, ()), ()) : Unit × Bool × PhT × Unit)) (.of fun F => by
   cases hb : (decide (n = 200) || decide (n = 201)) <;> simp [hb]) ?_
  refine Tends.bind (r := ((((decide (n = 200) || decide (n = 201)) && decide (nm = [])) && textG t, ()) : Bool × Unit)) ?_ (.ret _)
  cases hb : ((decide (n = 200) || decide (n = 201)) && decide (nm = [])) with
  | true => exact Tends.pos rfl (Tends.bind (ptext_t t ht) (.ret _))
  | false => exact Tends.neg Bool.false_ne_true (.ret _)
 ·rw [if_neg k4]
  exact Tends.neg (by rw [decide_eq_true_eq]; exact k4) (.ret _)
theorem drop_nil_iff {α : Type} (l : List α) (i : Nat) (h : i < l.length) : (l.drop (i + 1) = []) ↔ i = l.length - 1 := by
 rw [List.drop_eq_nil_iff]
 omega
theorem pmay_loop (l : List PhT) (hl : l.length ≤ 1000000) (hb : ∀ p ∈ l, bndP p) : ∀ (n i : Nat), i + n = l.length → TendsL M_prog_May_l0 (l, l, (l.length : Int), (i : Int), ()) (if mayL (l.drop i) = true then .inl () else .inr (false, ()))
 | 0, i, h => by
  refine TendsL.fin (.of fun F => ?_)
  unfold M_prog_May_l0
  rw [if_neg (by rw [decide_eq_true_eq]; simp only; omega), List.drop_eq_nil_of_le (by omega)]
  rfl
 | n + 1, i, h => by
  have hi : i < l.length := by omega
  have hx : idx l (i : Int) = some l[i] := idx_at _ _ _ (List.getElem?_eq_getElem hi)
  have hw : IntKind.i64.wrap ((i : Int) + 1) = ((i + 1 : Nat) : Int) := by rw [wrap64 _ (by omega) (by omega)]; omega
  have hw1 : IntKind.i64.wrap ((l.length : Int) - 1) = ((l.length - 1 : Nat) : Int) := by rw [wrap64 _ (by omega) (by omega)]; omega
  have ih := pmay_loop l hl hb n (i + 1) (by omega)
  have hr := right_t l[i] (hb _ (List.getElem_mem hi))
  have hd := drop_nil_iff l i hi
  rw [List.drop_eq_getElem_cons hi]
  generalize l[i] = p at *
  have hk : decide (l.drop (i + 1) = []) = decide ((i : Int) = ((l.length - 1 : Nat) : Int)) := by
   rw [Bool.eq_iff_iff, decide_eq_true_eq, decide_eq_true_eq, hd]; omega
  have e : mayL (p :: l.drop (i + 1)) = (rightG p && (decide (p.1 = 4) == decide ((i : Int) = ((l.length - 1 : Nat) : Int))) && mayL (l.drop (i + 1))) := by rw [← hk]; rfl
  rw [e]
  have hbody : Tends (fun F => M_prog_May_l0 F (l, l, (l.length : Int), (i : Int), ())) (if (rightG p && (decide (p.1 = 4) == decide ((i : Int) = ((l.length - 1 : Nat) : Int)))) = true then .inl (l, l, (l.length : Int), ((i + 1 : Nat) : Int), ()) else .inr (.inr (false, ()))) := by
   unfold M_prog_May_l0
   refine Tends.pos (by rw [decide_eq_true_eq]; simp only; omega) ?_
   refine Tends.bind (.of fun F => hx) ?_
   refine Tends.bind (r := ((l, l, (l.length : Int), (i : Int), !(rightG p && (decide (p.1 = 4) == decide ((i : Int) = ((l.length - 1 : Nat) : Int)))), ()) : List PhT × List PhT × Int × Int × Bool × Unit)) (Tends.bind hr ?_) ?_
   ·cases hrp : rightG p with
    | true => exact .of fun F => by simp [hw1]
    | false => exact .of fun F => by simp
   ·cases hrp : (rightG p && (decide (p.1 = 4) == decide ((i : Int) = ((l.length - 1 : Nat) : Int)))) with
    | true => exact Tends.neg (by simp) (.of fun F => by simp [hw])
    | false => exact Tends.pos (by simp) (.of fun F => by simp)
  cases hrp : (rightG p && (decide (p.1 = 4) == decide ((i : Int) = ((l.length - 1 : Nat) : Int)))) with
  | true =>
   rw [hrp, if_pos rfl] at hbody
   rw [Bool.true_and]
   exact TendsL.step hbody ih
  | false =>
   rw [hrp, if_neg Bool.false_ne_true] at hbody
   rw [Bool.false_and, if_neg Bool.false_ne_true]
   exact TendsL.fin hbody
theorem pmay_t (l : List PhT) (hl : l.length ≤ 1000000) (hb : ∀ p ∈ l, bndP p) : Tends (fun F => M_prog_May F l) (mayG l) := by
 unfold M_prog_May mayG
 refine Tends.bind (r := ((l, !(decide (1 ≤ l.length) && decide (l.length ≤ 5)), ()) : List PhT × Bool × Unit)) (.of fun F => ?_) ?_
 ·by_cases h0 : l.length = 0
  ·rw [if_neg (by rw [decide_eq_true (by omega)]; decide), decide_eq_false (by omega)]
   rfl
  ·rw [if_pos (decide_eq_false (by omega)), decide_eq_true (by omega : 1 ≤ l.length), Bool.true_and]
   by_cases h5 : l.length ≤ 5
   ·rw [decide_eq_false (by omega), decide_eq_true h5]; rfl
   ·rw [decide_eq_true (by omega), decide_eq_false h5]; rfl
 cases hc : (decide (1 ≤ l.length) && decide (l.length ≤ 5)) with
 | false => exact Tends.pos rfl (.ret _)
 | true =>
  refine Tends.neg (by simp) ?_
  have h := pmay_loop l hl hb l.length 0 (by omega)
  rw [List.drop_zero] at h
  refine Tends.bind h.run ?_
  rw [Bool.true_and]
  cases mayL l <;> exact .ret _
end Go.Vm
/- Programs: what the program prints and parses is the plain one. No condition but on lengths. -/
namespace Go.Vm
open Go.Proofs
open Go.Lib (decDigits itoa)
set_option linter.unusedVariables false
set_option linter.unusedSimpArgs false
theorem join_eq (F : Nat) (l : List By) (d : By) (h : l.length ≤ 1000000) (hj : (Lib.join l d).length ≤ 1000000000) : M_strings_Join F (l, d) = some (Lib.join l d) := by
 unfold M_strings_Join MJoin
 rw [if_pos (decide_eq_true (by simp only; omega)), if_pos (decide_eq_true (by simp only; omega))]
theorem join2 (a b d : By) : Lib.join [a, b] d = a ++ (d ++ b) := by rw [Lib.join_cons]; simp [Lib.joinTail]
theorem join3 (a b c d : By) : Lib.join [a, b, c] d = a ++ (d ++ (b ++ (d ++ c))) := by rw [Lib.join_cons]; simp [Lib.joinTail]
theorem last2 (a b : By) : IntKind.i64.wrap ((([a, b] : List By).length : Int) - 1) = 1 := by
 simp only [List.length_cons, List.length_nil]
 rw [wrap64 _ (by omega) (by omega)]
 rfl
theorem last3 (a b c : By) : IntKind.i64.wrap ((([a, b, c] : List By).length : Int) - 1) = 2 := by
 simp only [List.length_cons, List.length_nil]
 rw [wrap64 _ (by omega) (by omega)]
 rfl
theorem nm_len {s : By} (h : nmP s = true) : s.length ≤ 12 := by
 unfold nmP at h
 simp only [Bool.and_eq_true, decide_eq_true_eq] at h
 exact h.2
theorem textG_len {s : By} (h : textG s = true) : s.length ≤ 60 := by
 unfold textG checkT at h
 simp only [Bool.and_eq_true, decide_eq_true_eq] at h
 exact h.2.1
theorem small_itoa (n : Nat) (h : n ≤ 1073741824) : (itoa (n : Int)).length ≤ 10 := (itoa_len n 10 (by decide) (by omega)).1
theorem tailG_len (s : By) : (tailG s).length ≤ s.length + 1 := by
 unfold tailG
 split
 ·exact Nat.zero_le _
 ·rw [List.length_cons]; omega
theorem text_len_ok {p : PhT} (h : rightG p = true) : (phText p).length ≤ 100 := by
 rcases right_cases h with ⟨n, rfl, h1, h2⟩ | ⟨nm, n, rfl, h3, h1, h2⟩ | ⟨nm, t, rfl, h2, h3⟩ | ⟨n, t, rfl, h1, h3⟩
 ·have := small_itoa n (by omega)
  show (wOnly ++ 32 :: itoa (n : Int)).length ≤ 100
  simp only [List.length_append, List.length_cons, List.length_nil]
  omega
 ·have := small_itoa n h2
  have := nm_len h3
  show (wNeed ++ 32 :: (nm ++ 32 :: itoa (n : Int))).length ≤ 100
  simp only [List.length_append, List.length_cons, List.length_nil]
  omega
 ·have := nm_len h2
  have := textG_len h3
  have := tailG_len t
  show (wCall ++ 32 :: (nm ++ tailG t)).length ≤ 100
  simp only [List.length_append, List.length_cons, List.length_nil]
  omega
 ·have := small_itoa n (by omega)
  have := textG_len h3
  have := tailG_len t
  show (wEnd ++ 32 :: (itoa (n : Int) ++ tailG t)).length ≤ 100
  simp only [List.length_append, List.length_cons, List.length_nil]
  omega
theorem itoa_t (F n : Nat) (h : n ≤ 1073741824) : M_strconv_Itoa F (n : Int) = some (itoa (n : Int)) := by
 unfold M_strconv_Itoa MItoa
 rw [if_pos (decide_eq_true (by omega)), if_pos (decide_eq_true (by omega))]
theorem words_t (F : Nat) (p : PhT) (h : rightG p = true) : ∃ w last, M_prog_words F p = some w ∧ idx w (IntKind.i64.wrap ((w.length : Int) - 1)) = some last ∧
  ((last ≠ [] ∧ M_strings_Join F (w, [32]) = some (phText p)) ∨ (last = [] ∧ (decide (0 ≤ IntKind.i64.wrap ((w.length : Int) - 1)) && decide (IntKind.i64.wrap ((w.length : Int) - 1) ≤ (w.length : Int))) = true ∧ M_strings_Join F (w.take (IntKind.i64.wrap ((w.length : Int) - 1)).toNat, [32]) = some (phText p))) := by
 have hl := text_len_ok h
 have hj2 : ∀ (a b : By), a ++ ([32] ++ b) = phText p → M_strings_Join F ([a, b], [32]) = some (phText p) := by
  intro a b e
  rw [join_eq F [a, b] [32] (by simp) (by rw [join2, e]; omega), join2, e]
 have hj3 : ∀ (a b c : By), a ++ ([32] ++ (b ++ ([32] ++ c))) = phText p → M_strings_Join F ([a, b, c], [32]) = some (phText p) := by
  intro a b c e
  rw [join_eq F [a, b, c] [32] (by simp) (by rw [join3, e]; omega), join3, e]
 rcases right_cases h with ⟨n, rfl, h1, h2⟩ | ⟨nm, n, rfl, h3, h1, h2⟩ | ⟨nm, t, rfl, h2, h3⟩ | ⟨n, t, rfl, h1, h3⟩
 ·refine ⟨[wOnly, itoa (n : Int)], itoa (n : Int), ?_, ?_, .inl ⟨itoa_ne n, hj2 _ _ rfl⟩⟩
  ·unfold M_prog_words
   simp only [itoa_t F n (by omega), Option.bind_some]
   rfl
  ·rw [last2]; rfl
 ·refine ⟨[wNeed, nm, itoa (n : Int)], itoa (n : Int), ?_, ?_, .inl ⟨itoa_ne n, hj3 _ _ _ rfl⟩⟩
  ·unfold M_prog_words
   simp only [itoa_t F n h2, Option.bind_some]
   rfl
  ·rw [last3]; rfl
 ·refine ⟨[wCall, nm, t], t, ?_, ?_, ?_⟩
  ·unfold M_prog_words
   have := itoa_t F 0 (by omega)
   rw [Int.natCast_zero] at this
   simp only [this, Option.bind_some]
   rfl
  ·rw [last3]; rfl
  ·by_cases ht : t = []
   ·refine .inr ⟨ht, ?_, ?_⟩
    ·rw [last3]; rfl
    ·rw [last3]
     subst ht
     refine hj2 wCall nm ?_
     show wCall ++ ([32] ++ nm) = wCall ++ 32 :: (nm ++ [])
     rw [List.append_nil]
     rfl
   ·refine .inl ⟨ht, hj3 _ _ _ ?_⟩
    show wCall ++ ([32] ++ (nm ++ ([32] ++ t))) = wCall ++ 32 :: (nm ++ tailG t)
    unfold tailG
    rw [if_neg ht]
    rfl
 ·refine ⟨[wEnd, itoa (n : Int), t], t, ?_, ?_, ?_⟩
  ·unfold M_prog_words
   simp only [itoa_t F n (by omega), Option.bind_some]
   rfl
  ·rw [last3]; rfl
  ·by_cases ht : t = []
   ·refine .inr ⟨ht, ?_, ?_⟩
    ·rw [last3]; rfl
    ·rw [last3]
     subst ht
     refine hj2 wEnd (itoa (n : Int)) ?_
     show wEnd ++ ([32] ++ itoa (n : Int)) = wEnd ++ 32 :: (itoa (n : Int) ++ [])
     rw [List.append_nil]
     rfl
   ·refine .inl ⟨ht, hj3 _ _ _ ?_⟩
    show wEnd ++ ([32] ++ (itoa (n : Int) ++ ([32] ++ t))) = wEnd ++ 32 :: (itoa (n : Int) ++ tailG t)
    unfold tailG
    rw [if_neg ht]
    rfl
theorem pprint_loop (l : List PhT) (hl : l.length ≤ 1000) (hr : ∀ p ∈ l, rightG p = true) : ∀ (n i : Nat) (out : List By), i + n = l.length → out.length ≤ i → TendsL M_prog_Print_l0 ((), l, (l.length : Int), (i : Int), out, ()) ((), out ++ (l.drop i).map phText, ())
 | 0, i, out, h, ho => by
  refine TendsL.fin (.of fun F => ?_)
  unfold M_prog_Print_l0
  rw [if_neg (by rw [decide_eq_true_eq]; simp only; omega), List.drop_eq_nil_of_le (by omega)]
  show some (Sum.inr ((), out, ())) = some (Sum.inr ((), out ++ [], ()))
  rw [List.append_nil]
 | n + 1, i, out, h, ho => by
  have hi : i < l.length := by omega
  have hx : idx l (i : Int) = some l[i] := idx_at _ _ _ (List.getElem?_eq_getElem hi)
  have hw : IntKind.i64.wrap ((i : Int) + 1) = ((i + 1 : Nat) : Int) := by rw [wrap64 _ (by omega) (by omega)]; omega
  have hr1 := hr l[i] (List.getElem_mem hi)
  rw [List.drop_eq_getElem_cons hi, List.map_cons]
  generalize l[i] = p at *
  have ih := pprint_loop l hl hr n (i + 1) (out ++ [phText p]) (by omega) (by rw [List.length_append, List.length_singleton]; omega)
  rw [List.append_assoc] at ih
  refine TendsL.step (.of fun F => ?_) ih
  obtain ⟨w, last, q1, q2, q3⟩ := words_t F p hr1
  have q1' : M_prog_words F (p.1, p.2.1, p.2.2.1, p.2.2.2.1, ()) = some w := q1
  unfold M_prog_Print_l0
  rw [if_pos (by rw [decide_eq_true_eq]; simp only; omega)]
  simp only [hx, Option.bind_some, q1', q2]
  rcases q3 with ⟨c1, c2⟩ | ⟨c1, c2, c3⟩
  ·rw [if_neg (by rw [decide_eq_true_eq]; exact c1), Option.bind_some]
   simp only [c2, Option.bind_some]
   rw [if_pos (by rw [decide_eq_true_eq]; simp only [List.length_singleton]; omega), hw]
  ·rw [if_pos (decide_eq_true c1), if_pos c2, Option.bind_some]
   simp only [c3, Option.bind_some]
   rw [if_pos (by rw [decide_eq_true_eq]; simp only [List.length_singleton]; omega), hw]
theorem tail_len : ∀ r : List PhT, (∀ p ∈ r, rightG p = true) → (Lib.joinTail [59, 32] (r.map phText)).length ≤ 102 * r.length
 | [], h => Nat.zero_le _
 | p :: r, h => by
  have h1 := text_len_ok (h p (List.mem_cons_self ..))
  have h2 := tail_len r fun q hq => h q (List.mem_cons_of_mem _ hq)
  show ([59, 32] ++ phText p ++ Lib.joinTail [59, 32] (r.map phText)).length ≤ _
  simp only [List.length_append, List.length_cons, List.length_nil]
  omega
theorem printG_len {l : List PhT} (h : mayG l = true) : (printG l).length ≤ 600 := by
 obtain ⟨h1, h2, h3⟩ := may_right h
 cases l with
 | nil => simp at h2
 | cons p r =>
  have q1 := text_len_ok (h1 p (List.mem_cons_self ..))
  have q2 := tail_len r fun q hq => h1 q (List.mem_cons_of_mem _ hq)
  rw [printG_cons, List.length_append]
  simp only [List.length_cons] at h3
  omega
theorem pprint_t (l : List PhT) (hl : l.length ≤ 1000000) (hb : ∀ p ∈ l, bndP p) : Tends (fun F => M_prog_Print F l) (if mayG l = true then (printG l, 0) else ([], 1)) := by
 unfold M_prog_Print
 refine Tends.bind (pmay_t l hl hb) ?_
 by_cases hm : mayG l = true
 ·rw [if_pos hm, hm]
  obtain ⟨h1, h2, h3⟩ := may_right hm
  have h := pprint_loop l (by omega) h1 l.length 0 [] (by omega) (Nat.zero_le _)
  rw [List.drop_zero, List.nil_append] at h
  refine Tends.neg (by decide) (Tends.bind h.run ?_)
  have hj := fun F => join_eq F (l.map phText) [59, 32] (by rw [List.length_map]; omega) (by have := printG_len hm; unfold printG at this; omega)
  exact Tends.bind (.of hj) (.ret _)
 ·have hm' : mayG l = false := by simpa using hm
  rw [if_neg hm, hm']
  exact Tends.pos rfl (.ret _)
/-! ### parsing -/
theorem rest_hit (t : By) (r : List By) : restG ((32 :: t) :: r) = (restG r).map (readG t :: ·) := rfl
theorem rest_miss (x : By) (r : List By) (h : ∀ t, x ≠ 32 :: t) : restG (x :: r) = none := by
 unfold restG
 split
 ·exact absurd rfl (h _)
 ·rfl
abbrev PaR := Unit × List PhT × Unit ⊕ Unit × Int × List PhT × Unit
def paR (out : List PhT) : Option (List PhT) → PaR
 | some l => .inl ((), out ++ l, ())
 | none => .inr ((), 3, [], ())
theorem pparse_loop (xs : List By) (hn : xs.length ≤ 1000000) (hx : ∀ x ∈ xs, x.length ≤ 100000) : ∀ (n i : Nat) (out : List PhT), i + n = xs.length → out.length = i → 1 ≤ i → TendsL M_prog_Parse_l0 ((), xs, (xs.length : Int), (i : Int), out, ()) (paR out (restG (xs.drop i)))
 | 0, i, out, h, ho, h1 => by
  refine TendsL.fin (.of fun F => ?_)
  unfold M_prog_Parse_l0
  rw [if_neg (by rw [decide_eq_true_eq]; simp only; omega), List.drop_eq_nil_of_le (by omega)]
  show some (Sum.inr (Sum.inl ((), out, ()))) = some (Sum.inr (Sum.inl ((), out ++ [], ())))
  rw [List.append_nil]
 | n + 1, i, out, h, ho, h1 => by
  have hi : i < xs.length := by omega
  have hx0 : idx xs (i : Int) = some xs[i] := idx_at _ _ _ (List.getElem?_eq_getElem hi)
  have hw : IntKind.i64.wrap ((i : Int) + 1) = ((i + 1 : Nat) : Int) := by rw [wrap64 _ (by omega) (by omega)]; omega
  have hxl := hx xs[i] (List.getElem_mem hi)
  have hsb : sub ([59, 32] : By) 1 2 = some [32] := rfl
  rw [List.drop_eq_getElem_cons hi]
  generalize xs[i] = x at *
  by_cases hc : ∃ t, x = 32 :: t
  ·obtain ⟨t, rfl⟩ := hc
   rw [List.length_cons] at hxl
   have ih := pparse_loop xs hn hx n (i + 1) (out ++ [readG t]) (by omega) (by rw [List.length_append, List.length_singleton]; omega) (by omega)
   have e : paR out (restG ((32 :: t) :: xs.drop (i + 1))) = paR (out ++ [readG t]) (restG (xs.drop (i + 1))) := by
    rw [rest_hit]
    cases restG (xs.drop (i + 1)) with
    | none => rfl
    | some l => show Sum.inl ((), out ++ (readG t :: l), ()) = Sum.inl ((), (out ++ [readG t]) ++ l, ()); rw [List.append_assoc]; rfl
   rw [e]
   refine TendsL.step (.of fun F => ?_) ih
   unfold M_prog_Parse_l0
   rw [if_pos (by rw [decide_eq_true_eq]; simp only; omega)]
   simp only [hx0, Option.bind_some]
   rw [if_pos (by rw [decide_eq_true_eq]; omega)]
   simp only [hsb, Option.bind_some, pre_hit F t (by omega), Bool.not_true, Bool.false_eq_true, if_false, sumC_inl, read_eq F t (by omega)]
   rw [if_pos (by rw [decide_eq_true_eq]; simp only [List.length_singleton]; omega), hw]
  ·have hm : ∀ t, x ≠ 32 :: t := fun t ht => hc ⟨t, ht⟩
   rw [rest_miss x _ hm]
   refine TendsL.fin (.of fun F => ?_)
   unfold M_prog_Parse_l0
   rw [if_pos (by rw [decide_eq_true_eq]; simp only; omega)]
   simp only [hx0, Option.bind_some]
   rw [if_pos (by rw [decide_eq_true_eq]; omega)]
   simp only [hsb, Option.bind_some, pre_miss F x hm, Bool.not_false, if_true, sumC_inr]
   rfl
theorem pread_bnd (x : By) (h : x.length ≤ 1000) : bndP (readG x) := by
 have h1 := cut_len x [32]
 have h2 := cut_len (Lib.cut x [32]).2.1 [32]
 unfold readG
 split
 ·exact ⟨Nat.zero_le _, Nat.zero_le _⟩
 split
 ·exact ⟨Nat.zero_le _, Nat.zero_le _⟩
 split
 ·exact ⟨Nat.zero_le _, Nat.zero_le _⟩
 split
 ·exact ⟨by simp only; omega, Nat.zero_le _⟩
 split
 ·exact ⟨by simp only; omega, by simp only; omega⟩
 split
 ·exact ⟨Nat.zero_le _, by simp only; omega⟩
 ·exact ⟨Nat.zero_le _, Nat.zero_le _⟩
theorem rest_bnd : ∀ (xs : List By) (l : List PhT), (∀ x ∈ xs, x.length ≤ 1000) → restG xs = some l → l.length = xs.length ∧ ∀ p ∈ l, bndP p
 | [], l, hx, h => by cases h; exact ⟨rfl, fun p hp => by cases hp⟩
 | x :: xs, l, hx, h => by
  by_cases hc : ∃ t, x = 32 :: t
  ·obtain ⟨t, rfl⟩ := hc
   rw [rest_hit] at h
   obtain ⟨l', h1, rfl⟩ := Option.map_eq_some_iff.1 h
   obtain ⟨i1, i2⟩ := rest_bnd xs l' (fun y hy => hx y (List.mem_cons_of_mem _ hy)) h1
   have h2 := hx (32 :: t) (List.mem_cons_self ..)
   rw [List.length_cons] at h2
   refine ⟨by rw [List.length_cons, List.length_cons, i1], fun p hp => ?_⟩
   rcases List.mem_cons.1 hp with rfl | hp
   ·exact pread_bnd t (by omega)
   ·exact i2 p hp
  ·rw [rest_miss x xs fun t ht => hc ⟨t, ht⟩] at h
   cases h
theorem pparse_t (s : By) (hs : s.length ≤ 1000) : Tends (fun F => M_prog_Parse F s) (parseT s) := by
 obtain ⟨c1, c2⟩ := splC_len 59 s
 have hsp : ∀ F, M_strings_Split F (s, [59]) = some (splC 59 s) := by
  intro F
  unfold M_strings_Split MSplit
  rw [if_pos (decide_eq_true (by simp only; omega)), if_pos (by rfl), split_splC]
 unfold M_prog_Parse parseT parsG
 refine Tends.bind (.of hsp) ?_
 cases hx : splC 59 s with
 | nil => exact absurd hx (splC_ne 59 s)
 | cons x xs =>
  rw [hx] at c1 c2
  rw [List.length_cons] at c1
  have hxl := c2 x (List.mem_cons_self ..)
  have hw : IntKind.i64.wrap ((0 : Int) + 1) = ((1 : Nat) : Int) := by rw [wrap64 _ (by omega) (by omega)]; rfl
  have h := pparse_loop (x :: xs) (by rw [List.length_cons]; omega) (fun y hy => by have := c2 y hy; omega) xs.length 1 [readG x] (by rw [List.length_cons]; omega) rfl (Nat.le_refl _)
  have hl : TendsL M_prog_Parse_l0 ((), x :: xs, ((x :: xs).length : Int), 0, [], ()) (paR [readG x] (restG xs)) := by
   refine TendsL.step (.of fun F => ?_) h
   unfold M_prog_Parse_l0
   rw [if_pos (by rw [decide_eq_true_eq]; simp only [List.length_cons]; omega)]
   have hx0 : idx (x :: xs) 0 = some x := idx_at _ 0 _ rfl
   simp only [hx0, Option.bind_some]
   rw [if_neg (by rw [decide_eq_true_eq]; simp only [List.length_nil]; omega)]
   simp only [Option.bind_some, sumC_inl, read_eq F x (by omega)]
   rw [if_pos (by rw [decide_eq_true_eq]; simp only [List.length_nil, List.length_singleton]; omega), hw]
   rfl
  refine Tends.bind hl.run ?_
  simp only
  cases hr : restG xs with
  | none => exact .ret _
  | some l =>
   obtain ⟨b1, b2⟩ := rest_bnd xs l (fun y hy => by have := c2 y (List.mem_cons_of_mem _ hy); omega) hr
   have hm := pmay_t (readG x :: l) (by rw [List.length_cons]; omega) fun p hp => by
    rcases List.mem_cons.1 hp with rfl | hp
    ·exact pread_bnd x (by omega)
    ·exact b2 p hp
   show Tends _ (if mayG (readG x :: l) = true then (readG x :: l, 0) else ([], 3))
   refine Tends.bind hm ?_
   by_cases hmm : mayG (readG x :: l) = true
   ·rw [if_pos hmm, hmm]
    exact Tends.neg (by decide) (.ret _)
   ·have hmm' : mayG (readG x :: l) = false := by simpa using hmm
    rw [if_neg hmm, hmm']
    exact Tends.pos rfl (.ret _)
end Go.Vm
/- Programs: the document's functions are the plain ones. No condition but on lengths. -/
namespace Go.Vm
open Go.Proofs
open Go.Lib (decDigits itoa)
set_option linter.unusedVariables false
set_option linter.unusedSimpArgs false
/-! ### phases -/
theorem rtext_loop (x : By) (hx : x.length ≤ 1000) : ∀ (n i : Nat), i + n = x.length → TendsL M_conciergeref23_text_l0 (x, (i : Int), ()) (if (x.drop i).all (fun c => c != 59) = true then .inl (x, ()) else .inr (false, ()))
 | 0, i, h => by
  refine TendsL.fin (.of fun F => ?_)
  unfold M_conciergeref23_text_l0
  rw [if_neg (by rw [decide_eq_true_eq]; simp only; omega), List.drop_eq_nil_of_le (by omega)]
  rfl
 | n + 1, i, h => by
  have hi : i < x.length := by omega
  have hx0 : idx x (i : Int) = some x[i] := idx_at _ _ _ (List.getElem?_eq_getElem hi)
  have hw : IntKind.i64.wrap ((i : Int) + 1) = ((i + 1 : Nat) : Int) := by rw [wrap64 _ (by omega) (by omega)]; omega
  have ih := rtext_loop x hx n (i + 1) (by omega)
  rw [List.drop_eq_getElem_cons hi, List.all_cons]
  generalize x[i] = c at *
  have n59 : ((c.toNat : Int) = 59) = (c = 59) := nvB c 59
  by_cases hc : c = 59
  ·have e : (c != 59) = false := by rw [hc]; rfl
   rw [e, Bool.false_and]
   refine TendsL.fin (.of fun F => ?_)
   unfold M_conciergeref23_text_l0
   rw [if_pos (by rw [decide_eq_true_eq]; simp only; omega)]
   simp only [hx0, Option.bind_some, n59, decide_eq_true hc]
   rfl
  ·have e : (c != 59) = true := by rw [bne_iff_ne]; exact hc
   rw [e, Bool.true_and]
   refine TendsL.step (.of fun F => ?_) ih
   unfold M_conciergeref23_text_l0
   rw [if_pos (by rw [decide_eq_true_eq]; simp only; omega)]
   simp only [hx0, Option.bind_some, n59, decide_eq_false hc, Bool.false_eq_true, if_false, hw]
theorem rtext_t (x : By) (hx : x.length ≤ 1000) : Tends (fun F => M_conciergeref23_text F x) (textG x) := by
 unfold M_conciergeref23_text textG
 have h := rtext_loop x hx x.length 0 (by omega)
 rw [List.drop_zero] at h
 refine Tends.bind h.run ?_
 by_cases ha : x.all (fun c => c != 59) = true
 ·rw [if_pos ha, ha, Bool.true_and]
  exact Tends.bind (check22_t x hx) (.ret _)
 ·have ha' : x.all (fun c => c != 59) = false := by simpa using ha
  rw [if_neg ha, ha', Bool.false_and]
  exact .ret _
theorem rphase_t (p : PhT) (hp : bndP p) : Tends (fun F => M_conciergeref23_phase F p) (rightG p) := by
 obtain ⟨k, nm, n, t, u⟩ := p
 obtain ⟨hn, ht⟩ := hp
 simp only at hn ht
 unfold M_conciergeref23_phase rightG
 simp only
 by_cases k1 : k = 1
 ·rw [if_pos k1]
  refine Tends.pos (decide_eq_true k1) (.of fun F => ?_)
  by_cases c1 : 1 ≤ n
  ·by_cases c2 : n ≤ 80
   ·by_cases c3 : nm = [] <;> by_cases c4 : t = [] <;> simp [c1, c2, c3, c4]
   ·simp [c1, c2]
  ·simp [c1]
 rw [if_neg k1]
 refine Tends.neg (by rw [decide_eq_true_eq]; exact k1) ?_
 by_cases k2 : k = 2
 ·rw [if_pos k2]
  refine Tends.pos (decide_eq_true k2) ?_
  refine Tends.bind (r := (((), decide (1 ≤ n) && decide (n ≤ 1073741824), (k, nm, n, t, ()), ()) : Unit × Bool × PhT × Unit)) (.of fun F => by
   by_cases c1 : 1 ≤ n <;> simp [c1]) ?_
  refine Tends.bind (r := (((), (decide (1 ≤ n) && decide (n ≤ 1073741824)) && nmP nm, (k, nm, n, t, ()), ()) : Unit × Bool × PhT × Unit)) ?_ ?_
  ·cases hb : (decide (1 ≤ n) && decide (n ≤ 1073741824)) with
   | true => exact Tends.pos rfl (Tends.bind (name22_t nm (by omega)) (.ret _))
   | false => exact Tends.neg Bool.false_ne_true (.ret _)
  ·refine .of fun F => ?_
   cases hb : ((decide (1 ≤ n) && decide (n ≤ 1073741824)) && nmP nm) <;> simp
 rw [if_neg k2]
 refine Tends.neg (by rw [decide_eq_true_eq]; exact k2) ?_
 by_cases k3 : k = 3
 ·rw [if_pos k3]
  refine Tends.pos (decide_eq_true k3) ?_
  refine Tends.bind (r := (((), decide (n = 0) && nmP nm, (k, nm, n, t, ()), ()) : Unit × Bool × PhT × Unit)) ?_ ?_
  ·by_cases c1 : n = 0
   ·rw [decide_eq_true c1, Bool.true_and]
    exact Tends.pos rfl (Tends.bind (name22_t nm (by omega)) (.ret _))
   ·rw [decide_eq_false c1, Bool.false_and]
    exact Tends.neg Bool.false_ne_true (.ret _)
  refine Tends.bind (r := (((decide (n = 0) && nmP nm) && textG t, ()) : Bool × Unit)) ?_ (.ret _)
  cases hb : (decide (n = 0) && nmP nm) with
  | true => exact Tends.pos rfl (Tends.bind (rtext_t t ht) (.ret _))
  | false => exact Tends.neg Bool.false_ne_true (.ret _)
 rw [if_neg k3]
 refine Tends.neg (by rw [decide_eq_true_eq]; exact k3) ?_
 by_cases k4 : k = 4
 ·rw [if_pos k4]
  refine Tends.bind (r := (((), decide (n = 200) || decide (n = 201), (k, nm, n, t, ()), ()) : Unit × Bool × PhT × Unit)) (Tends.pos (decide_eq_true k4) (.of fun F => by
   by_cases c1 : n = 200 <;> simp [c1])) ?_
  refine Tends.bind (r := (((), (decide (n = 200) || decide (n = 201)) && decide (nm = []), (k, nm, n, t, ()), ()) : Unit × Bool × PhT × Unit)) (.of fun F => by
   cases hb : (decide (n = 200) || decide (n = 201)) <;> simp [hb]) ?_
  refine Tends.bind (r := ((((decide (n = 200) || decide (n = 201)) && decide (nm = [])) && textG t, ()) : Bool × Unit)) ?_ (.ret _)
  cases hb : ((decide (n = 200) || decide (n = 201)) && decide (nm = [])) with
  | true => exact Tends.pos rfl (Tends.bind (rtext_t t ht) (.ret _))
  | false => exact Tends.neg Bool.false_ne_true (.ret _)
 ·rw [if_neg k4]
  refine Tends.bind (r := (((), false, (k, nm, n, t, ()), ()) : Unit × Bool × PhT × Unit)) (Tends.neg (by rw [decide_eq_true_eq]; exact k4) (.ret _)) (.of fun F => rfl)
theorem rmay_loop (l : List PhT) (hl : l.length ≤ 1000000) (hb : ∀ p ∈ l, bndP p) : ∀ (n i : Nat), i + n = l.length → TendsL M_conciergeref23_May_l0 (l, (i : Int), ()) (if mayL (l.drop i) = true then .inl () else .inr (false, ()))
 | 0, i, h => by
  refine TendsL.fin (.of fun F => ?_)
  unfold M_conciergeref23_May_l0
  rw [if_neg (by rw [decide_eq_true_eq]; simp only; omega), List.drop_eq_nil_of_le (by omega)]
  rfl
 | n + 1, i, h => by
  have hi : i < l.length := by omega
  have hx : idx l (i : Int) = some l[i] := idx_at _ _ _ (List.getElem?_eq_getElem hi)
  have hw : IntKind.i64.wrap ((i : Int) + 1) = ((i + 1 : Nat) : Int) := by rw [wrap64 _ (by omega) (by omega)]; omega
  have hw1 : IntKind.i64.wrap ((l.length : Int) - 1) = ((l.length - 1 : Nat) : Int) := by rw [wrap64 _ (by omega) (by omega)]; omega
  have ih := rmay_loop l hl hb n (i + 1) (by omega)
  have hr := rphase_t l[i] (hb _ (List.getElem_mem hi))
  have hd := drop_nil_iff l i hi
  rw [List.drop_eq_getElem_cons hi]
  generalize l[i] = p at *
  have hk : decide (l.drop (i + 1) = []) = decide ((i : Int) = ((l.length - 1 : Nat) : Int)) := by
   rw [Bool.eq_iff_iff, decide_eq_true_eq, decide_eq_true_eq, hd]; omega
  have e : mayL (p :: l.drop (i + 1)) = (rightG p && (decide (p.1 = 4) == decide ((i : Int) = ((l.length - 1 : Nat) : Int))) && mayL (l.drop (i + 1))) := by rw [← hk]; rfl
  rw [e]
  have hbody : Tends (fun F => M_conciergeref23_May_l0 F (l, (i : Int), ())) (if (rightG p && (decide (p.1 = 4) == decide ((i : Int) = ((l.length - 1 : Nat) : Int)))) = true then .inl (l, ((i + 1 : Nat) : Int), ()) else .inr (.inr (false, ()))) := by
   unfold M_conciergeref23_May_l0
   refine Tends.pos (by rw [decide_eq_true_eq]; simp only; omega) ?_
   refine Tends.bind (r := ((l, (i : Int), !(rightG p && (decide (p.1 = 4) == decide ((i : Int) = ((l.length - 1 : Nat) : Int)))), ()) : List PhT × Int × Bool × Unit)) (Tends.bind (.of fun F => hx) (Tends.bind hr ?_)) ?_
   ·cases hrp : rightG p with
    | true => exact .of fun F => by simp [hw1, hx]
    | false => exact .of fun F => by simp
   ·cases hrp : (rightG p && (decide (p.1 = 4) == decide ((i : Int) = ((l.length - 1 : Nat) : Int)))) with
    | true => exact Tends.neg (by simp) (.of fun F => by simp [hw])
    | false => exact Tends.pos (by simp) (.of fun F => by simp)
  cases hrp : (rightG p && (decide (p.1 = 4) == decide ((i : Int) = ((l.length - 1 : Nat) : Int)))) with
  | true =>
   rw [hrp, if_pos rfl] at hbody
   rw [Bool.true_and]
   exact TendsL.step hbody ih
  | false =>
   rw [hrp, if_neg Bool.false_ne_true] at hbody
   rw [Bool.false_and, if_neg Bool.false_ne_true]
   exact TendsL.fin hbody
theorem rmay_t (l : List PhT) (hl : l.length ≤ 1000000) (hb : ∀ p ∈ l, bndP p) : Tends (fun F => M_conciergeref23_May F l) (mayG l) := by
 unfold M_conciergeref23_May mayG
 refine Tends.bind (r := ((l, !(decide (1 ≤ l.length) && decide (l.length ≤ 5)), ()) : List PhT × Bool × Unit)) (.of fun F => ?_) ?_
 ·by_cases h0 : l.length = 0
  ·rw [if_neg (by rw [decide_eq_true (by omega)]; decide), decide_eq_false (by omega)]
   rfl
  ·rw [if_pos (decide_eq_false (by omega)), decide_eq_true (by omega : 1 ≤ l.length), Bool.true_and]
   by_cases h5 : l.length ≤ 5
   ·rw [decide_eq_false (by omega), decide_eq_true h5]; rfl
   ·rw [decide_eq_true (by omega), decide_eq_false h5]; rfl
 cases hc : (decide (1 ≤ l.length) && decide (l.length ≤ 5)) with
 | false => exact Tends.pos rfl (.ret _)
 | true =>
  refine Tends.neg (by simp) ?_
  have h := rmay_loop l hl hb l.length 0 (by omega)
  rw [List.drop_zero] at h
  refine Tends.bind h.run ?_
  rw [Bool.true_and]
  cases mayL l <;> exact .ret _
/-! ### texts -/
theorem behind_t (F : Nat) (x : By) (h : x.length ≤ 1000) : M_conciergeref23_behind F x = some (tailG x) := by
 unfold M_conciergeref23_behind tailG
 by_cases hx : x = []
 ·rw [if_pos (decide_eq_true hx), if_pos hx]
 ·rw [if_neg (by rw [decide_eq_true_eq]; exact hx), if_neg hx, if_pos (by rw [decide_eq_true_eq]; simp only [List.length_singleton]; omega)]
  rfl
theorem rtextof_t (p : PhT) (h : rightG p = true) : Tends (fun F => M_conciergeref23_Text F p) (phText p) := by
 have big : ∀ {a b : Nat}, a + b ≤ 100000 → decide (a + b ≤ 9223372036854775807) = true := fun h => decide_eq_true (by omega)
 rcases right_cases h with ⟨n, rfl, h1, h2⟩ | ⟨nm, n, rfl, h3, h1, h2⟩ | ⟨nm, t, rfl, h2, h3⟩ | ⟨n, t, rfl, h1, h3⟩
 ·have hd := decimal_t (n : Int) (by unfold okN; omega)
  have hl := small_itoa n (by omega)
  unfold M_conciergeref23_Text
  refine Tends.pos (by simp) (Tends.bind hd ?_)
  exact Tends.pos (big (by simp only [List.length_cons, List.length_nil]; omega)) (.of fun F => rfl)
 ·have hd := decimal_t (n : Int) (by unfold okN; omega)
  have hl := small_itoa n h2
  have hn := nm_len h3
  unfold M_conciergeref23_Text
  refine Tends.neg (by simp) (Tends.pos (by simp) ?_)
  refine Tends.bind (r := ((phText (2, nm, (n : Int), [], ()), ()) : By × Unit)) ?_ (.ret _)
  refine Tends.pos (big (by simp only [List.length_cons, List.length_nil]; omega)) ?_
  refine Tends.pos (big (by simp only [List.length_append, List.length_cons, List.length_nil]; omega)) ?_
  refine Tends.bind hd ?_
  refine Tends.pos (big (by simp only [List.length_append, List.length_cons, List.length_nil]; omega)) (.of fun F => ?_)
  show some ([110, 101, 101, 100, 32] ++ nm ++ [32] ++ itoa (n : Int), ()) = some (wNeed ++ 32 :: (nm ++ 32 :: itoa (n : Int)), ())
  simp [List.append_assoc]
 ·have hn := nm_len h2
  have ht := textG_len h3
  have htl := tailG_len t
  unfold M_conciergeref23_Text
  refine Tends.neg (by simp) (Tends.neg (by simp) (Tends.pos (by simp) ?_))
  refine Tends.bind (r := ((phText (3, nm, 0, t, ()), ()) : By × Unit)) ?_ (.ret _)
  refine Tends.pos (big (by simp only [List.length_cons, List.length_nil]; omega)) ?_
  refine Tends.bind (.of fun F => behind_t F t (by omega)) ?_
  refine Tends.pos (big (by simp only [List.length_append, List.length_cons, List.length_nil]; omega)) (.of fun F => ?_)
  show some ([99, 97, 108, 108, 32] ++ nm ++ tailG t, ()) = some (wCall ++ 32 :: (nm ++ tailG t), ())
  simp [List.append_assoc]
 ·have hd := decimal_t (n : Int) (by unfold okN; omega)
  have hl := small_itoa n (by omega)
  have ht := textG_len h3
  have htl := tailG_len t
  unfold M_conciergeref23_Text
  refine Tends.neg (by simp) (Tends.neg (by simp) (Tends.neg (by simp) ?_))
  refine Tends.bind (r := ((phText (4, [], (n : Int), t, ()), ()) : By × Unit)) ?_ (.ret _)
  refine Tends.bind hd ?_
  refine Tends.pos (big (by simp only [List.length_cons, List.length_nil]; omega)) ?_
  refine Tends.bind (.of fun F => behind_t F t (by omega)) ?_
  refine Tends.pos (big (by simp only [List.length_append, List.length_cons, List.length_nil]; omega)) (.of fun F => ?_)
  show some ([101, 110, 100, 32] ++ itoa (n : Int) ++ tailG t, ()) = some (wEnd ++ 32 :: (itoa (n : Int) ++ tailG t), ())
  simp [List.append_assoc]
theorem rprint_loop (l : List PhT) (hl : l.length ≤ 1000) (hr : ∀ p ∈ l, rightG p = true) : ∀ (n i : Nat) (out : By), i + n = l.length → 1 ≤ i → out.length ≤ 1000 * i → TendsL M_conciergeref23_Print_l0 (l, out, (i : Int), ()) (out ++ Lib.joinTail [59, 32] ((l.drop i).map phText), ())
 | 0, i, out, h, h1, ho => by
  refine TendsL.fin (.of fun F => ?_)
  unfold M_conciergeref23_Print_l0
  rw [if_neg (by rw [decide_eq_true_eq]; simp only; omega), List.drop_eq_nil_of_le (by omega)]
  show some (Sum.inr (out, ())) = some (Sum.inr (out ++ [], ()))
  rw [List.append_nil]
 | n + 1, i, out, h, h1, ho => by
  have hi : i < l.length := by omega
  have hx : idx l (i : Int) = some l[i] := idx_at _ _ _ (List.getElem?_eq_getElem hi)
  have hw : IntKind.i64.wrap ((i : Int) + 1) = ((i + 1 : Nat) : Int) := by rw [wrap64 _ (by omega) (by omega)]; omega
  have hr1 := hr l[i] (List.getElem_mem hi)
  rw [List.drop_eq_getElem_cons hi, List.map_cons]
  generalize l[i] = p at *
  have ht := rtextof_t p hr1
  have htl := text_len_ok hr1
  have ih := rprint_loop l hl hr n (i + 1) (out ++ [59, 32] ++ phText p) (by omega) (by omega) (by simp only [List.length_append, List.length_cons, List.length_nil]; omega)
  have e : out ++ Lib.joinTail [59, 32] (phText p :: (l.drop (i + 1)).map phText) = out ++ [59, 32] ++ phText p ++ Lib.joinTail [59, 32] ((l.drop (i + 1)).map phText) := by
   show out ++ ([59, 32] ++ phText p ++ Lib.joinTail [59, 32] ((l.drop (i + 1)).map phText)) = _
   simp only [List.append_assoc]
  rw [e]
  refine TendsL.step ?_ ih
  unfold M_conciergeref23_Print_l0
  refine Tends.pos (by rw [decide_eq_true_eq]; simp only; omega) ?_
  refine Tends.bind (r := ((l, out ++ [59, 32], (i : Int), ()) : List PhT × By × Int × Unit)) (Tends.pos (by rw [decide_eq_true_eq]; simp only; omega) (Tends.pos (by rw [decide_eq_true_eq]; simp only [List.length_cons, List.length_nil]; omega) (.ret _))) ?_
  refine Tends.bind (.of fun F => hx) ?_
  refine Tends.bind ht ?_
  refine Tends.pos (by rw [decide_eq_true_eq]; simp only [List.length_append, List.length_cons, List.length_nil]; omega) (.of fun F => ?_)
  simp only [hw]
theorem rprint_t (l : List PhT) (hl : l.length ≤ 1000) (hr : ∀ p ∈ l, rightG p = true) : Tends (fun F => M_conciergeref23_Print F l) (printG l) := by
 unfold M_conciergeref23_Print
 cases l with
 | nil =>
  have : TendsL M_conciergeref23_Print_l0 (([] : List PhT), ([] : By), 0, ()) (([] : By), ()) := TendsL.fin (.of fun F => rfl)
  exact Tends.bind this.run (.ret _)
 | cons p r =>
  rw [List.length_cons] at hl
  have hr1 := hr p (List.mem_cons_self ..)
  have ht := rtextof_t p hr1
  have htl := text_len_ok hr1
  have hw : IntKind.i64.wrap ((0 : Int) + 1) = ((1 : Nat) : Int) := by rw [wrap64 _ (by omega) (by omega)]; rfl
  have hx : idx (p :: r) 0 = some p := idx_at _ 0 _ rfl
  have h := rprint_loop (p :: r) (by rw [List.length_cons]; omega) hr r.length 1 (phText p) (by rw [List.length_cons]; omega) (Nat.le_refl _) (by omega)
  have hs : TendsL M_conciergeref23_Print_l0 (p :: r, ([] : By), 0, ()) (printG (p :: r), ()) := by
   rw [printG_cons]
   refine TendsL.step ?_ h
   unfold M_conciergeref23_Print_l0
   refine Tends.pos (by rw [decide_eq_true_eq]; simp only [List.length_cons]; omega) ?_
   refine Tends.bind (r := ((p :: r, [], 0, ()) : List PhT × By × Int × Unit)) (Tends.neg (by simp) (.ret _)) ?_
   refine Tends.bind (.of fun F => hx) ?_
   refine Tends.bind ht ?_
   refine Tends.pos (by rw [decide_eq_true_eq]; simp only [List.length_nil]; omega) (.of fun F => ?_)
   simp only [hw, List.nil_append]
  exact Tends.bind hs.run (.ret _)
end Go.Vm
/- Programs: what the document parses is the plain one; small programs. No condition but on lengths. -/
namespace Go.Vm
open Go.Proofs
open Go.Lib (decDigits itoa)
set_option linter.unusedVariables false
set_option linter.unusedSimpArgs false
/-! ### words, numbers -/
end Go.Vm
/- Right texts, plainly. No condition. -/
namespace Go.Vm
open Go.Lib (decodeL decodeN decodeL_N decode_N decodeN_shape decodeL_le)
set_option linter.unusedVariables false
set_option linter.unusedSimpArgs false
end Go.Vm
/- Phrases: small entries; what is let out is right; the law of fills. No condition but on lengths. -/
namespace Go.Vm
open Go.Proofs
open Go.Lib (decodeL decodeN decodeL_N decode_N decodeN_shape decodeL_le)
set_option linter.unusedVariables false
set_option linter.unusedSimpArgs false
/-! ### small entries -/
end Go.Vm
/- Programs: what is to be done next, and how many calls are ahead: the program's answer and the document's are the plain one. No condition but on lengths. -/
namespace Go.Vm
open Go.Proofs
set_option linter.unusedVariables false
set_option linter.unusedSimpArgs false
/-! ### needs -/
theorem needs_t (body name : By) (n : Int) (hb : body.length ≤ 1000) : Tends (fun F => M_prog_needs F (body, name, n)) (needT body name n) := by
 unfold M_prog_needs needT
 refine Tends.bind (field_v body name hb) ?_
 have h4 := first_ok body name
 generalize firstM name (objL (vP body)) = v at h4
 obtain ⟨f, ok⟩ := v
 simp only at h4 ⊢
 refine Tends.bind (number_v f (by omega)) (.of fun F => ?_)
 cases ok with
 | false => rfl
 | true =>
  by_cases c1 : kindP (vP f) = 3
  ·by_cases c2 : 1 ≤ numV (vP f) <;> simp [c1, c2]
  ·simp [c1]
theorem sort_mem (x : Int) : decide (sortI x ∈ ([1, 2, 3] : List Int)) = decide (1 ≤ sortI x ∧ sortI x ≤ 3) := by
 rw [Bool.eq_iff_iff, decide_eq_true_eq, decide_eq_true_eq]
 simp only [List.mem_cons, List.not_mem_nil, or_false]
 omega
theorem ponly_t (s : By) (hs : s.length ≤ 100000) : Tends (fun F => M_sign_Only F (s, [1, 2, 3])) (((signs s).map (·.1)).all fun x => decide (1 ≤ sortI x ∧ sortI x ≤ 3)) := by
 have := only_tends s [1, 2, 3] (by decide)
 unfold onlyL at this
 simp only [sort_mem] at this
 exact this
theorem pass_t (F : Nat) (ok : Bool) (why : By) (h : why.length ≤ 2000) : M_prog_pass F (ok, why) = some (passD ok why) := by
 unfold M_prog_pass passD
 cases ok with
 | true => rfl
 | false =>
  show (if decide (([114, 101, 102, 117, 115, 101, 100, 32] : By).length + why.length ≤ 9223372036854775807) = true then _ else none) = _
  rw [if_pos (by rw [decide_eq_true_eq]; simp only [List.length_cons, List.length_nil]; omega)]
  rfl
/-! ### next -/
theorem next_t (p : List PhT) (e : EnT) (hl : p.length ≤ 1000000) (hb : ∀ x ∈ p, bndP x) (he : e.key.length ≤ 1000 ∧ e.method.length ≤ 1000 ∧ e.path.length ≤ 1000 ∧ e.body.length ≤ 1000) : Tends (fun F => M_prog_Next F (p, e)) (nextT p e) := by
 unfold M_prog_Next nextT
 refine Tends.bind (pmay_t p hl hb) ?_
 by_cases hm : mayG p = true
 case neg =>
  have hm' : mayG p = false := by simpa using hm
  rw [hm', if_pos rfl]
  exact Tends.pos rfl (.ret _)
 rw [hm, if_neg (show ¬ (true = false) by decide)]
 refine Tends.neg (by decide) ?_
 refine Tends.bind (r := ((p, (), (), decide (e.pt < 0 ∨ (p.length : Int) ≤ e.pt), e, zDo, ()) : List PhT × Unit × Unit × Bool × EnT × DoT × Unit)) (.of fun F => ?_) ?_
 ·show (if decide (e.pt < 0) = false then some (p, (), (), decide ((p.length : Int) ≤ e.pt), e, zDo, ()) else some (p, (), (), true, e, zDo, ())) = _
  by_cases c1 : e.pt < 0
  ·rw [if_neg (by rw [decide_eq_true c1]; decide), decide_eq_true (.inl c1)]
  ·rw [if_pos (decide_eq_false c1)]
   have : decide (e.pt < 0 ∨ (p.length : Int) ≤ e.pt) = decide ((p.length : Int) ≤ e.pt) := by rw [decide_eq_decide]; exact ⟨fun h => h.resolve_left c1, .inr⟩
   rw [this]
 by_cases hc : e.pt < 0 ∨ (p.length : Int) ≤ e.pt
 ·rw [if_pos hc]
  exact Tends.pos (decide_eq_true hc) (.ret _)
 rw [if_neg hc]
 refine Tends.neg (by rw [decide_eq_true_eq]; exact hc) ?_
 have hi : e.pt.toNat < p.length := by omega
 have hg : p[e.pt.toNat]? = some p[e.pt.toNat] := List.getElem?_eq_getElem hi
 have hx : idx p e.pt = some p[e.pt.toNat] := by
  have := idx_at p e.pt.toNat _ hg
  rwa [show ((e.pt.toNat : Nat) : Int) = e.pt by omega] at this
 obtain ⟨hbn, hbt⟩ := hb p[e.pt.toNat] (List.getElem_mem hi)
 rw [hg]
 generalize p[e.pt.toNat] = x at *
 refine Tends.bind (.of fun F => hx) ?_
 show Tends _ ((doT x e, 0) : DoT × Int)
 unfold doT
 by_cases k1 : x.1 = 1
 ·rw [if_pos k1]
  refine Tends.pos (decide_eq_true k1) ?_
  refine Tends.bind (r := (((), 0, passD (onlyT e.body x.2.2.1) wOnly, ()) : Unit × Int × DoT × Unit)) ?_ (.ret _)
  refine Tends.bind (count_tends e.body (by omega)) ?_
  unfold onlyT
  by_cases c : ((signs e.body).length : Int) ≤ x.2.2.1
  ·rw [decide_eq_true c, Bool.true_and]
   exact Tends.pos rfl (Tends.bind (ponly_t e.body (by omega)) (Tends.bind (.of fun F => pass_t F _ _ (by decide)) (.ret _)))
  ·rw [decide_eq_false c, Bool.false_and]
   exact Tends.neg (by decide) (Tends.bind (.of fun F => pass_t F _ _ (by decide)) (.ret _))
 rw [if_neg k1]
 refine Tends.neg (by rw [decide_eq_true_eq]; exact k1) ?_
 by_cases k2 : x.1 = 2
 ·rw [if_pos k2]
  refine Tends.pos (decide_eq_true k2) ?_
  refine Tends.bind (r := (((), 0, passD (needT e.body x.2.1 x.2.2.1) (wNeed ++ 32 :: x.2.1), ()) : Unit × Int × DoT × Unit)) ?_ (.ret _)
  refine Tends.bind (needs_t e.body x.2.1 x.2.2.1 (by omega)) ?_
  refine Tends.pos (by rw [decide_eq_true_eq]; simp only [List.length_cons, List.length_nil]; omega) ?_
  exact Tends.bind (.of fun F => pass_t F _ _ (by simp only [List.length_append, List.length_cons, List.length_nil]; omega)) (.ret _)
 rw [if_neg k2]
 refine Tends.neg (by rw [decide_eq_true_eq]; exact k2) ?_
 by_cases k3 : x.1 = 3
 ·rw [if_pos k3]
  refine Tends.pos (decide_eq_true k3) ?_
  refine Tends.bind (r := (((), (), zDo, (e.1, e.key, e.ep, e.pt, e.tk, x.2.1, fillT x.2.2.2.1 e, ()), ()) : Unit × Unit × DoT × (Int × By × Int × Int × Int × By × By × Unit) × Unit)) ?_ (.ret _)
  exact Tends.bind (fill_t x.2.2.2.1 e hbt he) (.ret _)
 rw [if_neg k3]
 refine Tends.neg (by rw [decide_eq_true_eq]; exact k3) ?_
 refine Tends.bind (r := (((), 0, (2, x.2.2.1, fillT x.2.2.2.1 e, 0, [], 0, 0, 0, [], [], ()), ()) : Unit × Int × DoT × Unit)) ?_ (.ret _)
 exact Tends.bind (fill_t x.2.2.2.1 e hbt he) (.ret _)
end Go.Vm
