/- Programs: the program's functions are the plain ones. No condition but on lengths. -/
import Derived.Test.YtihpjgcbmipdbaaGreatDoorFprog
import Derived.Test.YtihpjgcbmipdbaaGreatDoorPsx
import Derived.Lib.AtoiAllCases
namespace Go.Vm
open Go.Proofs
open Go.Lib (decDigits itoa)
set_option linter.unusedVariables false
set_option linter.unusedSimpArgs false
/-! ### cutting -/
theorem index_t (F : Nat) (s c : By) (h : s.length ≤ 4294967280) : M_internal_stringslite_Index F (s, c) = some (Lib.index s c) := by
 unfold M_internal_stringslite_Index MIndex
 exact if_pos (decide_eq_true h)
theorem cut_len (s d : By) : (Lib.cut s d).1.length ≤ s.length ∧ (Lib.cut s d).2.1.length ≤ s.length := by
 unfold Lib.cut
 split
 ·exact ⟨by simp only [List.length_take]; omega, by simp only [List.length_drop]; omega⟩
 ·exact ⟨Nat.le_refl _, Nat.zero_le _⟩
theorem cut_eq (F : Nat) (s d : By) (h : s.length ≤ 1000000) (hd : d.length ≤ 1000) : M_strings_Cut F (s, d) = some (Lib.cut s d) := by
 unfold M_strings_Cut M_internal_stringslite_Cut
 simp only [index_t F s d (by omega), Option.bind_some]
 have hr := Lib.index_room s d
 have hg := Lib.index_ge s d
 by_cases h0 : 0 ≤ Lib.index s d
 ·obtain ⟨i, hi⟩ : ∃ i : Nat, Lib.index s d = i := ⟨(Lib.index s d).toNat, by omega⟩
  have hr' := hr h0
  rw [hi] at hr'
  have s1 : sub s 0 (i : Int) = some (s.take i) := by
   have := sub_nat s 0 i (Nat.zero_le _) (by omega)
   simpa using this
  have s2 : sub s ((i + d.length : Nat) : Int) (s.length : Int) = some (s.drop (i + d.length)) := sub_to_end s _ (by omega)
  have hw : IntKind.i64.wrap ((i : Int) + (d.length : Int)) = ((i + d.length : Nat) : Int) := by rw [wrap64 _ (by omega) (by omega)]; omega
  have e : Lib.cut s d = (s.take i, s.drop (i + d.length), true) := by
   unfold Lib.cut
   rw [hi, if_pos (by omega), Int.toNat_natCast]
  rw [hi, if_pos (by rw [decide_eq_true_eq]; omega), e]
  simp only [s1, hw, s2, Option.bind_some]
 ·have e : Lib.cut s d = (s, [], false) := by unfold Lib.cut; rw [if_neg h0]
  rw [if_neg (by rw [decide_eq_true_eq]; exact h0), e]
  rfl
theorem pre_hit (F : Nat) (t : By) (h : t.length ≤ 1000000) : M_strings_CutPrefix F (32 :: t, [32]) = some (t, true) := by
 unfold M_strings_CutPrefix M_internal_stringslite_CutPrefix M_internal_stringslite_HasPrefix
 have s0 : sub (32 :: t : By) 0 (([32] : By).length : Int) = some [32] := by
  have := sub_nat (32 :: t : By) 0 1 (by omega) (by simp)
  exact this
 have s1 : sub (32 :: t : By) (([32] : By).length : Int) ((32 :: t : By).length : Int) = some t := sub_to_end (32 :: t : By) 1 (by simp)
 rw [if_pos (by rw [decide_eq_true_eq]; simp only [List.length_cons, List.length_nil]; omega)]
 simp only [s0, Option.bind_some, decide_true, Bool.not_true, Bool.false_eq_true, if_false, s1]
theorem pre_miss (F : Nat) (x : By) (h : ∀ t, x ≠ 32 :: t) : M_strings_CutPrefix F (x, [32]) = some (x, false) := by
 unfold M_strings_CutPrefix M_internal_stringslite_CutPrefix M_internal_stringslite_HasPrefix
 cases x with
 | nil => rfl
 | cons c t =>
  have s0 : sub (c :: t : By) 0 (([32] : By).length : Int) = some [c] := by
   have := sub_nat (c :: t : By) 0 1 (by omega) (by simp)
   exact this
  have hc : ¬ ([c] : By) = [32] := by
   intro hh
   injection hh with hh _
   exact h t (by rw [hh])
  rw [if_pos (by rw [decide_eq_true_eq]; simp only [List.length_cons, List.length_nil]; omega)]
  simp only [s0, Option.bind_some, decide_eq_false hc, Bool.not_false, if_true]
/-! ### numbers, phases -/
theorem pnumber_t (F : Nat) (s : By) (h : s.length ≤ 1000000) : M_prog_number F s = some (numG s) := by
 unfold M_prog_number numG
 cases hx : Lib.atoiAll s with
 | ok n =>
  have ha : M_strconv_AtoiA F s = some (n, false) := by
   unfold M_strconv_AtoiA MAtoiA
   rw [if_pos (decide_eq_true (by omega)), hx]
  obtain ⟨b1, b2⟩ := Lib.atoiAll_bounds hx
  have hi : M_strconv_Itoa F n = some (itoa n) := by
   unfold M_strconv_Itoa MItoa
   rw [if_pos (decide_eq_true b1), if_pos (decide_eq_true b2)]
  simp only [ha, Option.bind_some, Bool.not_false, Bool.not_true, if_true]
  by_cases c1 : n < 1
  ·simp [c1]
  ·by_cases c2 : itoa n = s
   ·simp [c1, c2, hi]
   ·simp [c1, c2, hi]
 | range =>
  have ha : M_strconv_AtoiA F s = some (Lib.atoiSat s, true) := by
   unfold M_strconv_AtoiA MAtoiA
   rw [if_pos (decide_eq_true (by omega)), hx]
  simp [ha]
 | _ =>
  have ha : M_strconv_AtoiA F s = some (0, true) := by
   unfold M_strconv_AtoiA MAtoiA
   rw [if_pos (decide_eq_true (by omega)), hx]
  simp [ha]
theorem read_eq (F : Nat) (s : By) (h : s.length ≤ 100000) : M_prog_read F s = some (readG s) := by
 unfold M_prog_read readG
 have hl := (cut_len s [32]).2
 simp only [cut_eq F s [32] (by omega) (by decide), Option.bind_some]
 generalize Lib.cut s [32] = c at hl
 obtain ⟨kind, rest, more⟩ := c
 simp only at hl ⊢
 have hl2 := cut_len rest [32]
 cases more with
 | false => rfl
 | true =>
  simp only [Bool.not_true, Bool.false_eq_true, if_false, Bool.true_eq_false]
  by_cases k1 : kind = wOnly
  ·rw [if_pos (decide_eq_true k1), if_pos k1, pnumber_t F rest (by omega)]
   rfl
  rw [if_neg (by rw [decide_eq_true_eq]; exact k1), if_neg k1, cut_eq F rest [32] (by omega) (by decide)]
  simp only [Option.bind_some]
  generalize Lib.cut rest [32] = d at hl2
  obtain ⟨one, behind, mo⟩ := d
  simp only at hl2 ⊢
  have hb : (if decide (behind = []) = true then some ((), kind, one, behind, !decide (one = rest), z23, ()) else some ((), kind, one, behind, false, z23, ()) : Option (Unit × By × By × By × Bool × PhT × Unit)) = some ((), kind, one, behind, decide (behind = [] ∧ one ≠ rest), z23, ()) := by
   by_cases b1 : behind = []
   ·rw [if_pos (decide_eq_true b1)]
    by_cases b2 : one = rest <;> simp [b1, b2]
   ·rw [if_neg (by rw [decide_eq_true_eq]; exact b1)]
    simp [b1]
  rw [hb, Option.bind_some]
  simp only
  by_cases b3 : behind = [] ∧ one ≠ rest
  ·rw [if_pos (decide_eq_true b3), if_pos b3]
  rw [if_neg (by rw [decide_eq_true_eq]; exact b3), if_neg b3]
  by_cases k2 : kind = wNeed
  ·rw [if_pos (decide_eq_true k2), if_pos k2, pnumber_t F behind (by omega)]
   rfl
  rw [if_neg (by rw [decide_eq_true_eq]; exact k2), if_neg k2]
  by_cases k3 : kind = wCall
  ·rw [if_pos (decide_eq_true k3), if_pos k3]
  rw [if_neg (by rw [decide_eq_true_eq]; exact k3), if_neg k3]
  by_cases k4 : kind = wEnd
  ·rw [if_pos (decide_eq_true k4), if_pos k4, pnumber_t F one (by omega)]
   rfl
  rw [if_neg (by rw [decide_eq_true_eq]; exact k4), if_neg k4]
theorem idx59 (x : By) : decide (Lib.indexByte x 59 < 0) = x.all (fun c => c != 59) := by
 have hg := Lib.indexByte_ge x 59
 by_cases h : Lib.indexByte x 59 < 0
 ·rw [decide_eq_true h]
  have hm : Lib.indexByte x 59 = -1 := by omega
  symm
  rw [List.all_eq_true]
  intro c hc
  obtain ⟨k, hk⟩ := List.getElem?_of_mem hc
  have := Lib.indexByte_none hm k
  rw [bne_iff_ne]
  rintro rfl
  exact this hk
 ·rw [decide_eq_false h]
  obtain ⟨o, ho⟩ : ∃ o : Nat, Lib.indexByte x 59 = o := ⟨(Lib.indexByte x 59).toNat, by omega⟩
  have h1 := (Lib.indexByte_some ho).1
  symm
  rw [List.all_eq_false]
  exact ⟨59, List.mem_of_getElem? h1, by decide⟩
theorem ptext_t (x : By) (hx : x.length ≤ 1000) : Tends (fun F => M_prog_text F x) (textG x) := by
 unfold M_prog_text textG
 have hi : ∀ F, M_strings_IndexByte F (x, 59) = some (Lib.indexByte x 59) := fun F => rfl
 have h9 := idx59 x
 by_cases h : Lib.indexByte x 59 < 0
 ·rw [decide_eq_true h] at h9
  rw [← h9, Bool.true_and]
  refine Tends.bind (r := ((checkT x, ()) : Bool × Unit)) (Tends.bind (.of hi) (Tends.pos (decide_eq_true h) (Tends.bind (check_v x hx) (.ret _)))) (.ret _)
 ·rw [decide_eq_false h] at h9
  rw [← h9, Bool.false_and]
  refine Tends.bind (r := ((false, ()) : Bool × Unit)) (Tends.bind (.of hi) (Tends.neg (by rw [decide_eq_true_eq]; exact h) (.ret _))) (.ret _)
def bndP (p : PhT) : Prop := p.2.1.length ≤ 1000 ∧ p.2.2.2.1.length ≤ 1000
theorem right_t (p : PhT) (hp : bndP p) : Tends (fun F => M_prog_right F p) (rightG p) := by
 obtain ⟨k, nm, n, t, u⟩ := p
 obtain ⟨hn, ht⟩ := hp
 simp only at hn ht
 unfold M_prog_right rightG
 simp only
 by_cases k1 : k = 1
 ·rw [if_pos k1]
  refine Tends.pos (decide_eq_true k1) (.of fun F => ?_)
  by_cases c1 : 1 ≤ n
  ·by_cases c2 : n ≤ 80
   ·have hlen : nm.length + t.length ≤ 9223372036854775807 := by omega
    rw [if_pos (decide_eq_true c1)]
    simp only [Option.bind_some, decide_eq_true c2, if_true, decide_eq_true hlen]
    by_cases c3 : nm = [] <;> by_cases c4 : t = [] <;> simp [c1, c3, c4]
   ·simp [c1, c2]
  ·simp [c1]
 rw [if_neg k1]
 refine Tends.neg (by rw [decide_eq_true_eq]; exact k1) ?_
 by_cases k2 : k = 2
 ·rw [if_pos k2]
  refine Tends.pos (decide_eq_true k2) (.of fun F => ?_)
  simp only [name_eq]
  by_cases c1 : 1 ≤ n
  ·by_cases c2 : n ≤ 1073741824
   ·cases hnm : nmP nm <;> simp [c1, c2, hnm]
   ·simp [c1, c2]
  ·simp [c1]
 rw [if_neg k2]
 refine Tends.neg (by rw [decide_eq_true_eq]; exact k2) ?_
 by_cases k3 : k = 3
 ·rw [if_pos k3]
  refine Tends.pos (decide_eq_true k3) ?_
  refine Tends.bind (r := (((), decide (n = 0) && nmP nm, (k, nm, n, t, ()), ()) : Unit × Bool × PhT × Unit)) (.of fun F => by
   simp only [name_eq]
   by_cases c1 : n = 0 <;> simp [c1]) ?_
  refine Tends.bind (r := (((decide (n = 0) && nmP nm) && textG t, ()) : Bool × Unit)) ?_ (.ret _)
  cases hb : (decide (n = 0) && nmP nm) with
  | true => exact Tends.pos rfl (Tends.bind (ptext_t t ht) (.ret _))
  | false => exact Tends.neg Bool.false_ne_true (.ret _)
 rw [if_neg k3]
 refine Tends.neg (by rw [decide_eq_true_eq]; exact k3) ?_
 by_cases k4 : k = 4
 ·rw [if_pos k4]
  refine Tends.pos (decide_eq_true k4) ?_
  refine Tends.bind (r := (((), decide (n = 200) || decide (n = 201), (k, nm, n, t, ()), ()) : Unit × Bool × PhT × Unit)) (.of fun F => by
   by_cases c1 : n = 200 <;> simp [c1]) ?_
  refine Tends.bind (r := (((), (decide (n = 200) || decide (n = 201)) && decide (nm = []), (k, nm, n, t, ()), ()) : Unit × Bool × PhT × Unit)) (.of fun F => by
   cases hb : (decide (n = 200) || decide (n = 201)) <;> simp [hb]) ?_
  refine Tends.bind (r := ((((decide (n = 200) || decide (n = 201)) && decide (nm = [])) && textG t, ()) : Bool × Unit)) ?_ (.ret _)
  cases hb : ((decide (n = 200) || decide (n = 201)) && decide (nm = [])) with
  | true => exact Tends.pos rfl (Tends.bind (ptext_t t ht) (.ret _))
  | false => exact Tends.neg Bool.false_ne_true (.ret _)
 ·rw [if_neg k4]
  exact Tends.neg (by rw [decide_eq_true_eq]; exact k4) (.ret _)
theorem drop_nil_iff {α : Type} (l : List α) (i : Nat) (h : i < l.length) : (l.drop (i + 1) = []) ↔ i = l.length - 1 := by
 rw [List.drop_eq_nil_iff]
 omega
theorem pmay_loop (l : List PhT) (hl : l.length ≤ 1000000) (hb : ∀ p ∈ l, bndP p) : ∀ (n i : Nat), i + n = l.length → TendsL M_prog_May_l0 (l, l, (l.length : Int), (i : Int), ()) (if mayL (l.drop i) = true then .inl () else .inr (false, ()))
 | 0, i, h => by
  refine TendsL.fin (.of fun F => ?_)
  unfold M_prog_May_l0
  rw [if_neg (by rw [decide_eq_true_eq]; simp only; omega), List.drop_eq_nil_of_le (by omega)]
  rfl
 | n + 1, i, h => by
  have hi : i < l.length := by omega
  have hx : idx l (i : Int) = some l[i] := idx_at _ _ _ (List.getElem?_eq_getElem hi)
  have hw : IntKind.i64.wrap ((i : Int) + 1) = ((i + 1 : Nat) : Int) := by rw [wrap64 _ (by omega) (by omega)]; omega
  have hw1 : IntKind.i64.wrap ((l.length : Int) - 1) = ((l.length - 1 : Nat) : Int) := by rw [wrap64 _ (by omega) (by omega)]; omega
  have ih := pmay_loop l hl hb n (i + 1) (by omega)
  have hr := right_t l[i] (hb _ (List.getElem_mem hi))
  have hd := drop_nil_iff l i hi
  rw [List.drop_eq_getElem_cons hi]
  generalize l[i] = p at *
  have hk : decide (l.drop (i + 1) = []) = decide ((i : Int) = ((l.length - 1 : Nat) : Int)) := by
   rw [Bool.eq_iff_iff, decide_eq_true_eq, decide_eq_true_eq, hd]; omega
  have e : mayL (p :: l.drop (i + 1)) = (rightG p && (decide (p.1 = 4) == decide ((i : Int) = ((l.length - 1 : Nat) : Int))) && mayL (l.drop (i + 1))) := by rw [← hk]; rfl
  rw [e]
  have hbody : Tends (fun F => M_prog_May_l0 F (l, l, (l.length : Int), (i : Int), ())) (if (rightG p && (decide (p.1 = 4) == decide ((i : Int) = ((l.length - 1 : Nat) : Int)))) = true then .inl (l, l, (l.length : Int), ((i + 1 : Nat) : Int), ()) else .inr (.inr (false, ()))) := by
   unfold M_prog_May_l0
   refine Tends.pos (by rw [decide_eq_true_eq]; simp only; omega) ?_
   refine Tends.bind (.of fun F => hx) ?_
   refine Tends.bind (r := ((l, l, (l.length : Int), (i : Int), !(rightG p && (decide (p.1 = 4) == decide ((i : Int) = ((l.length - 1 : Nat) : Int)))), ()) : List PhT × List PhT × Int × Int × Bool × Unit)) (Tends.bind hr ?_) ?_
   ·cases hrp : rightG p with
    | true => exact .of fun F => by simp [hw1]
    | false => exact .of fun F => by simp
   ·cases hrp : (rightG p && (decide (p.1 = 4) == decide ((i : Int) = ((l.length - 1 : Nat) : Int)))) with
    | true => exact Tends.neg (by simp) (.of fun F => by simp [hw])
    | false => exact Tends.pos (by simp) (.of fun F => by simp)
  cases hrp : (rightG p && (decide (p.1 = 4) == decide ((i : Int) = ((l.length - 1 : Nat) : Int)))) with
  | true =>
   rw [hrp, if_pos rfl] at hbody
   rw [Bool.true_and]
   exact TendsL.step hbody ih
  | false =>
   rw [hrp, if_neg Bool.false_ne_true] at hbody
   rw [Bool.false_and, if_neg Bool.false_ne_true]
   exact TendsL.fin hbody
theorem pmay_t (l : List PhT) (hl : l.length ≤ 1000000) (hb : ∀ p ∈ l, bndP p) : Tends (fun F => M_prog_May F l) (mayG l) := by
 unfold M_prog_May mayG
 refine Tends.bind (r := ((l, !(decide (1 ≤ l.length) && decide (l.length ≤ 5)), ()) : List PhT × Bool × Unit)) (.of fun F => ?_) ?_
 ·by_cases h0 : l.length = 0
  ·rw [if_neg (by rw [decide_eq_true (by omega)]; decide), decide_eq_false (by omega)]
   rfl
  ·rw [if_pos (decide_eq_false (by omega)), decide_eq_true (by omega : 1 ≤ l.length), Bool.true_and]
   by_cases h5 : l.length ≤ 5
   ·rw [decide_eq_false (by omega), decide_eq_true h5]; rfl
   ·rw [decide_eq_true (by omega), decide_eq_false h5]; rfl
 cases hc : (decide (1 ≤ l.length) && decide (l.length ≤ 5)) with
 | false => exact Tends.pos rfl (.ret _)
 | true =>
  refine Tends.neg (by simp) ?_
  have h := pmay_loop l hl hb l.length 0 (by omega)
  rw [List.drop_zero] at h
  refine Tends.bind h.run ?_
  rw [Bool.true_and]
  cases mayL l <;> exact .ret _
end Go.Vm
