import Derived.Test.YtocgjbdimjlfhaaGreatDoorPg3
import Derived.Test.YtocgjbdimjlfhaaGreatDoorPk3
import Derived.Test.YtocgjbdimjlfhaaGreatDoorFprog
import Derived.Lib.AtoiAllCases
/- Tables: patterns, what fits, rules, their lines: plainly. No condition. -/
namespace Go.Vm
open Go.Lib (decDigits itoa decodeL)
set_option linter.unusedVariables false
set_option linter.unusedSimpArgs false
/-! ### paths and patterns -/
def formG (s : By) : Bool := (pathF s).2 && decide ((pathF s).1 = s)
def partsG (s : By) : List By := match s with
  | [] => []
  | c :: t => if c = 47 then (if t = [] then [] else splC 47 t) else []
def patL : List By → Bool
  | [] => true
  | x :: r => (decide (x = [42]) || (decide (x = [42, 42]) && decide (r = [])) || (decide (x ≠ []) && formG (47 :: x))) && patL r
def patG (s : By) : Bool := decide (s ≠ []) && decide (s.length ≤ 60) && decide (s.head? = some 47) && patL (partsG s)
def fitsL : List By → List By → Bool
  | [], b => decide (b = [])
  | _ :: _, [] => false
  | x :: l, y :: b => if x = [42, 42] then true else if x = [42] ∨ x = y then fitsL l b else false
def fitsG (p s : By) : Bool := patG p && formG s && fitsL (partsG p) (partsG s)
def methG (s : By) : Bool := decide (s = [42]) || ((methF s).2 && decide ((methF s).1 = s))
abbrev RlT := By × By × List PhT × Unit
def ruleG (r : RlT) : Bool := methG r.1 && patG r.2.1 && mayG r.2.2.1
def mayR (l : List RlT) : Bool := decide (1 ≤ l.length) && decide (l.length ≤ 8) && l.all ruleG
def lineG (r : RlT) : By := r.1 ++ 32 :: (r.2.1 ++ 58 :: 32 :: printG r.2.2.1)
def printR (l : List RlT) : By := joinD 10 (l.map lineG)
def noSep (s : By) : Prop := ∀ b ∈ s, b ≠ 10 ∧ b ≠ 32 ∧ b ≠ 58
theorem noSep.app {a b : By} (ha : noSep a) (hb : noSep b) : noSep (a ++ b) := fun x hx => (List.mem_append.1 hx).elim (ha x) (hb x)
theorem hexU_tab : ∀ n : Fin 16, hexU n.val ≠ 10 ∧ hexU n.val ≠ 32 ∧ hexU n.val ≠ 58 := by decide +kernel
theorem plainB_no {c : UInt8} (h : plainB c = true) : c ≠ 10 ∧ c ≠ 32 ∧ c ≠ 58 := by
  refine ⟨?_, ?_, ?_⟩ <;> rintro rfl <;> exact absurd h (by decide)
theorem write_no (s : By) : noSep (writeL s) := by
  intro b hb
  unfold writeL at hb
  obtain ⟨c, _, hc⟩ := List.mem_flatMap.1 hb
  unfold wr1 at hc
  split at hc
  · rename_i hp
    rw [List.mem_singleton] at hc
    subst hc
    exact plainB_no hp
  · have hlt := c.toNat_lt
    simp only [List.mem_cons, List.not_mem_nil, or_false] at hc
    rcases hc with rfl | rfl | rfl
    · decide
    · exact hexU_tab ⟨c.toNat / 16, by omega⟩
    · exact hexU_tab ⟨c.toNat % 16, by omega⟩
theorem joinP_no (l : List By) : noSep (joinP l) := by
  intro b hb
  unfold joinP at hb
  obtain ⟨q, _, hq⟩ := List.mem_flatMap.1 hb
  rcases List.mem_cons.1 hq with rfl | hq
  · decide
  · exact write_no q b hq
theorem path_no (s : By) : noSep (pathF s).1 := by
  have h0 : noSep ([] : By) := fun b hb => by cases hb
  cases s with
  | nil => exact h0
  | cons c t =>
    by_cases h : 59 < t.length ∨ c ≠ 47
    · rw [pathF_out h]; exact h0
    · have hc : c = 47 := Classical.byContradiction fun hh => h (.inr hh)
      subst hc
      rw [pathF_in fun hh => h (.inl hh)]
      split
      · exact h0
      · rename_i l _
        have hj : noSep (if joinP l = [] then [47] else joinP l) := by
          split
          · intro b hb
            rw [List.mem_singleton] at hb
            subst hb
            decide
          · exact joinP_no l
        unfold finP
        generalize (if joinP l = [] then [47] else joinP l : By) = w at hj
        by_cases hw : 60 < w.length
        · rw [if_pos hw]; exact h0
        · rw [if_neg hw]; exact hj
theorem form_no {s : By} (h : formG s = true) : noSep s := by
  unfold formG at h
  rw [Bool.and_eq_true, decide_eq_true_eq] at h
  have := path_no s
  rw [h.2] at this
  exact this
theorem patL_no : ∀ l : List By, patL l = true → ∀ x ∈ l, noSep x
  | [], h, x, hx => by cases hx
  | y :: l, h, x, hx => by
    unfold patL at h
    rw [Bool.and_eq_true] at h
    rcases List.mem_cons.1 hx with rfl | hx
    · have h1 := h.1
      simp only [Bool.or_eq_true, Bool.and_eq_true, decide_eq_true_eq] at h1
      rcases h1 with (rfl | ⟨rfl, _⟩) | ⟨_, h2⟩
      · intro b hb
        rw [List.mem_singleton] at hb
        subst hb
        decide
      · intro b hb
        simp only [List.mem_cons, List.not_mem_nil, or_false, or_self] at hb
        subst hb
        decide
      · exact fun b hb => form_no h2 b (List.mem_cons_of_mem _ hb)
    · exact patL_no l h.2 x hx
theorem joinD_no (d : UInt8) (hd : d ≠ 10 ∧ d ≠ 32 ∧ d ≠ 58) : ∀ l : List By, (∀ x ∈ l, noSep x) → noSep (joinD d l)
  | [], h => fun b hb => by cases hb
  | [p], h => h p (List.mem_cons_self ..)
  | p :: q :: r, h => by
    rw [joinD_cons d p (by simp)]
    refine (h p (List.mem_cons_self ..)).app ?_
    intro b hb
    rcases List.mem_cons.1 hb with rfl | hb
    · exact hd
    · exact joinD_no d hd (q :: r) (fun x hx => h x (List.mem_cons_of_mem _ hx)) b hb
theorem pat_no {s : By} (h : patG s = true) : noSep s := by
  unfold patG at h
  simp only [Bool.and_eq_true, decide_eq_true_eq] at h
  obtain ⟨⟨⟨h1, _⟩, h2⟩, h3⟩ := h
  cases s with
  | nil => exact absurd rfl h1
  | cons c t =>
    have hc : c = 47 := by simpa using h2
    subst hc
    intro b hb
    rcases List.mem_cons.1 hb with rfl | hb
    · decide
    · by_cases ht : t = []
      · subst ht; cases hb
      · have e : partsG (47 :: t) = splC 47 t := by unfold partsG; simp only [if_true]; rw [if_neg ht]
        rw [e] at h3
        have := joinD_no 47 (by decide) (splC 47 t) (patL_no _ h3)
        rw [join_splC] at this
        exact this b hb
theorem meth_no {s : By} (h : methG s = true) : noSep s := by
  unfold methG at h
  simp only [Bool.or_eq_true, Bool.and_eq_true, decide_eq_true_eq] at h
  rcases h with rfl | ⟨h1, h2⟩
  · intro b hb
    rw [List.mem_singleton] at hb
    subst hb
    decide
  · unfold methF at h1
    split at h1
    · cases h1
    · split at h1
      · rename_i ha
        intro b hb
        have := List.all_eq_true.1 ha b hb
        refine ⟨?_, ?_, ?_⟩ <;> rintro rfl <;> exact absurd this (by decide)
      · cases h1
theorem encN_big {d : Nat} (h : okR d) (hd : ¬ d < 128) : ∀ b ∈ encN d, 128 ≤ b.toNat := by
  obtain ⟨o1, o2⟩ := h
  have ne : ∀ k : Nat, 128 ≤ k → k < 256 → 128 ≤ (UInt8.ofNat k).toNat := by
    intro k h1 h2
    have e : (UInt8.ofNat k).toNat = k := by simp; omega
    omega
  intro b hb
  unfold encN at hb
  rw [if_neg hd] at hb
  split at hb
  · simp only [List.mem_cons, List.not_mem_nil, or_false] at hb
    rcases hb with rfl | rfl <;> exact ne _ (by omega) (by omega)
  split at hb
  · simp only [List.mem_cons, List.not_mem_nil, or_false] at hb
    rcases hb with rfl | rfl | rfl <;> exact ne _ (by omega) (by omega)
  · simp only [List.mem_cons, List.not_mem_nil, or_false] at hb
    rcases hb with rfl | rfl | rfl | rfl <;> exact ne _ (by omega) (by omega)
theorem allS_bytes : ∀ s : By, allS s = true → ∀ b ∈ s, b ≠ 10 := by
  refine signs_ind ?_ ?_
  · intro _ b hb; cases hb
  · intro l h ih ha b hb
    rw [allS_cons h, Bool.and_eq_true, decide_eq_true_eq] at ha
    obtain ⟨hs, ha⟩ := ha
    have hbad : ¬ ((decodeL l).1 = 65533 ∧ (decodeL l).2 = 1) := by
      rintro ⟨h1, _⟩
      rw [h1] at hs
      exact hs (by decide)
    rw [← List.take_append_drop (decodeL l).2 l] at hb
    rcases List.mem_append.1 hb with hb | hb
    · rw [take_encN l h hbad] at hb
      have hok := rune_ok l
      generalize (decodeL l).1 = d at *
      by_cases hd : d < 128
      · have e : encN d = [UInt8.ofNat d] := by unfold encN; rw [if_pos hd]
        rw [e, List.mem_singleton] at hb
        subst hb
        intro h10
        have := congrArg UInt8.toNat h10
        have e2 : (UInt8.ofNat d).toNat = d := by simp; omega
        rw [e2] at this
        have h3 : d = 10 := this
        subst h3
        exact hs (by decide)
      · have := encN_big hok hd b hb
        rintro rfl
        exact absurd this (by decide)
    · exact ih ha b hb
theorem check_all {t : By} (h : checkT t = true) : allS t = true := by
  unfold checkT at h
  rw [Bool.and_eq_true] at h
  have h2 := check_tok t
  rw [h.2, Bool.and_eq_true] at h2
  exact h2.1
theorem text_no10 {p : PhT} (h : rightG p = true) : ∀ b ∈ phText p, b ≠ 10 := by
  have hdig : ∀ n : Nat, ∀ b ∈ itoa (n : Int), b ≠ 10 := by
    intro n b hb
    have := itoa_dig n b hb
    rintro rfl
    exact absurd this (by decide)
  have hnm : ∀ {s : By}, nmP s = true → ∀ b ∈ s, b ≠ 10 := by
    intro s hs b hb
    unfold nmP at hs
    simp only [Bool.and_eq_true] at hs
    have := List.all_eq_true.1 hs.1.1 b hb
    rintro rfl
    exact absurd this (by decide)
  have htx : ∀ {t : By}, textG t = true → ∀ b ∈ t, b ≠ 10 := by
    intro t ht
    unfold textG at ht
    rw [Bool.and_eq_true] at ht
    exact allS_bytes t (check_all ht.2)
  rcases right_cases h with ⟨n, rfl, h1, h2⟩ | ⟨nm, n, rfl, h3, h1, h2⟩ | ⟨nm, t, rfl, h2, h3⟩ | ⟨n, t, rfl, h1, h3⟩
  · exact app_no (a := wOnly) (by decide) (cons_no (by decide) (hdig n))
  · exact app_no (a := wNeed) (by decide) (cons_no (by decide) (app_no (hnm h3) (cons_no (by decide) (hdig n))))
  · exact app_no (a := wCall) (by decide) (cons_no (by decide) (app_no (hnm h2) (tailG_no (by decide) (htx h3))))
  · exact app_no (a := wEnd) (by decide) (cons_no (by decide) (app_no (hdig n) (tailG_no (by decide) (htx h3))))
theorem print_no10 {l : List PhT} (h : mayG l = true) : ∀ b ∈ printG l, b ≠ 10 := by
  obtain ⟨h1, _, _⟩ := may_right h
  cases l with
  | nil => intro b hb; cases hb
  | cons p r =>
    rw [printG_cons]
    refine app_no (text_no10 (h1 p (List.mem_cons_self ..))) ?_
    have : ∀ r : List PhT, (∀ q ∈ r, rightG q = true) → ∀ b ∈ Lib.joinTail [59, 32] (r.map phText), b ≠ 10 := by
      intro r
      induction r with
      | nil => intro _ b hb; cases hb
      | cons q r ih =>
        intro hq
        show ∀ b ∈ [59, 32] ++ phText q ++ Lib.joinTail [59, 32] (r.map phText), b ≠ 10
        exact app_no (app_no (by decide) (text_no10 (hq q (List.mem_cons_self ..)))) (ih fun x hx => hq x (List.mem_cons_of_mem _ hx))
    exact this r fun q hq => h1 q (List.mem_cons_of_mem _ hq)
theorem line_no10 {r : RlT} (h : ruleG r = true) : ∀ b ∈ lineG r, b ≠ 10 := by
  unfold ruleG at h
  simp only [Bool.and_eq_true] at h
  obtain ⟨⟨h1, h2⟩, h3⟩ := h
  exact app_no (fun b hb => (meth_no h1 b hb).1) (cons_no (by decide) (app_no (fun b hb => (pat_no h2 b hb).1) (cons_no (by decide) (cons_no (by decide) (print_no10 h3)))))
/-! ### lines -/
theorem cut2_hit {a : By} (ha : ∀ b ∈ a, b ≠ 58) (t : By) : Lib.cut (a ++ 58 :: 32 :: t) [58, 32] = (a, t, true) := by
  have hi : Lib.index (a ++ 58 :: 32 :: t) [58, 32] = (a.length : Int) := by
    refine Lib.index_first (by simp) ?_ fun j hj => ?_
    · unfold Lib.occAt
      rw [List.drop_left]
      simp [List.isPrefixOf]
    · cases h : Lib.occAt (a ++ 58 :: 32 :: t) [58, 32] j with
      | false => rfl
      | true =>
        have := Lib.occAt_head (c := 58) (t := [32]) rfl h
        rw [List.getElem?_append_left hj] at this
        exact absurd rfl (ha 58 (List.mem_of_getElem? this))
  unfold Lib.cut
  rw [hi, if_pos (by omega)]
  simp
def lineP (x : By) : Option RlT := if (Lib.cut x [58, 32]).2.2 = false ∨ (Lib.cut (Lib.cut x [58, 32]).1 [32]).2.2 = false ∨ (parseT (Lib.cut x [58, 32]).2.1).2 ≠ 0 then none
  else some ((Lib.cut (Lib.cut x [58, 32]).1 [32]).1, (Lib.cut (Lib.cut x [58, 32]).1 [32]).2.1, (parseT (Lib.cut x [58, 32]).2.1).1, ())
theorem line_parse (r : RlT) (h : ruleG r = true) : lineP (lineG r) = some r := by
  obtain ⟨m, p, pr, u⟩ := r
  unfold ruleG at h
  simp only [Bool.and_eq_true] at h
  obtain ⟨⟨h1, h2⟩, h3⟩ := h
  have e : lineG (m, p, pr, u) = (m ++ 32 :: p) ++ 58 :: 32 :: printG pr := by unfold lineG; simp [List.append_assoc]
  have hc := cut2_hit (a := m ++ 32 :: p) (app_no (fun b hb => (meth_no h1 b hb).2.2) (cons_no (by decide) fun b hb => (pat_no h2 b hb).2.2)) (printG pr)
  have hd := cut_hit (d := 32) (p := m) (fun b hb => (meth_no h1 b hb).2.1) p
  unfold lineP
  rw [e, hc]
  simp only
  rw [hd, parseT_print pr h3]
  simp only
  rw [if_neg]
  rintro (h | h | h)
  · cases h
  · cases h
  · exact h rfl
def linesP : List By → Option (List RlT)
  | [] => some []
  | x :: xs => match lineP x with
    | none => none
    | some r => (linesP xs).map (r :: ·)
def parseR (s : By) : List RlT × Int := match linesP (splC 10 s) with
  | some l => if mayR l = true then (l, 0) else ([], 3)
  | none => ([], 3)
theorem lines_parse : ∀ l : List RlT, (∀ r ∈ l, ruleG r = true) → linesP (l.map lineG) = some l
  | [], h => rfl
  | r :: l, h => by
    rw [List.map_cons]
    unfold linesP
    rw [line_parse r (h r (List.mem_cons_self ..))]
    simp only
    rw [lines_parse l fun q hq => h q (List.mem_cons_of_mem _ hq)]
    rfl
theorem mayR_all {l : List RlT} (h : mayR l = true) : l ≠ [] ∧ l.length ≤ 8 ∧ ∀ r ∈ l, ruleG r = true := by
  unfold mayR at h
  simp only [Bool.and_eq_true, decide_eq_true_eq] at h
  refine ⟨?_, h.1.2, fun r hr => List.all_eq_true.1 h.2 r hr⟩
  rintro rfl
  simp at h
theorem parseR_print (l : List RlT) (h : mayR l = true) : parseR (printR l) = (l, 0) := by
  obtain ⟨h0, _, h1⟩ := mayR_all h
  have hs : splC 10 (printR l) = l.map lineG := splC_join _ (by simpa using h0) fun x hx => by
    obtain ⟨r, hr, rfl⟩ := List.mem_map.1 hx
    exact line_no10 (h1 r hr)
  unfold parseR
  rw [hs, lines_parse l h1]
  exact if_pos h
end Go.Vm
/- Programs: the program's functions are the plain ones. No condition but on lengths. -/
namespace Go.Vm
open Go.Proofs
open Go.Lib (decDigits itoa)
set_option linter.unusedVariables false
set_option linter.unusedSimpArgs false
/-! ### cutting -/
theorem index_t (F : Nat) (s c : By) (h : s.length ≤ 4294967280) : M_internal_stringslite_Index F (s, c) = some (Lib.index s c) := by
  unfold M_internal_stringslite_Index MIndex
  exact if_pos (decide_eq_true h)
theorem cut_len (s d : By) : (Lib.cut s d).1.length ≤ s.length ∧ (Lib.cut s d).2.1.length ≤ s.length := by
  unfold Lib.cut
  split
  · exact ⟨by simp only [List.length_take]; omega, by simp only [List.length_drop]; omega⟩
  · exact ⟨Nat.le_refl _, Nat.zero_le _⟩
theorem cut_eq (F : Nat) (s d : By) (h : s.length ≤ 1000000) (hd : d.length ≤ 1000) : M_strings_Cut F (s, d) = some (Lib.cut s d) := by
  unfold M_strings_Cut M_internal_stringslite_Cut
  simp only [index_t F s d (by omega), Option.bind_some]
  have hr := Lib.index_room s d
  have hg := Lib.index_ge s d
  by_cases h0 : 0 ≤ Lib.index s d
  · obtain ⟨i, hi⟩ : ∃ i : Nat, Lib.index s d = i := ⟨(Lib.index s d).toNat, by omega⟩
    have hr' := hr h0
    rw [hi] at hr'
    have s1 : sub s 0 (i : Int) = some (s.take i) := by
      have := sub_nat s 0 i (Nat.zero_le _) (by omega)
      simpa using this
    have s2 : sub s ((i + d.length : Nat) : Int) (s.length : Int) = some (s.drop (i + d.length)) := sub_to_end s _ (by omega)
    have hw : IntKind.i64.wrap ((i : Int) + (d.length : Int)) = ((i + d.length : Nat) : Int) := by rw [wrap64 _ (by omega) (by omega)]; omega
    have e : Lib.cut s d = (s.take i, s.drop (i + d.length), true) := by
      unfold Lib.cut
      rw [hi, if_pos (by omega), Int.toNat_natCast]
    rw [hi, if_pos (by rw [decide_eq_true_eq]; omega), e]
    simp only [s1, hw, s2, Option.bind_some]
  · have e : Lib.cut s d = (s, [], false) := by unfold Lib.cut; rw [if_neg h0]
    rw [if_neg (by rw [decide_eq_true_eq]; exact h0), e]
    rfl
theorem pre_hit (F : Nat) (t : By) (h : t.length ≤ 1000000) : M_strings_CutPrefix F (32 :: t, [32]) = some (t, true) := by
  unfold M_strings_CutPrefix M_internal_stringslite_CutPrefix M_internal_stringslite_HasPrefix
  have s0 : sub (32 :: t : By) 0 (([32] : By).length : Int) = some [32] := by
    have := sub_nat (32 :: t : By) 0 1 (by omega) (by simp)
    exact this
  have s1 : sub (32 :: t : By) (([32] : By).length : Int) ((32 :: t : By).length : Int) = some t := sub_to_end (32 :: t : By) 1 (by simp)
  rw [if_pos (by rw [decide_eq_true_eq]; simp only [List.length_cons, List.length_nil]; omega)]
  simp only [s0, Option.bind_some, decide_true, Bool.not_true, Bool.false_eq_true, if_false, s1]
theorem pre_miss (F : Nat) (x : By) (h : ∀ t, x ≠ 32 :: t) : M_strings_CutPrefix F (x, [32]) = some (x, false) := by
  unfold M_strings_CutPrefix M_internal_stringslite_CutPrefix M_internal_stringslite_HasPrefix
  cases x with
  | nil => rfl
  | cons c t =>
    have s0 : sub (c :: t : By) 0 (([32] : By).length : Int) = some [c] := by
      have := sub_nat (c :: t : By) 0 1 (by omega) (by simp)
      exact this
    have hc : ¬ ([c] : By) = [32] := by
      intro hh
      injection hh with hh _
      exact h t (by rw [hh])
    rw [if_pos (by rw [decide_eq_true_eq]; simp only [List.length_cons, List.length_nil]; omega)]
    simp only [s0, Option.bind_some, decide_eq_false hc, Bool.not_false, if_true]
/-! ### numbers, phases -/
theorem pnumber_t (F : Nat) (s : By) (h : s.length ≤ 1000000) : M_prog_number F s = some (numG s) := by
  unfold M_prog_number numG
  cases hx : Lib.atoiAll s with
  | ok n =>
    have ha : M_strconv_AtoiA F s = some (n, false) := by
      unfold M_strconv_AtoiA MAtoiA
      rw [if_pos (decide_eq_true (by omega)), hx]
    obtain ⟨b1, b2⟩ := Lib.atoiAll_bounds hx
    have hi : M_strconv_Itoa F n = some (itoa n) := by
      unfold M_strconv_Itoa MItoa
      rw [if_pos (decide_eq_true b1), if_pos (decide_eq_true b2)]
    simp only [ha, Option.bind_some, Bool.not_false, Bool.not_true, if_true]
    by_cases c1 : n < 1
    · simp [c1]
    · by_cases c2 : itoa n = s
      · simp [c1, c2, hi]
      · simp [c1, c2, hi]
  | range =>
    have ha : M_strconv_AtoiA F s = some (Lib.atoiSat s, true) := by
      unfold M_strconv_AtoiA MAtoiA
      rw [if_pos (decide_eq_true (by omega)), hx]
    simp [ha]
  | _ =>
    have ha : M_strconv_AtoiA F s = some (0, true) := by
      unfold M_strconv_AtoiA MAtoiA
      rw [if_pos (decide_eq_true (by omega)), hx]
    simp [ha]
theorem read_eq (F : Nat) (s : By) (h : s.length ≤ 100000) : M_prog_read F s = some (readG s) := by
  unfold M_prog_read readG
  have hl := (cut_len s [32]).2
  simp only [cut_eq F s [32] (by omega) (by decide), Option.bind_some]
  generalize Lib.cut s [32] = c at hl
  obtain ⟨kind, rest, more⟩ := c
  simp only at hl ⊢
  have hl2 := cut_len rest [32]
  cases more with
  | false => rfl
  | true =>
    simp only [Bool.not_true, Bool.false_eq_true, if_false, Bool.true_eq_false]
    by_cases k1 : kind = wOnly
    · rw [if_pos (decide_eq_true k1), if_pos k1, pnumber_t F rest (by omega)]
      rfl
    rw [if_neg (by rw [decide_eq_true_eq]; exact k1), if_neg k1, cut_eq F rest [32] (by omega) (by decide)]
    simp only [Option.bind_some]
    generalize Lib.cut rest [32] = d at hl2
    obtain ⟨one, behind, mo⟩ := d
    simp only at hl2 ⊢
    have hb : (if decide (behind = []) = true then some ((), kind, one, behind, !decide (one = rest), z23, ()) else some ((), kind, one, behind, false, z23, ()) : Option (Unit × By × By × By × Bool × PhT × Unit)) = some ((), kind, one, behind, decide (behind = [] ∧ one ≠ rest), z23, ()) := by
      by_cases b1 : behind = []
      · rw [if_pos (decide_eq_true b1)]
        by_cases b2 : one = rest <;> simp [b1, b2]
      · rw [if_neg (by rw [decide_eq_true_eq]; exact b1)]
        simp [b1]
    rw [hb, Option.bind_some]
    simp only
    by_cases b3 : behind = [] ∧ one ≠ rest
    · rw [if_pos (decide_eq_true b3), if_pos b3]
    rw [if_neg (by rw [decide_eq_true_eq]; exact b3), if_neg b3]
    by_cases k2 : kind = wNeed
    · rw [if_pos (decide_eq_true k2), if_pos k2, pnumber_t F behind (by omega)]
      rfl
    rw [if_neg (by rw [decide_eq_true_eq]; exact k2), if_neg k2]
    by_cases k3 : kind = wCall
    · rw [if_pos (decide_eq_true k3), if_pos k3]
    rw [if_neg (by rw [decide_eq_true_eq]; exact k3), if_neg k3]
    by_cases k4 : kind = wEnd
    · rw [if_pos (decide_eq_true k4), if_pos k4, pnumber_t F one (by omega)]
      rfl
    rw [if_neg (by rw [decide_eq_true_eq]; exact k4), if_neg k4]
theorem idx59 (x : By) : decide (Lib.indexByte x 59 < 0) = x.all (fun c => c != 59) := by
  have hg := Lib.indexByte_ge x 59
  by_cases h : Lib.indexByte x 59 < 0
  · rw [decide_eq_true h]
    have hm : Lib.indexByte x 59 = -1 := by omega
    symm
    rw [List.all_eq_true]
    intro c hc
    obtain ⟨k, hk⟩ := List.getElem?_of_mem hc
    have := Lib.indexByte_none hm k
    rw [bne_iff_ne]
    rintro rfl
    exact this hk
  · rw [decide_eq_false h]
    obtain ⟨o, ho⟩ : ∃ o : Nat, Lib.indexByte x 59 = o := ⟨(Lib.indexByte x 59).toNat, by omega⟩
    have h1 := (Lib.indexByte_some ho).1
    symm
    rw [List.all_eq_false]
    exact ⟨59, List.mem_of_getElem? h1, by decide⟩
theorem ptext_t (x : By) (hx : x.length ≤ 1000) : Tends (fun F => M_prog_text F x) (textG x) := by
  unfold M_prog_text textG
  have hi : ∀ F, M_strings_IndexByte F (x, 59) = some (Lib.indexByte x 59) := fun F => rfl
  have h9 := idx59 x
  by_cases h : Lib.indexByte x 59 < 0
  · rw [decide_eq_true h] at h9
    rw [← h9, Bool.true_and]
    refine Tends.bind (r := ((checkT x, ()) : Bool × Unit)) (Tends.bind (.of hi) (Tends.pos (decide_eq_true h) (Tends.bind (check_v x hx) (.ret _)))) (.ret _)
  · rw [decide_eq_false h] at h9
    rw [← h9, Bool.false_and]
    refine Tends.bind (r := ((false, ()) : Bool × Unit)) (Tends.bind (.of hi) (Tends.neg (by rw [decide_eq_true_eq]; exact h) (.ret _))) (.ret _)
def bndP (p : PhT) : Prop := p.2.1.length ≤ 1000 ∧ p.2.2.2.1.length ≤ 1000
theorem right_t (p : PhT) (hp : bndP p) : Tends (fun F => M_prog_right F p) (rightG p) := by
  obtain ⟨k, nm, n, t, u⟩ := p
  obtain ⟨hn, ht⟩ := hp
  simp only at hn ht
  unfold M_prog_right rightG
  simp only
  by_cases k1 : k = 1
  · rw [if_pos k1]
    refine Tends.pos (decide_eq_true k1) (.of fun F => ?_)
    by_cases c1 : 1 ≤ n
    · by_cases c2 : n ≤ 80
      · have hlen : nm.length + t.length ≤ 9223372036854775807 := by omega
        rw [if_pos (decide_eq_true c1)]
        simp only [Option.bind_some, decide_eq_true c2, if_true, decide_eq_true hlen]
        by_cases c3 : nm = [] <;> by_cases c4 : t = [] <;> simp [c1, c3, c4]
      · simp [c1, c2]
    · simp [c1]
  rw [if_neg k1]
  refine Tends.neg (by rw [decide_eq_true_eq]; exact k1) ?_
  by_cases k2 : k = 2
  · rw [if_pos k2]
    refine Tends.pos (decide_eq_true k2) (.of fun F => ?_)
    simp only [name_eq]
    by_cases c1 : 1 ≤ n
    · by_cases c2 : n ≤ 1073741824
      · cases hnm : nmP nm <;> simp [c1, c2, hnm]
      · simp [c1, c2]
    · simp [c1]
  rw [if_neg k2]
  refine Tends.neg (by rw [decide_eq_true_eq]; exact k2) ?_
  by_cases k3 : k = 3
  · rw [if_pos k3]
    refine Tends.pos (decide_eq_true k3) ?_
    refine Tends.bind (r := (((), decide (n = 0) && nmP nm, (k, nm, n, t, ()), ()) : Unit × Bool × PhT × Unit)) (.of fun F => by
      simp only [name_eq]
      by_cases c1 : n = 0 <;> simp [c1]) ?_
    refine Tends.bind (r := (((decide (n = 0) && nmP nm) && textG t, ()) : Bool × Unit)) ?_ (.ret _)
    cases hb : (decide (n = 0) && nmP nm) with
    | true => exact Tends.pos rfl (Tends.bind (ptext_t t ht) (.ret _))
    | false => exact Tends.neg Bool.false_ne_true (.ret _)
  rw [if_neg k3]
  refine Tends.neg (by rw [decide_eq_true_eq]; exact k3) ?_
  by_cases k4 : k = 4
  · rw [if_pos k4]
    refine Tends.pos (decide_eq_true k4) ?_
    refine Tends.bind (r := (((), decide (n = 200) || decide (n = 201), (k, nm, n, t, ()), ()) : Unit × Bool × PhT × Unit)) (.of fun F => by
      by_cases c1 : n = 200 <;> simp [c1]) ?_
    refine Tends.bind (r := (((), (decide (n = 200) || decide (n = 201)) && decide (nm = []), (k, nm, n, t, ()), ()) : Unit × Bool × PhT × Unit)) (.of fun F => by
      cases hb : (decide (n = 200) || decide (n = 201)) <;> simp [hb]) ?_
    refine Tends.bind (r := ((((decide (n = 200) || decide (n = 201)) && decide (nm = [])) && textG t, ()) : Bool × Unit)) ?_ (.ret _)
    cases hb : ((decide (n = 200) || decide (n = 201)) && decide (nm = [])) with
    | true => exact Tends.pos rfl (Tends.bind (ptext_t t ht) (.ret _))
    | false => exact Tends.neg Bool.false_ne_true (.ret _)
  · rw [if_neg k4]
    exact Tends.neg (by rw [decide_eq_true_eq]; exact k4) (.ret _)
theorem drop_nil_iff {α : Type} (l : List α) (i : Nat) (h : i < l.length) : (l.drop (i + 1) = []) ↔ i = l.length - 1 := by
  rw [List.drop_eq_nil_iff]
  omega
theorem pmay_loop (l : List PhT) (hl : l.length ≤ 1000000) (hb : ∀ p ∈ l, bndP p) : ∀ (n i : Nat), i + n = l.length → TendsL M_prog_May_l0 (l, l, (l.length : Int), (i : Int), ()) (if mayL (l.drop i) = true then .inl () else .inr (false, ()))
  | 0, i, h => by
    refine TendsL.fin (.of fun F => ?_)
    unfold M_prog_May_l0
    rw [if_neg (by rw [decide_eq_true_eq]; simp only; omega), List.drop_eq_nil_of_le (by omega)]
    rfl
  | n + 1, i, h => by
    have hi : i < l.length := by omega
    have hx : idx l (i : Int) = some l[i] := idx_at _ _ _ (List.getElem?_eq_getElem hi)
    have hw : IntKind.i64.wrap ((i : Int) + 1) = ((i + 1 : Nat) : Int) := by rw [wrap64 _ (by omega) (by omega)]; omega
    have hw1 : IntKind.i64.wrap ((l.length : Int) - 1) = ((l.length - 1 : Nat) : Int) := by rw [wrap64 _ (by omega) (by omega)]; omega
    have ih := pmay_loop l hl hb n (i + 1) (by omega)
    have hr := right_t l[i] (hb _ (List.getElem_mem hi))
    have hd := drop_nil_iff l i hi
    rw [List.drop_eq_getElem_cons hi]
    generalize l[i] = p at *
    have hk : decide (l.drop (i + 1) = []) = decide ((i : Int) = ((l.length - 1 : Nat) : Int)) := by
      rw [Bool.eq_iff_iff, decide_eq_true_eq, decide_eq_true_eq, hd]; omega
    have e : mayL (p :: l.drop (i + 1)) = (rightG p && (decide (p.1 = 4) == decide ((i : Int) = ((l.length - 1 : Nat) : Int))) && mayL (l.drop (i + 1))) := by rw [← hk]; rfl
    rw [e]
    have hbody : Tends (fun F => M_prog_May_l0 F (l, l, (l.length : Int), (i : Int), ())) (if (rightG p && (decide (p.1 = 4) == decide ((i : Int) = ((l.length - 1 : Nat) : Int)))) = true then .inl (l, l, (l.length : Int), ((i + 1 : Nat) : Int), ()) else .inr (.inr (false, ()))) := by
      unfold M_prog_May_l0
      refine Tends.pos (by rw [decide_eq_true_eq]; simp only; omega) ?_
      refine Tends.bind (.of fun F => hx) ?_
      refine Tends.bind (r := ((l, l, (l.length : Int), (i : Int), !(rightG p && (decide (p.1 = 4) == decide ((i : Int) = ((l.length - 1 : Nat) : Int)))), ()) : List PhT × List PhT × Int × Int × Bool × Unit)) (Tends.bind hr ?_) ?_
      · cases hrp : rightG p with
        | true => exact .of fun F => by simp [hw1]
        | false => exact .of fun F => by simp
      · cases hrp : (rightG p && (decide (p.1 = 4) == decide ((i : Int) = ((l.length - 1 : Nat) : Int)))) with
        | true => exact Tends.neg (by simp) (.of fun F => by simp [hw])
        | false => exact Tends.pos (by simp) (.of fun F => by simp)
    cases hrp : (rightG p && (decide (p.1 = 4) == decide ((i : Int) = ((l.length - 1 : Nat) : Int)))) with
    | true =>
      rw [hrp, if_pos rfl] at hbody
      rw [Bool.true_and]
      exact TendsL.step hbody ih
    | false =>
      rw [hrp, if_neg Bool.false_ne_true] at hbody
      rw [Bool.false_and, if_neg Bool.false_ne_true]
      exact TendsL.fin hbody
theorem pmay_t (l : List PhT) (hl : l.length ≤ 1000000) (hb : ∀ p ∈ l, bndP p) : Tends (fun F => M_prog_May F l) (mayG l) := by
  unfold M_prog_May mayG
  refine Tends.bind (r := ((l, !(decide (1 ≤ l.length) && decide (l.length ≤ 5)), ()) : List PhT × Bool × Unit)) (.of fun F => ?_) ?_
  · by_cases h0 : l.length = 0
    · rw [if_neg (by rw [decide_eq_true (by omega)]; decide), decide_eq_false (by omega)]
      rfl
    · rw [if_pos (decide_eq_false (by omega)), decide_eq_true (by omega : 1 ≤ l.length), Bool.true_and]
      by_cases h5 : l.length ≤ 5
      · rw [decide_eq_false (by omega), decide_eq_true h5]; rfl
      · rw [decide_eq_true (by omega), decide_eq_false h5]; rfl
  cases hc : (decide (1 ≤ l.length) && decide (l.length ≤ 5)) with
  | false => exact Tends.pos rfl (.ret _)
  | true =>
    refine Tends.neg (by simp) ?_
    have h := pmay_loop l hl hb l.length 0 (by omega)
    rw [List.drop_zero] at h
    refine Tends.bind h.run ?_
    rw [Bool.true_and]
    cases mayL l <;> exact .ret _
end Go.Vm
