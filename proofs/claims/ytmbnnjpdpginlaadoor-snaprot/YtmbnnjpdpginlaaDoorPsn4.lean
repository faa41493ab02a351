/- Snapshots that rotted, are cut off, or have something behind: plainly. No condition. -/
import Derived.Test.YtmbnnjpdpginlaaDoorPsn3
namespace Go.Vm
open Go Go.Proofs
set_option linter.unusedVariables false
set_option linter.unusedSimpArgs false

theorem f4 (x : List UInt8) : (fourL x).length = 4 := rfl
theorem sealL_change (a : List UInt8) (i : Nat) (v : UInt8) (hi : i < a.length + 4) (hv : (sealL a)[i]? ≠ some v) : fourL (((sealL a).set i v).take a.length) ≠ ((sealL a).set i v).drop a.length := by
  intro e
  by_cases h : i < a.length
  · have e1 : ((sealL a).set i v).take a.length = a.set i v := by
      unfold sealL
      rw [List.set_append_left _ _ h, List.take_left' (by simp)]
    have e2 : ((sealL a).set i v).drop a.length = fourL a := by
      unfold sealL
      rw [List.set_append_left _ _ h, List.drop_left' (by simp)]
    rw [e1, e2] at e
    have hc : crcN (a.set i v) = crcN a := sum4_inj (crcN_lt _) (crcN_lt _) e
    have d : a = a.take i ++ a[i] :: a.drop (i + 1) := by rw [← List.drop_eq_getElem_cons h, List.take_append_drop]
    have d2 : a.set i v = a.take i ++ v :: a.drop (i + 1) := by rw [List.set_eq_take_append_cons_drop, if_pos h]
    rw [d2] at hc
    have := crcN_change (a.take i) (a.drop (i + 1)) (hc.trans (congrArg crcN d))
    refine hv ?_
    unfold sealL
    rw [List.getElem?_append_left h, List.getElem?_eq_getElem h, ← this]
  · have e1 : ((sealL a).set i v).take a.length = a := by
      unfold sealL
      rw [List.set_append_right _ _ (by omega), List.take_left' rfl]
    have e2 : ((sealL a).set i v).drop a.length = (fourL a).set (i - a.length) v := by
      unfold sealL
      rw [List.set_append_right _ _ (by omega), List.drop_left' rfl]
    rw [e1, e2] at e
    refine hv ?_
    unfold sealL
    have hl : i - a.length < (fourL a).length := by rw [f4]; omega
    rw [List.getElem?_append_right (by omega), e, List.getElem?_set_self (by simpa using hl)]
theorem szL_two (n : Nat) (y : List UInt8) (h : n ≤ 2000) : szL (sealL (two n) ++ y) = n := by
  unfold szL sealL two
  simp [List.getD]
  omega
theorem seal2_len (n : Nat) : (sealL (two n)).length = 6 := rfl
theorem take2 (n : Nat) (y : List UInt8) : (sealL (two n) ++ y).take 2 = two n := rfl
theorem drop2 (n : Nat) (y : List UInt8) : ((sealL (two n) ++ y).drop 2).take 4 = fourL (two n) := rfl
theorem drop6 (n : Nat) (y : List UInt8) : (sealL (two n) ++ y).drop 6 = y := rfl
theorem fstL_rot1 (n i : Nat) (v : UInt8) (t : List UInt8) (hi : i < 6) (hv : (sealL (two n))[i]? ≠ some v) : fstL ((sealL (two n)).set i v ++ t) = ([], 0, 4) := by
  have h := sealL_change (two n) i v hi hv
  have hl : ((sealL (two n)).set i v).length = 6 := by rw [List.length_set, seal2_len]
  generalize (sealL (two n)).set i v = b at h hl
  change fourL (b.take 2) ≠ b.drop 2 at h
  have e1 : (b ++ t).take 2 = b.take 2 := List.take_append_of_le_length (by omega)
  have e2 : ((b ++ t).drop 2).take 4 = b.drop 2 := by rw [List.drop_append_of_le_length (by omega), List.take_left' (by simp; omega)]
  unfold fstL
  rw [e1, e2, if_neg (by simp; omega), if_pos h]
theorem fstL_rot2 (n : Nat) (b t : List UInt8) (hn : n ≤ 2000) (hb : b.length = n + 4) (hc : fourL (b.take n) ≠ b.drop n) : fstL (sealL (two n) ++ (b ++ t)) = ([], 0, 4) := by
  have e1 : (b ++ t).take n = b.take n := List.take_append_of_le_length (by omega)
  have e2 : ((b ++ t).drop n).take 4 = b.drop n := by rw [List.drop_append_of_le_length (by omega), List.take_left' (by simp; omega)]
  have e3 : (sealL (two n) ++ (b ++ t)).drop (n + 6) = (b ++ t).drop n := by rw [Nat.add_comm, ← List.drop_drop, drop6]
  have l6 := seal2_len n
  unfold fstL
  rw [szL_two n _ hn, take2, drop2, drop6, e3, e1, e2]
  rw [if_neg (by rw [List.length_append]; omega), if_neg (by simp), if_neg (by omega), if_neg (by rw [List.length_append, List.length_append]; omega), if_pos hc]
theorem frm_ne (x t : List UInt8) : frm x ++ t ≠ [] := fun h => by
  have h2 : (frm x ++ t).length = 0 := by rw [h]; rfl
  have := frm_len x
  rw [List.length_append] at h2
  omega
theorem splG_cons (f : Nat) (x t : List UInt8) (hx : x.length ≤ 2000) : splG (f + 1) (frm x ++ t) = (x :: (splG f t).1, x.length + 10 + (splG f t).2.1, (splG f t).2.2) := by
  have h1 := fstL_frm x t hx
  have hd : (frm x ++ t).drop (x.length + 10) = t := List.drop_left' (frm_len x)
  rw [splG, if_neg (frm_ne x t), h1]
  simp only [ne_eq, not_true_eq_false, if_false, hd]
theorem splG_bad (f : Nat) (s : List UInt8) (hs : s ≠ []) (c : Int) (hc : c ≠ 0) (h : (fstL s).2.2 = c) : (splG (f + 1) s).2.2 = c := by
  rw [splG, if_neg hs, if_pos (by rw [h]; exact hc), h]
theorem splG_nil (f : Nat) : splG f [] = ([], 0, 0) := by cases f <;> simp [splG]
theorem splG_rot : ∀ (l : List (List UInt8)) (f i : Nat) (v : UInt8), (∀ x ∈ l, x.length ≤ 2000) → i < (l.flatMap frm).length → (l.flatMap frm)[i]? ≠ some v → (l.flatMap frm).length ≤ f → (splG f ((l.flatMap frm).set i v)).2.2 = 4
  | [], f, i, v, hl, hi, hv, hf => by cases hi
  | x :: l, f, i, v, hl, hi, hv, hf => by
    have hx := hl x (List.mem_cons_self ..)
    have hfl := frm_len x
    have hsl := sealL_len x
    rw [List.flatMap_cons] at hi hv hf ⊢
    rw [List.length_append] at hi hf
    obtain ⟨f, rfl⟩ : ∃ g, f = g + 1 := ⟨f - 1, by omega⟩
    have l6 := seal2_len x.length
    by_cases h : i < (frm x).length
    · rw [List.set_append_left _ _ h]
      rw [List.getElem?_append_left h] at hv
      have hne : (frm x).set i v ++ l.flatMap frm ≠ [] := fun q => by
        have := congrArg List.length q
        rw [List.length_append, List.length_set, List.length_nil] at this
        omega
      refine splG_bad _ _ hne 4 (by decide) ?_
      unfold frm at hv ⊢
      by_cases h6 : i < 6
      · rw [List.getElem?_append_left (by rw [l6]; exact h6)] at hv
        rw [List.set_append_left _ _ (by rw [l6]; exact h6), List.append_assoc, fstL_rot1 _ _ _ _ h6 hv]
      · rw [List.getElem?_append_right (by rw [l6]; omega), l6] at hv
        rw [List.set_append_right _ _ (by rw [l6]; omega), l6, List.append_assoc, fstL_rot2 _ _ _ hx (by rw [List.length_set, hsl]) (sealL_change x (i - 6) v (by omega) hv)]
    · rw [List.set_append_right _ _ (by omega), splG_cons _ _ _ hx]
      rw [List.getElem?_append_right (by omega)] at hv
      exact splG_rot l f _ v (fun y hy => hl y (List.mem_cons_of_mem _ hy)) (by omega) hv (by omega)
theorem fstL_cut (x : List UInt8) (k : Nat) (h2 : k < (frm x).length) (hx : x.length ≤ 2000) : (fstL ((frm x).take k)).2.2 = 3 := by
  have hfl := frm_len x
  have hl : ((frm x).take k).length = k := by rw [List.length_take]; omega
  unfold fstL
  by_cases h : k < 6
  · rw [if_pos (by omega)]
  · have l6 := seal2_len x.length
    have e : (frm x).take k = sealL (two x.length) ++ (sealL x).take (k - 6) := by
      unfold frm
      rw [List.take_append, List.take_of_length_le (by omega), l6]
    rw [if_neg (by omega), hl, e, take2, drop2, szL_two _ _ hx, if_neg (by simp), if_neg (by omega), if_pos (by omega)]
theorem splG_cut : ∀ (l : List (List UInt8)) (f k : Nat), (∀ x ∈ l, x.length ≤ 2000) → k < (l.flatMap frm).length → k ≤ f →
    (splG f ((l.flatMap frm).take k)).2.2 = 3 ∨ ((splG f ((l.flatMap frm).take k)).2.2 = 0 ∧ ∃ j, j < l.length ∧ (splG f ((l.flatMap frm).take k)).1 = l.take j)
  | [], f, k, hl, hk, hf => by cases hk
  | x :: l, f, 0, hl, hk, hf => by
    rw [List.take_zero, splG_nil]
    exact .inr ⟨rfl, 0, by simp, rfl⟩
  | x :: l, f, k + 1, hl, hk, hf => by
    have hx := hl x (List.mem_cons_self ..)
    have hfl := frm_len x
    rw [List.flatMap_cons] at hk ⊢
    rw [List.length_append] at hk
    obtain ⟨f, rfl⟩ : ∃ g, f = g + 1 := ⟨f - 1, by omega⟩
    by_cases h : k + 1 < (frm x).length
    · rw [List.take_append_of_le_length (by omega)]
      have hne : (frm x).take (k + 1) ≠ [] := fun q => by
        have := congrArg List.length q
        rw [List.length_take, List.length_nil] at this
        omega
      exact .inl (splG_bad _ _ hne 3 (by decide) (fstL_cut x _ h hx))
    · rw [List.take_append, List.take_of_length_le (by omega), splG_cons _ _ _ hx]
      rcases splG_cut l f (k + 1 - (frm x).length) (fun y hy => hl y (List.mem_cons_of_mem _ hy)) (by omega) (by omega) with h | ⟨h, j, hj, h3⟩
      · exact .inl h
      · exact .inr ⟨h, j + 1, by simpa using hj, by simp only [h3, List.take_succ_cons]⟩

/-! ### snapshots -/
theorem snapW_frm {l : List Ent} {top : Int} (h : mayL l top = true) : (snapW l top = (headS top l.length :: l.map bytesE).flatMap frm) ∧ (∀ x ∈ headS top l.length :: l.map bytesE, x.length ≤ 2000) := by
  obtain ⟨⟨h0, h1, h2⟩, _, hall⟩ := mayL_parts h
  have lh := headS_len top l.length h0 h1 h2
  refine ⟨by unfold snapW; rw [List.flatMap_cons, List.flatMap_map], fun x hx => ?_⟩
  rcases List.mem_cons.1 hx with rfl | hx
  · omega
  · obtain ⟨e, he, rfl⟩ := List.mem_map.1 hx
    have := bytesE_len (hall e he)
    omega
theorem hdO_other {top : Int} {n m : Nat} (h0 : 0 ≤ top) (h1 : top ≤ 1073741824) (hn : n ≤ 200) (hm : m ≤ 1000000) (hnm : m ≠ n) : hdO (headS top n) m = none := by
  cases hh : hdO (headS top n) m with
  | none => rfl
  | some T =>
    exfalso
    obtain ⟨g0, g1, g2⟩ := (hdO_iff _ _ _).1 hh
    unfold headS at g2
    rw [List.append_assoc, List.append_assoc, List.append_cancel_left_eq] at g2
    have q1 := frst_num top.toNat (nI (n : Int)) (by omega)
    have q2 := frst_num T.toNat (numL m) (by omega)
    unfold nI at g2 q1
    rw [g2, q2] at q1
    have ht : T.toNat = top.toNat := (Prod.mk.inj q1).1
    rw [ht, List.append_cancel_left_eq, Int.toNat_natCast] at g2
    have q3 := frst_num n [] (by omega)
    have q4 := frst_num m [] (by omega)
    rw [g2, q4] at q3
    exact hnm (Prod.mk.inj q3).1
theorem tailR_other {top : Int} {n : Nat} {t : List (List UInt8)} (h0 : 0 ≤ top) (h1 : top ≤ 1073741824) (hn : n ≤ 200) (hm : t.length ≤ 1000000) (hnm : t.length ≠ n) : tailR (headS top n) t = ([], 0, 3) :=
  tailR_bad (fun T hT => by rw [hdO_other h0 h1 hn hm hnm] at hT; cases hT)
theorem snapR_rot {l : List Ent} {top : Int} (h : mayL l top = true) (i : Nat) (v : UInt8) (hi : i < (snapW l top).length) (hv : (snapW l top)[i]? ≠ some v) : snapR ((snapW l top).set i v) = ([], 0, 4) := by
  obtain ⟨hW, hlen⟩ := snapW_frm h
  have hne : (snapW l top).set i v ≠ [] := fun q => by
    have := congrArg List.length q
    rw [List.length_set] at this
    simp at this
    rw [this] at hi
    cases hi
  have hs : (splL ((snapW l top).set i v)).2.2 = 4 := by
    unfold splL
    rw [List.length_set]
    rw [hW] at hi hv ⊢
    exact splG_rot _ _ i v hlen hi hv (Nat.le_refl _)
  unfold snapR
  rw [if_neg hne, hs, if_pos (by decide)]
theorem snapR_cut {l : List Ent} {top : Int} (h : mayL l top = true) (k : Nat) (hk0 : 1 ≤ k) (hk : k < (snapW l top).length) : snapR ((snapW l top).take k) = ([], 0, 3) := by
  obtain ⟨hW, hlen⟩ := snapW_frm h
  obtain ⟨⟨h0, h1, h2⟩, _, hall⟩ := mayL_parts h
  have hl : ((snapW l top).take k).length = k := by rw [List.length_take]; omega
  have hne : (snapW l top).take k ≠ [] := fun q => by
    have := congrArg List.length q
    rw [hl] at this
    simp at this
    omega
  unfold snapR
  rw [if_neg hne]
  have hs := splG_cut (headS top l.length :: l.map bytesE) ((snapW l top).take k).length k hlen (by rw [← hW]; exact hk) (by omega)
  rw [← hW] at hs
  change (splL ((snapW l top).take k)).2.2 = 3 ∨ ((splL ((snapW l top).take k)).2.2 = 0 ∧ ∃ j, j < _ ∧ (splL ((snapW l top).take k)).1 = _) at hs
  rcases hs with hs | ⟨hs, j, hj, h3⟩
  · rw [hs, if_pos (by decide)]
  · rw [hs, if_neg (by decide), h3]
    cases j with
    | zero => rfl
    | succ j =>
      rw [List.take_succ_cons]
      simp only
      have hj' : j < l.length := by simpa using hj
      exact tailR_other h0 h1 h2 (by simp; omega) (by simp; omega)
theorem snapR_more {l : List Ent} {top : Int} (h : mayL l top = true) (more : List UInt8) (hm : more ≠ []) (hm2 : more.length ≤ 100000) : (snapR (snapW l top ++ more)).2.2 ≠ 0 := by
  obtain ⟨hW, hlen⟩ := snapW_frm h
  obtain ⟨⟨h0, h1, h2⟩, _, hall⟩ := mayL_parts h
  have hl := snapW_len h
  have hml : 0 < more.length := List.length_pos_iff.2 hm
  have hne : snapW l top ++ more ≠ [] := fun q => hm (List.append_eq_nil_iff.1 q).2
  have hs := splG_frm (headS top l.length :: l.map bytesE) (snapW l top ++ more).length more hlen (by rw [← hW]; exact Nat.le_refl _)
  rw [← hW] at hs
  have hpt := splG_parts ((snapW l top ++ more).length - (headS top l.length :: l.map bytesE).length) more
  have hg : ∃ g, (snapW l top ++ more).length - (headS top l.length :: l.map bytesE).length = g + 1 := by
    have : l.length + 1 ≤ (snapW l top).length := by
      rw [hW]
      have : ∀ L : List (List UInt8), L.length ≤ (L.flatMap frm).length := fun L => by
        induction L with
        | nil => simp
        | cons x L ih => rw [List.flatMap_cons, List.length_append, frm_len, List.length_cons]; omega
      have := this (headS top l.length :: l.map bytesE)
      simpa using this
    refine ⟨(snapW l top ++ more).length - (l.length + 1) - 1, ?_⟩
    rw [List.length_append, List.length_cons, List.length_map]
    omega
  obtain ⟨g, hg⟩ := hg
  rw [hg] at hs hpt
  unfold snapR
  rw [if_neg hne]
  unfold splL
  rw [hs]
  simp only
  by_cases hc : (splG (g + 1) more).2.2 ≠ 0
  · rw [if_pos hc]; exact hc
  · rw [if_neg hc]
    have hc0 : (splG (g + 1) more).2.2 = 0 := by
      by_cases e : (splG (g + 1) more).2.2 = 0
      · exact e
      · exact absurd e hc
    have h1' : (splG (g + 1) more).1 ≠ [] := by
      rw [splG, if_neg hm] at hc0 ⊢
      split
      · rename_i q
        rw [if_pos q] at hc0
        exact absurd hc0 q
      · simp
    have hp := List.length_pos_iff.2 h1'
    rw [List.cons_append]
    simp only
    rw [tailR_other h0 h1 h2 (by simp; omega) (by simp; omega)]
    decide

end Go.Vm
