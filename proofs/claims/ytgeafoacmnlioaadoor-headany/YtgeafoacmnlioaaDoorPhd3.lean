/- Heads: the program. No condition. -/
import Derived.Test.YtgeafoacmnlioaaDoorPhd1
import Derived.Test.YtgeafoacmnlioaaDoorPhd2
import Derived.Test.YtgeafoacmnlioaaDoorPrt
import Derived.Test.YtgeafoacmnlioaaDoorFhead
import Derived.Lib.SplitLaws
namespace Go.Vm
open Go Go.Proofs Go.Lib
set_option linter.unusedVariables false
set_option linter.unusedSimpArgs false
/-! ### cutting at a byte -/
theorem subN8 (s : HB) (a b : Nat) (h : a ≤ b) (h' : b ≤ s.length) : sub s (a : Int) (b : Int) = some ((s.drop a).take (b - a)) := subN s a b h h'
theorem index_cut (d : UInt8) : ∀ s : HB, Go.Lib.index s [d] = match cutAt d s with
    | some (a, _) => (a.length : Int)
    | none => -1
  | [] => rfl
  | c :: s => by
    have ih := index_cut d s
    unfold Go.Lib.index cutAt
    by_cases h : c = d
    · subst h
      rw [if_pos (by simp [List.isPrefixOf]), if_pos rfl]
      rfl
    · rw [if_neg (by simp [List.isPrefixOf]; exact fun e => h e.symm), if_neg h]
      cases hq : cutAt d s with
      | none =>
        rw [hq] at ih
        simp only at ih
        rw [ih]
        rfl
      | some x =>
        rw [hq] at ih
        simp only at ih
        rw [ih, if_neg (by simp)]
        simp
def cutR (d : UInt8) (s : HB) : HB × HB × Bool := match cutAt d s with
  | some (a, b) => (a, b, true)
  | none => (s, [], false)
theorem cut_t (F : Nat) (d : UInt8) (s : HB) (hs : s.length ≤ 1000000) : M_strings_Cut F (s, [d]) = some (cutR d s) := by
  unfold M_strings_Cut M_internal_stringslite_Cut
  have hi : M_internal_stringslite_Index F (s, [d]) = some (Go.Lib.index s [d]) := by
    unfold M_internal_stringslite_Index MIndex
    exact if_pos (decide_eq_true (by show s.length ≤ 4294967280; omega))
  have hc := index_cut d s
  unfold cutR
  cases hq : cutAt d s with
  | none =>
    rw [hq] at hc
    simp only [hi, hc, Option.bind_some]
    rfl
  | some x =>
    obtain ⟨a, b⟩ := x
    obtain ⟨rfl, _⟩ := cutAt_some _ _ _ hq
    rw [hq] at hc
    simp only at hc
    have hl : (a ++ d :: b).length = a.length + 1 + b.length := by simp; omega
    have s1 : sub (a ++ d :: b) 0 (a.length : Int) = some a := by
      have := subN8 (a ++ d :: b) 0 a.length (by omega) (by omega)
      simpa using this
    have s2 : sub (a ++ d :: b) ((a.length + 1 : Nat) : Int) (((a ++ d :: b).length : Nat) : Int) = some b := by
      have := subE (a ++ d :: b) (a.length + 1) (by omega)
      rw [this]
      simp
    have hw : IntKind.i64.wrap ((a.length : Int) + (([d] : List UInt8).length : Int)) = ((a.length + 1 : Nat) : Int) := by
      show IntKind.i64.wrap ((a.length : Int) + 1) = _
      exact next_nat _ (by omega)
    simp only [hi, hc, Option.bind_some]
    rw [if_pos (by simp)]
    simp only [hw, s1, s2, Option.bind_some]
theorem suf_t (F : Nat) (x : HB) (hx : x.length ≤ 1000000) : M_strings_TrimSuffix F (x, [13]) = some (noCR x) := by
  unfold M_strings_TrimSuffix M_internal_stringslite_TrimSuffix M_internal_stringslite_HasSuffix noCR
  rcases List.eq_nil_or_concat x with rfl | ⟨a, c, hac⟩
  · rfl
  · rw [List.concat_eq_append] at hac
    subst hac
    have hl : (a ++ [c]).length = a.length + 1 := by simp
    have hw : IntKind.i64.wrap (((a ++ [c]).length : Int) - (([13] : List UInt8).length : Int)) = (a.length : Int) := by
      rw [hl]
      show IntKind.i64.wrap (((a.length + 1 : Nat) : Int) - 1) = _
      rw [wrap64] <;> omega
    have s1 : sub (a ++ [c]) (a.length : Int) ((a ++ [c]).length : Int) = some [c] := by
      rw [subE _ _ (by omega)]; simp
    have s2 : sub (a ++ [c]) 0 (a.length : Int) = some a := by
      have := subN8 (a ++ [c]) 0 a.length (by omega) (by omega)
      simpa using this
    have hg : (a ++ [c]).getLast? = some c := by simp
    simp only [hw, s1, s2, hg, Option.bind_some]
    rw [if_pos (by rw [decide_eq_true_eq, hl]; show (1 : Int) ≤ _; omega)]
    by_cases h : c = 13
    · subst h; simp
    · simp [h]
def lineR (s : HB) : HB × HB × Bool := match lineP s with
  | some (x, r) => (x, r, true)
  | none => (noCR s, [], false)
theorem line_t (F : Nat) (s : HB) (hs : s.length ≤ 1000000) : M_head_line F s = some (lineR s) := by
  unfold M_head_line lineR lineP
  simp only [cut_t F 10 s hs, Option.bind_some]
  unfold cutR
  cases hq : cutAt 10 s with
  | none => simp only [suf_t F s hs, Option.bind_some, Option.map_none]
  | some x =>
    obtain ⟨a, b⟩ := x
    obtain ⟨rfl, _⟩ := cutAt_some _ _ _ hq
    simp only [Option.map_some]
    rw [suf_t F a (by simp at hs; omega)]
    rfl
/-! ### letters -/
theorem fold_byte : ∀ c : Fin 256, UInt8.ofNat (IntKind.u8.wrap (IntKind.u8.wrap (((UInt8.ofNat c.val).toNat : Int) + 97) - 65)).toNat = UInt8.ofNat ((UInt8.ofNat c.val).toNat + 32) := by decide +kernel
theorem fold_up (c : UInt8) : UInt8.ofNat (IntKind.u8.wrap (IntKind.u8.wrap ((c.toNat : Int) + 97) - 65)).toNat = UInt8.ofNat (c.toNat + 32) := by
  have h := fold_byte ⟨c.toNat, c.toNat_lt⟩
  simpa using h
theorem fold_loop (s : HB) (hs : s.length ≤ 1000000) : ∀ (m k : Nat), k + m = s.length → TendsL M_head_fold_l0 ((), (), (s.length : Int), (k : Int), foldB (s.take k) ++ s.drop k, ()) ((), foldB s, ())
  | 0, k, hk => by
    refine TendsL.fin (.of fun F => ?_)
    unfold M_head_fold_l0
    rw [if_neg (by simp; omega), List.take_of_length_le (by omega), List.drop_of_length_le (by omega), List.append_nil]
  | m + 1, k, hk => by
    have hlt : k < s.length := by omega
    have ih := fold_loop s hs m (k + 1) (by omega)
    refine TendsL.step (x' := ((), (), (s.length : Int), ((k + 1 : Nat) : Int), foldB (s.take (k + 1)) ++ s.drop (k + 1), ())) (.of fun F => ?_) ih
    have hfl : (foldB (s.take k)).length = k := by unfold foldB; simp; omega
    have hd := (show s.drop k = s[k] :: s.drop (k + 1) by simp)
    have hi : idx (foldB (s.take k) ++ s.drop k) (k : Int) = some s[k] := by
      rw [idxN _ k _ rfl (by rw [List.length_append, hfl]; simp; omega)]
      congr 1
      rw [List.getElem_append_right (by omega)]
      simp [hfl]
    have hi2 : idx (foldB (s.take k) ++ s.drop k) ((((k : Nat) : Int).toNat : Nat) : Int) = some s[k] := by simpa using hi
    have hset : ∀ c : UInt8, lset (foldB (s.take k) ++ s.drop k) ((k : Nat) : Int).toNat c = foldB (s.take k) ++ c :: s.drop (k + 1) := by
      intro c
      unfold lset
      rw [hd, Int.toNat_natCast]
      have := List.set_append_right (s := foldB (s.take k)) (t := s[k] :: s.drop (k + 1)) k c (by omega)
      rw [this, hfl, Nat.sub_self]
      rfl
    have htk : foldB (s.take (k + 1)) = foldB (s.take k) ++ [foldC s[k]] := by
      unfold foldB
      rw [show s.take (k + 1) = s.take k ++ [s[k]] from (List.take_append_getElem hlt).symm, List.map_append]
      rfl
    unfold M_head_fold_l0
    rw [if_pos (by simpa using hlt)]
    simp only [hi, hi2, hset, Option.bind_some, fold_up, next_nat k (by omega)]
    rw [htk, List.append_assoc]
    by_cases h1 : 65 ≤ s[k].toNat
    · by_cases h2 : s[k].toNat ≤ 90
      · have e1 : decide ((65 : Int) ≤ (s[k].toNat : Int)) = true := decide_eq_true (by omega)
        have e2 : decide ((s[k].toNat : Int) ≤ 90) = true := decide_eq_true (by omega)
        have hfc : foldC s[k] = UInt8.ofNat (s[k].toNat + 32) := by unfold foldC; rw [if_pos ⟨h1, h2⟩]
        rw [hfc]
        simp only [e1, e2, if_true, Option.bind_some, hi, hi2, hset, fold_up, next_nat k (show k < 9000000000000000 by omega)]
        rfl
      · have e1 : decide ((65 : Int) ≤ (s[k].toNat : Int)) = true := decide_eq_true (by omega)
        have e2 : decide ((s[k].toNat : Int) ≤ 90) = false := decide_eq_false (by omega)
        have hfc : foldC s[k] = s[k] := by unfold foldC; rw [if_neg (fun h => h2 h.2)]
        rw [hfc, hd]
        simp only [e1, e2, if_true, Option.bind_some, Bool.false_eq_true, if_false, next_nat k (show k < 9000000000000000 by omega)]
        rfl
    · have e1 : decide ((65 : Int) ≤ (s[k].toNat : Int)) = false := decide_eq_false (by omega)
      have hfc : foldC s[k] = s[k] := by unfold foldC; rw [if_neg (fun h => h1 h.1)]
      rw [hfc, hd]
      simp only [e1, Option.bind_some, Bool.false_eq_true, if_false, next_nat k (show k < 9000000000000000 by omega)]
      rfl
theorem fold_t (s : HB) (hs : s.length ≤ 1000000) : Tends (fun F => M_head_fold F s) (foldB s) := by
  have h := fold_loop s hs s.length 0 (by omega)
  rw [List.take_zero, List.drop_zero] at h
  unfold M_head_fold
  exact Tends.pos (by rw [decide_eq_true_eq]; omega) (Tends.bind (m := fun F => loopM (M_head_fold_l0 F) F ((), (), (s.length : Int), 0, s, ())) h.run (.ret _))
/-! ### values -/
def vokH (s : HB) : Bool := decide (s = []) || rightB s 60
theorem hright_loop (s : HB) (p : Nat) (hp : p ≤ s.length) : TendsL M_head_right_l0 (s, (), (s, p), ()) (match badR ((signs (s.drop p)).map (·.1)) with | .inl _ => .inl (s, ()) | .inr v => .inr v) := by
  have main : ∀ n p, s.length - p ≤ n → p ≤ s.length → TendsL M_head_right_l0 (s, (), (s, p), ()) (match badR ((signs (s.drop p)).map (·.1)) with | .inl _ => .inl (s, ()) | .inr v => .inr v) := by
    intro n
    induction n with
    | zero =>
      intro p hn hp
      have : p = s.length := by omega
      subst this
      refine TendsL.fin (Tends.of fun F => ?_)
      unfold M_head_right_l0
      simp [signs_nil, badR_nil]
    | succ n ih =>
      intro p hn hp
      by_cases hlt : p < s.length
      · have hpos := decodeL_pos (s.drop p)
        have hnx := next_le hlt
        rw [signs_cons (drop_ne hlt), drop_next, List.map_cons, badR_cons]
        by_cases h0 : sortI ((decodeL (s.drop p)).1 : Int) = 0
        · rw [if_pos h0]
          refine TendsL.fin (Tends.of fun F => ?_)
          unfold M_head_right_l0
          simp only [hlt, decide_true, if_true, runeAt_eq, sort_eq, Option.bind_some, h0]
        · rw [if_neg h0]
          refine TendsL.step (x' := (s, (), (s, p + (decodeL (s.drop p)).2), ())) (Tends.of fun F => ?_) (ih _ (by omega) hnx)
          unfold M_head_right_l0
          simp only [hlt, decide_true, if_true, runeAt_eq, runeLen_eq, sort_eq, Option.bind_some, h0, decide_false, Bool.false_eq_true, if_false]
      · have : p = s.length := by omega
        subst this
        refine TendsL.fin (Tends.of fun F => ?_)
        unfold M_head_right_l0
        simp [signs_nil, badR_nil]
  exact main _ p (Nat.le_refl _) hp
theorem hright_t (s : HB) : Tends (fun F => M_head_right F s) (vokH s) := by
  have h := hright_loop s 0 (by omega)
  rw [List.drop_zero] at h
  unfold M_head_right
  refine Tends.bind h.run (.of fun F => ?_)
  unfold vokH rightB badR
  cases hb : badN ((signs s).map (·.1)) with
  | true =>
    have hne : s ≠ [] := by
      rintro rfl
      simp [signs_nil, badN] at hb
    simp [sumC, hne]
  | false =>
    by_cases hn : s = []
    · subst hn; simp [sumC]
    · by_cases hl : (s.length : Int) ≤ 60
      · have h60 : ¬ (60 : Int) < (s.length : Int) := by omega
        have hl' : s.length ≤ 60 := by omega
        have h60' : ¬ 60 < s.length := by omega
        simp [sumC, hn, h60, hl, hl', h60']
      · have h60 : (60 : Int) < (s.length : Int) := by omega
        have hl' : ¬ s.length ≤ 60 := by omega
        have h60' : 60 < s.length := by omega
        simp [sumC, hn, h60, hl, hl', h60']
/-! ### trimming -/
theorem trim_comm (s : HB) : trimL ((trimL s.reverse).reverse) = trimB s := by
  have hs : s = (trimL s.reverse).reverse ++ (s.reverse.takeWhile blB).reverse := by
    have h : s.reverse.takeWhile blB ++ s.reverse.dropWhile blB = s.reverse := List.takeWhile_append_dropWhile
    have h2 := congrArg List.reverse h
    rw [List.reverse_append, List.reverse_reverse] at h2
    exact h2.symm
  have ht : ((s.reverse.takeWhile blB).reverse).all blB = true := by
    rw [List.all_reverse]
    exact List.all_takeWhile
  generalize hr : (trimL s.reverse).reverse = r at hs ⊢
  conv => rhs; rw [hs]
  rw [trimB_back r _ ht]
  unfold trimB
  have hk : trimL (trimL r).reverse = (trimL r).reverse := by
    cases hq : (trimL r).reverse with
    | nil => rfl
    | cons c q =>
      have h1 : r.takeWhile blB ++ trimL r = r := List.takeWhile_append_dropWhile
      have h2 : r.reverse = c :: (q ++ (r.takeWhile blB).reverse) := by
        rw [← h1, List.reverse_append, hq, h1]; rfl
      have h3 : trimL s.reverse = c :: (q ++ (r.takeWhile blB).reverse) := by rw [← h2, ← hr, List.reverse_reverse]
      have h4 := List.head?_dropWhile_not blB s.reverse
      unfold trimL at h3
      rw [h3] at h4
      simp at h4
      unfold trimL
      rw [List.dropWhile_cons_of_neg (by simp [h4])]
  rw [hk, List.reverse_reverse]
theorem trim_t (F : Nat) (s : HB) (hs : s.length ≤ 1000000) : M_strings_Trim F (s, [32, 9]) = some (trimB s) := by
  have h : M_strings_Trim F (s, [32, 9]) = some (Go.Lib.trimS s [32, 9]) := by
    unfold M_strings_Trim MTrim
    rw [if_pos (by rw [decide_eq_true_eq]; show s.length ≤ _; omega), if_pos (by show decide (([32, 9] : HB).length ≤ 4294967280) = true; decide), if_pos (by show (([32, 9] : HB).all fun b => decide (b.toNat < 128)) = true; decide)]
  have hb : (fun c : UInt8 => ([32, 9] : List UInt8).contains c) = blB := by
    funext c
    have := (show ∀ c : Fin 256, ([32, 9] : List UInt8).contains (UInt8.ofNat c.val) = blB (UInt8.ofNat c.val) by decide +kernel) ⟨c.toNat, c.toNat_lt⟩
    simpa using this
  rw [h]
  rw [← trim_comm]
  unfold Go.Lib.trimS Go.Lib.trimLeftS Go.Lib.trimRightS trimL
  simp only [hb]
abbrev ltrS : HB := [97, 98, 99, 100, 101, 102, 103, 104, 105, 106, 107, 108, 109, 110, 111, 112, 113, 114, 115, 116, 117, 118, 119, 120, 121, 122, 48, 49, 50, 51, 52, 53, 54, 55, 56, 57, 45]
theorem dropWhile_nil {α : Type} (p : α → Bool) : ∀ l : List α, l.dropWhile p = [] ↔ l.all p = true
  | [] => by simp
  | a :: l => by
    have ih := dropWhile_nil p l
    by_cases h : p a = true
    · rw [List.dropWhile_cons_of_pos h, ih]; simp [h]
    · rw [List.dropWhile_cons_of_neg h]; simp [h]
theorem ltr_t (F : Nat) (n : HB) (hs : n.length ≤ 1000000) : ∃ r, M_strings_Trim F (n, ltrS) = some r ∧ (decide (r = []) = n.all ltrB) := by
  have h : M_strings_Trim F (n, ltrS) = some (Go.Lib.trimS n ltrS) := by
    unfold M_strings_Trim MTrim
    rw [if_pos (by rw [decide_eq_true_eq]; show n.length ≤ _; omega), if_pos (by show decide (ltrS.length ≤ 4294967280) = true; decide), if_pos (by show (ltrS.all fun b => decide (b.toNat < 128)) = true; decide)]
  have hb : (fun c : UInt8 => ltrS.contains c) = ltrB := by
    funext c
    have := (show ∀ c : Fin 256, ltrS.contains (UInt8.ofNat c.val) = ltrB (UInt8.ofNat c.val) by decide +kernel) ⟨c.toNat, c.toNat_lt⟩
    simpa using this
  refine ⟨_, h, ?_⟩
  unfold Go.Lib.trimS Go.Lib.trimLeftS Go.Lib.trimRightS
  simp only [hb]
  rw [Bool.eq_iff_iff, decide_eq_true_eq, dropWhile_nil, List.all_reverse]
  constructor
  · intro h1
    have h2 : n.reverse.dropWhile ltrB = [] := by
      cases hd : n.reverse.dropWhile ltrB with
      | nil => rfl
      | cons c r =>
        rw [hd] at h1
        have := List.head?_dropWhile_not ltrB n.reverse
        rw [hd] at this
        simp at this
        simp [this] at h1
    rw [dropWhile_nil, List.all_reverse] at h2
    exact h2
  · intro h1
    rw [(dropWhile_nil ltrB n.reverse).2 (by rw [List.all_reverse]; exact h1)]
    rfl
end Go.Vm
