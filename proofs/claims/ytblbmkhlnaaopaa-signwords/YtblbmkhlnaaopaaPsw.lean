/- The plain law SignWords: words, where a sign is, and whether all are of some sorts. -/
import Derived.Test.YtblbmkhlnaaopaaPwords
namespace Go.Vm
open Go.Lib (decodeL decodeN decodeL_N decode_N decodeN_shape decodeL_le)
set_option linter.unusedVariables false
set_option linter.unusedSimpArgs false

/-! ### the reference's words -/

def bytesOfL (S : List (Int × List UInt8)) : List UInt8 := S.flatMap (·.2)

theorem ats_append : ∀ (a b : List (Int × List UInt8)) (p : Nat), ats p (a ++ b) = ats p a ++ ats (p + (bytesOfL a).length) b
  | [], b, p => by simp [ats, bytesOfL]
  | x :: a, b, p => by
    simp only [List.cons_append, ats, ats_append a b]
    congr 3
    simp [bytesOfL]
    omega
theorem ats_len : ∀ (a : List (Int × List UInt8)) (p : Nat), (ats p a).length = a.length
  | [], p => rfl
  | x :: a, p => by simp [ats, ats_len a]

theorem idx_nat {α : Type} (l : List α) (k : Nat) : idx l (k : Int) = l[k]? := by
  unfold idx
  rw [if_pos (by omega)]
  simp

theorem idx_mid {α : Type} (pre t : List α) (x : α) : idx (pre ++ x :: t) (pre.length : Int) = some x := by
  rw [idx_nat]; simp

theorem refWordsLoop (s : List UInt8) (hs : s.length ≤ 1000000000000) (S : List (Int × List UInt8)) (hS : bytesOfL S = s) (hne : ∀ x ∈ S, x.2 ≠ []) (hSl : S.length ≤ 1000000000000) :
    ∀ (t pre : List (Int × List UInt8)) (word : List UInt8) (out : List (List UInt8)), S = pre ++ t → out.length + t.length ≤ 1000000000000 → word.length ≤ (bytesOfL pre).length →
    ∃ word' out', TendsL M_conciergeref04_Words_l0 (s, (), S.map (·.1), ats 0 S, word, (pre.length : Int), out, ()) ((), word', out', ()) ∧
      out'.length ≤ out.length + t.length ∧ (if word' = [] then out' else out' ++ [word']) = out ++ wordsL t word := by
  intro t
  induction t with
  | nil =>
    intro pre word out hst ho hw
    simp only [List.append_nil] at hst
    subst hst
    refine ⟨word, out, TendsL.fin (Tends.of fun F => ?_), by simp, ?_⟩
    · unfold M_conciergeref04_Words_l0
      simp
    · unfold wordsL
      split <;> simp
  | cons x t ih =>
    intro pre word out hst ho hw
    have hlen : S.length = pre.length + (t.length + 1) := by rw [hst]; simp
    have h1 : (pre.length : Int) < ((S.map (·.1)).length : Int) := by simp; omega
    have hi : idx (S.map (·.1)) (pre.length : Int) = some x.1 := by
      rw [hst]
      have := idx_mid (pre.map (·.1)) (t.map (·.1)) x.1
      simpa using this
    have hat : idx (ats 0 S) (pre.length : Int) = some ((bytesOfL pre).length : Int) := by
      rw [hst, ats_append, idx_nat]
      have : pre.length = (ats 0 pre).length := (ats_len _ _).symm
      rw [this]
      simp [ats]
    have hb : s = bytesOfL pre ++ (x.2 ++ bytesOfL t) := by rw [← hS, hst]; simp [bytesOfL]
    have hsl : s.length = (bytesOfL pre).length + (x.2.length + (bytesOfL t).length) := by rw [hb]; simp
    have hsub : sub s ((bytesOfL pre).length : Int) (((bytesOfL pre).length + x.2.length : Nat) : Int) = some x.2 := by
      rw [sub_nat s _ _ (by omega) (by omega), hb]
      simp
    have hpre : bytesOfL (pre ++ [x]) = bytesOfL pre ++ x.2 := by simp [bytesOfL]
    have hw64 : IntKind.i64.wrap ((pre.length : Int) + 1) = ((pre.length + 1 : Nat) : Int) := by rw [wrap64 _ (by omega) (by omega)]; rfl
    unfold wordsL
    have hst' : S = (pre ++ [x]) ++ t := by rw [hst]; simp
    by_cases hbl : blankB x.1 = true
    · rw [if_pos hbl]
      have hbs : sortI x.1 = 1 := by have := sort_blank x.1; rw [hbl] at this; simpa using this
      by_cases hw0 : word = []
      · rw [if_pos hw0]
        subst hw0
        obtain ⟨word', out', q1, q2, q3⟩ := ih (pre ++ [x]) [] out hst' (by simp at ho; omega) (by simp)
        refine ⟨word', out', TendsL.step (Tends.of fun F => ?_) q1, by simp; omega, q3⟩
        unfold M_conciergeref04_Words_l0
        simp only [h1, decide_true, if_true, hi, Option.bind_some, refSort_eq, hbs, Bool.not_true, Bool.false_eq_true, if_false, hw64]
        simp
      · rw [if_neg hw0]
        obtain ⟨word', out', q1, q2, q3⟩ := ih (pre ++ [x]) [] (out ++ [word]) hst' (by simp at ho ⊢; omega) (by simp)
        refine ⟨word', out', TendsL.step (Tends.of fun F => ?_) q1, by simp at q2 ⊢; omega, by simpa using q3⟩
        unfold M_conciergeref04_Words_l0
        have e1 : (out.length + 1) * 16 ≤ 140737488355328 := by simp at ho; omega
        simp only [h1, decide_true, if_true, hi, Option.bind_some, refSort_eq, hbs, hw0, decide_false, Bool.not_false, List.length_cons, List.length_nil, Nat.zero_add, e1, hw64]
        simp
    · rw [if_neg hbl]
      have hbs : ¬ sortI x.1 = 1 := by have := sort_blank x.1; simp only [hbl, decide_eq_false_iff_not] at this; simpa using this
      obtain ⟨word', out', q1, q2, q3⟩ := ih (pre ++ [x]) (word ++ x.2) out hst' (by simp at ho; omega) (by rw [hpre]; simp; omega)
      refine ⟨word', out', TendsL.step (Tends.of fun F => ?_) q1, by simp; omega, q3⟩
      unfold M_conciergeref04_Words_l0
      have e1 : word.length + x.2.length ≤ 9223372036854775807 := by omega
      simp only [h1, decide_true, if_true, hi, Option.bind_some, refSort_eq, hbs, decide_false, Bool.false_eq_true, if_false, hw64, hat]
      by_cases hend : pre.length + 1 < S.length
      · have h2 : ((pre.length + 1 : Nat) : Int) < ((ats 0 S).length : Int) := by rw [ats_len]; omega
        have hat2 : idx (ats 0 S) ((pre.length + 1 : Nat) : Int) = some (((bytesOfL pre).length + x.2.length : Nat) : Int) := by
          obtain ⟨y, t', rfl⟩ : ∃ y t', t = y :: t' := by
            cases t with
            | nil => simp at hlen; omega
            | cons y t' => exact ⟨y, t', rfl⟩
          rw [hst', ats_append, idx_nat]
          have : pre.length + 1 = (ats 0 (pre ++ [x])).length := by rw [ats_len]; simp
          rw [this, hpre]
          simp [ats]
        simp only [h2, decide_true, if_true, hat2, Option.bind_some, hat, hsub, e1, hw64]
        simp
      · have h2 : ¬ ((pre.length + 1 : Nat) : Int) < ((ats 0 S).length : Int) := by rw [ats_len]; omega
        have ht : t = [] := by
          cases t with
          | nil => rfl
          | cons y t' => simp at hlen; omega
        have hse : (s.length : Int) = (((bytesOfL pre).length + x.2.length : Nat) : Int) := by rw [hsl, ht]; simp [bytesOfL]
        simp only [h2, decide_false, Bool.false_eq_true, if_false, hse, Option.bind_some, hat, hsub, e1, decide_true, if_true, hw64]
        simp

theorem refWords_tends (s : List UInt8) (hs : s.length ≤ 1000000000000) : Tends (fun F => M_conciergeref04_Words F s) (wordsL (signs s) []) := by
  unfold M_conciergeref04_Words
  refine (signs_tends s hs).bind ?_
  have hl := signs_len s
  obtain ⟨word', out', h1, h2, h3⟩ := refWordsLoop s hs (signs s) (signs_bytes s) (signs_ne s) (by omega) (signs s) [] [] [] rfl (by simp; omega) (by simp)
  refine h1.run.bind ?_
  refine Tends.of fun F => ?_
  simp only [List.length_nil, List.nil_append, Nat.zero_add] at h2 h3
  have e1 : (out'.length + 1) * 16 ≤ 140737488355328 := by omega
  by_cases hw : word' = []
  · rw [if_pos hw] at h3
    simp [hw, h3]
  · rw [if_neg hw] at h3
    simp [hw, e1, h3]

/-! ### where a sign is -/

def findFrom (r : Int) : Nat → List Int → Int
  | _, [] => -1
  | k, x :: t => if x = r then (k : Int) else findFrom r (k + 1) t

theorem find_tends (s : List UInt8) (hs : s.length ≤ 1000000000000) (r : Int) : Tends (fun F => M_sign_Find F (s, r)) (findFrom r 0 ((signs s).map (·.1))) := by
  have loop : ∀ (n p k : Nat), s.length - p ≤ n → p ≤ s.length → k + (s.length - p) ≤ 1000000000000 →
      ∃ y, TendsL M_sign_Find_l0 (r, (k : Int), (), (s, p), ()) y ∧ sumC y (fun _ => (-1 : Int)) (fun v => v.1) = findFrom r k ((signs (s.drop p)).map (·.1)) := by
    intro n
    induction n with
    | zero =>
      intro p k hn hp hk
      have hpe : p = s.length := by omega
      subst hpe
      refine ⟨.inl (), TendsL.fin (Tends.of fun F => ?_), by rw [List.drop_length, signs_nil]; rfl⟩
      unfold M_sign_Find_l0
      simp
    | succ n ih =>
      intro p k hn hp hk
      by_cases hlt : p < s.length
      case neg => exact ih p k (by omega) hp hk
      have hpos := decodeL_pos (s.drop p)
      have hnx := next_le hlt
      rw [signs_cons (drop_ne hlt), drop_next]
      simp only [List.map_cons, findFrom]
      by_cases he : ((decodeL (s.drop p)).1 : Int) = r
      · rw [if_pos he]
        refine ⟨.inr ((k : Int), ()), TendsL.fin (Tends.of fun F => ?_), rfl⟩
        unfold M_sign_Find_l0
        simp [hlt, runeAt_eq, he]
      · rw [if_neg he]
        obtain ⟨y, h1, h2⟩ := ih (p + (decodeL (s.drop p)).2) (k + 1) (by omega) hnx (by omega)
        refine ⟨y, TendsL.step (Tends.of fun F => ?_) h1, h2⟩
        unfold M_sign_Find_l0
        have : IntKind.i64.wrap ((k : Int) + 1) = ((k + 1 : Nat) : Int) := by rw [wrap64 _ (by omega) (by omega)]; rfl
        simp [hlt, runeAt_eq, runeLen_eq, he, this]
  obtain ⟨y, h1, h2⟩ := loop s.length 0 0 (by omega) (by omega) (by omega)
  unfold M_sign_Find
  refine h1.run.bind ?_
  refine Tends.of fun F => ?_
  rw [List.drop_zero] at h2
  rw [← h2]
  cases y <;> rfl

/-! ### are all of some sorts? -/

theorem index_tends (l : List Int) (hl : l.length ≤ 1000000000000) (v : Int) : Tends (fun F => M_slices_Index_int_int F (l, v)) (findFrom v 0 l) := by
  have loop : ∀ (t pre : List Int), l = pre ++ t → ∃ y, TendsL M_slices_Index_int_int_l0 (l, v, (l.length : Int), (pre.length : Int), ()) y ∧ sumC y (fun _ => (-1 : Int)) (fun v => v.1) = findFrom v pre.length t := by
    intro t
    induction t with
    | nil =>
      intro pre h
      simp only [List.append_nil] at h
      subst h
      refine ⟨.inl (), TendsL.fin (Tends.of fun F => ?_), rfl⟩
      unfold M_slices_Index_int_int_l0
      simp
    | cons x t ih =>
      intro pre h
      have hlen : l.length = pre.length + (t.length + 1) := by rw [h]; simp
      have h1 : (pre.length : Int) < (l.length : Int) := by omega
      have hi : idx l (pre.length : Int) = some x := by rw [h]; exact idx_mid pre t x
      simp only [findFrom]
      by_cases he : x = v
      · rw [if_pos he]
        refine ⟨.inr ((pre.length : Int), ()), TendsL.fin (Tends.of fun F => ?_), rfl⟩
        unfold M_slices_Index_int_int_l0
        simp [h1, hi, he]
      · rw [if_neg he]
        obtain ⟨y, q1, q2⟩ := ih (pre ++ [x]) (by rw [h]; simp)
        refine ⟨y, TendsL.step (Tends.of fun F => ?_) q1, by simpa using q2⟩
        unfold M_slices_Index_int_int_l0
        have he' : ¬ v = x := fun e => he e.symm
        have hw : IntKind.i64.wrap ((pre.length : Int) + 1) = ((pre.length + 1 : Nat) : Int) := by rw [wrap64 _ (by omega) (by omega)]; rfl
        simp [h1, hi, he', hw]
  obtain ⟨y, h1, h2⟩ := loop l [] rfl
  unfold M_slices_Index_int_int
  refine h1.run.bind ?_
  refine Tends.of fun F => ?_
  rw [← (show _ = findFrom v 0 l from h2)]
  cases y <;> rfl

theorem findFrom_mem (v : Int) : ∀ (l : List Int) (k : Nat), decide (0 ≤ findFrom v k l) = decide (v ∈ l)
  | [], k => by simp [findFrom]
  | x :: t, k => by
    unfold findFrom
    by_cases h : x = v
    · rw [if_pos h]
      have : (0 : Int) ≤ (k : Int) := by omega
      simp [this, h]
    · rw [if_neg h, findFrom_mem v t (k + 1)]
      have h' : ¬ v = x := fun e => h e.symm
      simp [h']

theorem contains_tends (l : List Int) (hl : l.length ≤ 1000000000000) (v : Int) : Tends (fun F => M_slices_Contains_int_int F (l, v)) (decide (v ∈ l)) := by
  unfold M_slices_Contains_int_int
  refine (index_tends l hl v).bind ?_
  exact Tends.of fun F => by rw [findFrom_mem]

/-- Are all of these sorts? -/
def onlyL (sorts : List Int) (l : List Int) : Bool := l.all fun x => decide (sortI x ∈ sorts)

theorem only_tends (s : List UInt8) (sorts : List Int) (hl : sorts.length ≤ 1000000000000) : Tends (fun F => M_sign_Only F (s, sorts)) (onlyL sorts ((signs s).map (·.1))) := by
  have loop : ∀ (n p : Nat), s.length - p ≤ n → p ≤ s.length →
      ∃ y, TendsL M_sign_Only_l0 (sorts, (), (s, p), ()) y ∧ sumC y (fun _ => true) (fun v => v.1) = onlyL sorts ((signs (s.drop p)).map (·.1)) := by
    intro n
    induction n with
    | zero =>
      intro p hn hp
      have hpe : p = s.length := by omega
      subst hpe
      refine ⟨.inl (), TendsL.fin (Tends.of fun F => ?_), by rw [List.drop_length, signs_nil]; rfl⟩
      unfold M_sign_Only_l0
      simp
    | succ n ih =>
      intro p hn hp
      by_cases hlt : p < s.length
      case neg => exact ih p (by omega) hp
      have hpos := decodeL_pos (s.drop p)
      have hnx := next_le hlt
      rw [signs_cons (drop_ne hlt), drop_next]
      have hc := contains_tends sorts hl (sortI ((decodeL (s.drop p)).1 : Int))
      by_cases he : sortI ((decodeL (s.drop p)).1 : Int) ∈ sorts
      · obtain ⟨y, h1, h2⟩ := ih (p + (decodeL (s.drop p)).2) (by omega) hnx
        refine ⟨y, TendsL.step ?_ h1, by rw [h2]; simp [onlyL, he]⟩
        unfold M_sign_Only_l0
        simp only [hlt, decide_true, if_true, sort_eq, Option.bind_some, runeAt_eq, runeLen_eq]
        refine hc.bind ?_
        exact Tends.of fun F => by simp [he]
      · refine ⟨.inr (false, ()), TendsL.fin ?_, by simp [onlyL, he, sumC]⟩
        unfold M_sign_Only_l0
        simp only [hlt, decide_true, if_true, sort_eq, Option.bind_some, runeAt_eq, runeLen_eq]
        refine hc.bind ?_
        exact Tends.of fun F => by simp [he]
  obtain ⟨y, h1, h2⟩ := loop s.length 0 (by omega) (by omega)
  unfold M_sign_Only
  refine h1.run.bind ?_
  refine Tends.of fun F => ?_
  rw [List.drop_zero] at h2
  rw [← h2]
  cases y <;> rfl

/-! ### the law -/

theorem swl0 (s : List UInt8) (r : Int) (sorts : List Int) (w : List (List UInt8)) (hw : w.length ≤ 1000000000000) :
    TendsL M_conciergelaw04_SignWords_l0 (s, r, sorts, w, w, (w.length : Int), 0, ()) (.inl (s, r, sorts, ())) := by
  have loop : ∀ (t pre : List (List UInt8)), w = pre ++ t → TendsL M_conciergelaw04_SignWords_l0 (s, r, sorts, w, w, (w.length : Int), (pre.length : Int), ()) (.inl (s, r, sorts, ())) := by
    intro t
    induction t with
    | nil =>
      intro pre h
      simp only [List.append_nil] at h
      subst h
      refine TendsL.fin (Tends.of fun F => ?_)
      unfold M_conciergelaw04_SignWords_l0
      simp
    | cons x t ih =>
      intro pre h
      have hlen : w.length = pre.length + (t.length + 1) := by rw [h]; simp
      have h1 : (pre.length : Int) < (w.length : Int) := by omega
      have hi : idx w (pre.length : Int) = some x := by rw [h]; exact idx_mid pre t x
      refine TendsL.step (Tends.of fun F => ?_) (ih (pre ++ [x]) (by rw [h]; simp))
      unfold M_conciergelaw04_SignWords_l0
      have hw : IntKind.i64.wrap ((pre.length : Int) + 1) = ((pre.length + 1 : Nat) : Int) := by rw [wrap64 _ (by omega) (by omega)]; rfl
      simp [h1, hi, hw]
  exact loop w [] rfl

theorem swl1 (s : List UInt8) (r : Int) (sorts L : List Int) (hs : sorts.length ≤ 1000000000000) (find : Int) (only : Bool) (i x : Int) (hx : idx L i = some x) :
    TendsL M_conciergelaw04_SignWords_l1 (s, r, sorts, L, find, only, i, false, sorts, (sorts.length : Int), 0, ()) (s, r, sorts, L, find, only, i, decide (sortI x ∈ sorts), ()) := by
  have loop : ∀ (t pre : List Int) (met : Bool), sorts = pre ++ t → TendsL M_conciergelaw04_SignWords_l1 (s, r, sorts, L, find, only, i, met, sorts, (sorts.length : Int), (pre.length : Int), ()) (s, r, sorts, L, find, only, i, met || decide (sortI x ∈ t), ()) := by
    intro t
    induction t with
    | nil =>
      intro pre met h
      simp only [List.append_nil] at h
      subst h
      refine TendsL.fin (Tends.of fun F => ?_)
      unfold M_conciergelaw04_SignWords_l1
      simp
    | cons y t ih =>
      intro pre met h
      have hlen : sorts.length = pre.length + (t.length + 1) := by rw [h]; simp
      have h1 : (pre.length : Int) < (sorts.length : Int) := by omega
      have hi : idx sorts (pre.length : Int) = some y := by rw [h]; exact idx_mid pre t y
      have hw : IntKind.i64.wrap ((pre.length : Int) + 1) = ((pre.length + 1 : Nat) : Int) := by rw [wrap64 _ (by omega) (by omega)]; rfl
      cases met with
      | true =>
        have := ih (pre ++ [y]) true (by rw [h]; simp)
        refine TendsL.step (Tends.of fun F => ?_) (by simpa using this)
        unfold M_conciergelaw04_SignWords_l1
        simp [h1, hi, hw]
      | false =>
        have := ih (pre ++ [y]) (decide (y = sortI x)) (by rw [h]; simp)
        have he : (decide (y = sortI x) || decide (sortI x ∈ t)) = (false || decide (sortI x ∈ y :: t)) := by
          rw [Bool.eq_iff_iff]
          simp
          constructor
          · rintro (h | h)
            · exact .inl h.symm
            · exact .inr h
          · rintro (h | h)
            · exact .inl h.symm
            · exact .inr h
        rw [he] at this
        refine TendsL.step (Tends.of fun F => ?_) this
        unfold M_conciergelaw04_SignWords_l1
        simp [h1, hi, hw, hx, refSort_eq]
  have := loop sorts [] false rfl
  simpa using this

theorem swl2 (s : List UInt8) (r : Int) (hr : IntKind.i64.wrap r = r) (sorts L : List Int) (hs : sorts.length ≤ 1000000000000) (hL : L.length ≤ 1000000000000) :
    TendsL M_conciergelaw04_SignWords_l2 (s, r, sorts, L, -1, true, (L.length : Int) - 1, ()) (s, r, sorts, findFrom r 0 L, onlyL sorts L, ()) := by
  have loop : ∀ (k : Nat), k ≤ L.length → TendsL M_conciergelaw04_SignWords_l2 (s, r, sorts, L, findFrom r k (L.drop k), onlyL sorts (L.drop k), (k : Int) - 1, ()) (s, r, sorts, findFrom r 0 L, onlyL sorts L, ()) := by
    intro k
    induction k with
    | zero =>
      intro _
      refine TendsL.fin (Tends.of fun F => ?_)
      unfold M_conciergelaw04_SignWords_l2
      simp
    | succ k ih =>
      intro hk
      have hlt : k < L.length := by omega
      have hi : idx L (k : Int) = some L[k] := by rw [idx_nat]; exact List.getElem?_eq_getElem hlt
      have hd : L.drop k = L[k] :: L.drop (k + 1) := List.drop_eq_getElem_cons hlt
      have h0 : ((k + 1 : Nat) : Int) - 1 = (k : Int) := by omega
      have hge : (0 : Int) ≤ (k : Int) := by omega
      have hw : IntKind.i64.wrap ((k : Int) - 1) = (k : Int) - 1 := wrap64 _ (by omega) (by omega)
      have ih' := ih (by omega)
      rw [hd] at ih'
      simp only [findFrom, onlyL, List.all_cons] at ih'
      rw [h0]
      refine TendsL.step ?_ ih'
      unfold M_conciergelaw04_SignWords_l2
      simp only [hge, decide_true, if_true, hi, Option.bind_some, hr, some_ite, prod_ite, ite_self, decide_eq_true_eq]
      refine (swl1 s r sorts L hs _ _ (k : Int) L[k] hi).run.bind ?_
      refine Tends.of fun F => ?_
      simp only [hw, onlyL]
      generalize ((L.drop (k + 1)).all fun x => decide (sortI x ∈ sorts)) = q
      by_cases hm : sortI L[k] ∈ sorts
      · cases q <;> simp [hm]
      · simp [hm]
  have := loop L.length (Nat.le_refl _)
  simpa [findFrom, onlyL] using this

theorem pure_conciergelaw04_SignWords (s : List UInt8) (_hs : s.length ≤ 140737488351232) (r : Int) (hr : (Lit.int .i32 r).wf = true) (sorts : List Int) (_hl : sorts.length ≤ 9223372036854775807) :
    ∃ F, M_conciergelaw04_SignWords F (s, r, sorts) = some true := by
  have hb : -2147483648 ≤ r ∧ r ≤ 2147483647 := by simpa [Lit.wf, IntKind.min, IntKind.max, IntKind.signed, IntKind.bits] using hr
  refine Tends.ex (m := fun F => M_conciergelaw04_SignWords F (s, r, sorts)) ?_
  unfold M_conciergelaw04_SignWords
  refine awake4.bind ?_
  simp only [Bool.not_true, Bool.false_eq_true, if_false, some_ite, prod_ite, ite_self, Option.bind_some]
  by_cases h1 : (100 : Int) < (s.length : Int)
  · simp only [h1, decide_true, Bool.true_eq_false, if_false, if_true]
    exact Tends.ret true
  · by_cases h2 : (5 : Int) < (sorts.length : Int)
    · simp only [h1, h2, decide_true, decide_false, if_true]
      exact Tends.ret true
    · simp only [h1, h2, decide_false, if_true, Bool.false_eq_true, if_false]
      have hsl := signs_len s
      have hwl := wordsL_len (signs s) []
      refine (words_tends s (by omega)).bind ?_
      refine (refWords_tends s (by omega)).bind ?_
      simp only [decide_true, Bool.not_true, Bool.false_eq_true, if_false]
      refine (swl0 s r sorts _ (by omega)).run.bind ?_
      simp only [sumC_inl]
      refine (signs_tends s (by omega)).bind ?_
      dsimp only
      have hwn : IntKind.i64.wrap (((((signs s).map (·.1)).length : Nat) : Int) - 1) = ((((signs s).map (·.1)).length : Nat) : Int) - 1 := wrap64 _ (by omega) (by simp; omega)
      rw [hwn]
      refine (swl2 s r (wrap64 r (by omega) (by omega)) sorts _ (by omega) (by simp; omega)).run.bind ?_
      dsimp only
      refine Tends.bind (r := (true, ())) ?_ (Tends.ret true)
      refine (find_tends s (by omega) r).bind ?_
      simp only [decide_true, if_true]
      refine (only_tends s sorts (by omega)).bind ?_
      exact Tends.of fun F => by simp

end Go.Vm
