/- The plain law SignTexts: cutting, and the law. No condition. -/
import Derived.Test.YtblbmkhlnaaopaaPtexts
namespace Go.Vm
open Go.Lib (decodeL decodeN decodeL_N decode_N decodeN_shape decodeL_le)
set_option linter.unusedVariables false
set_option linter.unusedSimpArgs false

theorem ats_le : ∀ (L : List (Int × List UInt8)) (p m : Nat), m < L.length → ∃ q : Nat, (ats p L)[m]? = some (q : Int) ∧ q ≤ p + (L.flatMap (·.2)).length
  | x :: t, p, 0, _ => ⟨p, rfl, by omega⟩
  | x :: t, p, m + 1, h => by
    obtain ⟨q, h1, h2⟩ := ats_le t (p + x.2.length) m (by simpa using h)
    refine ⟨q, by simpa [ats] using h1, ?_⟩
    rw [List.flatMap_cons, List.length_append]
    omega

def atOf (p : Nat) (L : List (Int × List UInt8)) (m : Nat) : Nat := ((ats p L).getD m 0).toNat

def cutR (s : List UInt8) (n : Int) (k p : Nat) (L : List (Int × List UInt8)) : List UInt8 × Int × Unit ⊕ List UInt8 × Unit :=
  if L ≠ [] ∧ n < (k : Int) + L.length then .inr (s.take (atOf p L (n - k).toNat), ()) else .inl (s, n, ())

theorem cutLoop (s : List UInt8) (hs : s.length ≤ 100000000000) (n : Int) (p : Nat) (hp : p ≤ s.length) (k : Nat) (hk : k + (s.length - p) ≤ 1000000000000) :
    TendsL M_sign_Cut_l0 (s, n, (k : Int), (), (s, p), ()) (cutR s n k p (signs (s.drop p))) := by
  have main : ∀ d p k, s.length - p ≤ d → p ≤ s.length → k + (s.length - p) ≤ 1000000000000 → TendsL M_sign_Cut_l0 (s, n, (k : Int), (), (s, p), ()) (cutR s n k p (signs (s.drop p))) := by
    intro d
    induction d with
    | zero =>
      intro p k hn hp hk
      have : p = s.length := by omega
      subst this
      refine TendsL.fin (Tends.of fun F => ?_)
      unfold M_sign_Cut_l0 cutR
      simp [signs_nil]
    | succ d ih =>
      intro p k hn hp hk
      by_cases hlt : p < s.length
      · have hpos := decodeL_pos (s.drop p)
        have hnx := next_le hlt
        rw [signs_cons (drop_ne hlt), drop_next]
        by_cases hc : n ≤ (k : Int)
        · refine TendsL.fin (Tends.of fun F => ?_)
          have hsub : sub s 0 (p : Int) = some (s.take p) := by have := sub_nat s 0 p (by omega) hp; simpa using this
          have e : (n - (k : Int)).toNat = 0 := by omega
          have ec : ∀ x L, cutR s n k p (x :: L) = .inr (s.take p, ()) := by
            intro x L
            unfold cutR
            rw [if_pos ⟨by simp, by simp only [List.length_cons]; omega⟩, e]
            simp [atOf, ats]
          rw [ec]
          unfold M_sign_Cut_l0
          simp only [hlt, hc, decide_true, if_true, hsub, Option.bind_some]
        · have w : IntKind.i64.wrap ((k : Int) + 1) = ((k + 1 : Nat) : Int) := by rw [wrap64 _ (by omega) (by omega)]; rfl
          refine TendsL.step (x' := (s, n, ((k + 1 : Nat) : Int), (), (s, p + (decodeL (s.drop p)).2), ())) (Tends.of fun F => ?_) ?_
          · unfold M_sign_Cut_l0
            simp only [hlt, hc, decide_true, decide_false, Bool.false_eq_true, if_false, if_true, runeLen_eq, w]
          · have := ih (p + (decodeL (s.drop p)).2) (k + 1) (by omega) hnx (by omega)
            have e : cutR s n k p ((((decodeL (s.drop p)).1 : Int), (s.drop p).take (decodeL (s.drop p)).2) :: signs (s.drop (p + (decodeL (s.drop p)).2))) = cutR s n (k + 1) (p + (decodeL (s.drop p)).2) (signs (s.drop (p + (decodeL (s.drop p)).2))) := by
              generalize signs (s.drop (p + (decodeL (s.drop p)).2)) = L
              unfold cutR atOf
              have e2 : (n - (k : Int)).toNat = (n - ((k + 1 : Nat) : Int)).toNat + 1 := by omega
              rw [e2]
              simp only [ats, take_len hlt, List.getD_cons_succ, List.length_cons]
              by_cases hL : L = []
              · subst hL
                rw [if_neg (by simp; omega), if_neg (by simp)]
              · by_cases hq : n < ((k + 1 : Nat) : Int) + (L.length : Int)
                · rw [if_pos ⟨by simp, by omega⟩, if_pos ⟨hL, hq⟩]
                · rw [if_neg (by intro h; omega), if_neg (by intro h; omega)]
            rw [e]
            exact this
      · have : p = s.length := by omega
        subst this
        refine TendsL.fin (Tends.of fun F => ?_)
        unfold M_sign_Cut_l0 cutR
        simp [signs_nil]
  exact main _ p k (Nat.le_refl _) hp hk

/-- A text's first n signs. -/
def cutB (s : List UInt8) (n : Int) : List UInt8 := if n < ((signs s).length : Int) then if 0 < n then s.take (atOf 0 (signs s) n.toNat) else [] else s

theorem signs_none {s : List UInt8} (h : signs s = []) : s = [] := by
  have := signs_bytes s
  rw [h] at this
  simpa using this.symm

theorem cut_tends (s : List UInt8) (hs : s.length ≤ 100000000000) (n : Int) : Tends (fun F => M_sign_Cut F (s, n)) (cutB s n) := by
  unfold M_sign_Cut
  have := cutLoop s hs n 0 (by omega) 0 (by omega)
  rw [List.drop_zero] at this
  refine this.run.bind ?_
  refine Tends.of fun F => ?_
  unfold cutR cutB
  by_cases h0 : signs s = []
  · have hs0 := signs_none h0
    rw [if_neg (by intro h; exact h.1 h0)]
    simp only [sumC_inl, hs0, h0, signs_nil, List.length_nil, decide_eq_true_eq]
    repeat' split
    all_goals first | rfl | omega
  · by_cases h1 : n < ((signs s).length : Int)
    · rw [if_pos ⟨h0, by simpa using h1⟩, if_pos h1]
      simp only [sumC_inr]
      split
      · simp
      · rename_i h2
        have e : (n - ((0 : Nat) : Int)).toNat = 0 := by omega
        rw [e]
        cases hL : signs s with
        | nil => exact (h0 hL).elim
        | cons x t => simp [atOf, ats]
    · rw [if_neg (by intro h; have := h.2; simp at this; omega), if_neg h1]
      simp only [sumC_inl, decide_eq_true_eq]
      split
      · have hpos : 0 < (signs s).length := List.length_pos_iff.2 h0
        omega
      · rfl

theorem textsLoop (s : List UInt8) (r : Int) (a cut : List UInt8) (ns : List Nat) (hns : ∀ c ∈ ns, okR c) (hn : ns.length ≤ 1000000000) (N : List Int) (hN : N = ns.map fun c : Nat => (c : Int)) (acc : List UInt8) (k : Nat) (hk : k ≤ ns.length) (ho : acc.length + 4 * (ns.length - k) ≤ 1000000000000) :
    TendsL M_conciergelaw04_SignTexts_l0 (s, r, N, cut, acc, N, (N.length : Int), (k : Int), ()) (s, r, N, cut, (N.drop k).reverse.flatMap enc8 ++ acc, ()) := by
  have hlen : N.length = ns.length := by rw [hN]; simp
  have main : ∀ n k acc, ns.length - k ≤ n → k ≤ ns.length → acc.length + 4 * (ns.length - k) ≤ 1000000000000 →
      TendsL M_conciergelaw04_SignTexts_l0 (s, r, N, cut, acc, N, (N.length : Int), (k : Int), ()) (s, r, N, cut, (N.drop k).reverse.flatMap enc8 ++ acc, ()) := by
    intro n
    induction n with
    | zero =>
      intro k acc hn hk ho
      have : k = N.length := by omega
      subst this
      refine TendsL.fin (Tends.of fun F => ?_)
      unfold M_conciergelaw04_SignTexts_l0
      have h : ¬ ((N.length : Nat) : Int) < (N.length : Int) := by omega
      simp
    | succ n ih =>
      intro k acc hn' hk ho
      by_cases hlt : k < N.length
      · have h : (k : Int) < (N.length : Int) := by omega
        have hkn : k < ns.length := by omega
        obtain ⟨v, hm, hb⟩ : ∃ v : Int, N[k]? = some v ∧ ∀ F, M_conciergeref04_Bytes F v = some (enc8 v) := by
          refine ⟨((ns[k] : Nat) : Int), by rw [hN]; simp [hkn], fun F => refBytes_eq F _ (hns _ (List.getElem_mem hkn))⟩
        have hg : N[k] = v := by rw [List.getElem?_eq_getElem hlt] at hm; exact Option.some.inj hm
        have hl := enc8_len v
        refine TendsL.step (x' := (s, r, N, cut, enc8 v ++ acc, N, (N.length : Int), ((k + 1 : Nat) : Int), ())) (Tends.of fun F => ?_) ?_
        · have w : IntKind.i64.wrap ((k : Int) + 1) = ((k + 1 : Nat) : Int) := by rw [wrap64 _ (by omega) (by omega)]; rfl
          have hL : (enc8 v).length + acc.length ≤ 9223372036854775807 := by omega
          unfold M_conciergelaw04_SignTexts_l0
          simp only [h, decide_true, if_true, idxAt N k _ hm, Option.bind_some, hb, hL, w]
        · have := ih (k + 1) (enc8 v ++ acc) (by omega) (by omega) (by rw [List.length_append]; omega)
          rw [List.drop_eq_getElem_cons hlt, List.reverse_cons, List.flatMap_append, hg]
          simpa using this
      · have : k = N.length := by omega
        subst this
        refine TendsL.fin (Tends.of fun F => ?_)
        unfold M_conciergelaw04_SignTexts_l0
        simp
  exact main _ k acc (Nat.le_refl _) hk ho

theorem ats_len : ∀ (L : List (Int × List UInt8)) (p : Nat), (ats p L).length = L.length
  | [], _ => rfl
  | x :: t, p => by simp [ats, ats_len t]

theorem texts_tends (s : List UInt8) (r : Int) : Tends (fun F => M_conciergelaw04_SignTexts F (s, r)) true := by
  unfold M_conciergelaw04_SignTexts
  refine awake4.bind ?_
  simp only [Bool.not_true, Bool.false_eq_true, if_false]
  by_cases h1 : (100 : Int) < (s.length : Int)
  · simp only [h1, decide_true, if_true]
    exact Tends.ret true
  simp only [h1, decide_false, Bool.false_eq_true, if_false]
  have hs : s.length ≤ 100 := by omega
  have hsl := signs_len s
  refine (signs_tends s (by omega)).bind ?_
  obtain ⟨ns, hok, hns⟩ := signs_nat s
  have hnl : ns.length = (signs s).length := by have := congrArg List.length hns; simpa using this.symm
  generalize hN : (signs s).map (·.1) = N at hns
  have hNl : N.length = (signs s).length := by rw [← hN]; simp
  refine Tends.bind (r := (s, r, N, cutB s r, ())) ?_ ?_
  · refine Tends.of fun F => ?_
    unfold cutB
    simp only [hNl, decide_eq_true_eq]
    by_cases h2 : r < ((signs s).length : Int)
    · rw [if_pos h2, if_pos h2]
      by_cases h3 : 0 < r
      · rw [if_pos h3, if_pos h3]
        obtain ⟨q, e1, e2⟩ := ats_le (signs s) 0 r.toNat (by omega)
        rw [signs_bytes] at e2
        have hr : ((r.toNat : Nat) : Int) = r := by omega
        have hi : idx (ats 0 (signs s)) r = some (q : Int) := by rw [← hr]; exact idxAt _ _ _ e1
        have hsub : sub s 0 (q : Int) = some (s.take q) := by have := sub_nat s 0 q (by omega) (by omega); simpa using this
        have ha : atOf 0 (signs s) r.toNat = q := by unfold atOf; rw [List.getD_eq_getElem?_getD, e1]; simp
        simp only [hi, hsub, Option.bind_some, ha]
      · rw [if_neg h3, if_neg h3]
        rfl
    · rw [if_neg h2, if_neg h2]
  dsimp only
  have hL := textsLoop s r [] (cutB s r) ns hok (by omega) N hns [] 0 (by omega) (by simp; omega)
  rw [List.drop_zero, List.append_nil] at hL
  refine hL.run.bind ?_
  dsimp only
  refine Tends.bind (r := (s, r, cutB s r, N.reverse.flatMap enc8, true, ())) ?_ ?_
  · refine (right_tends s r).bind ?_
    refine (refRight_tends s (by omega) r).bind ?_
    simp only [beq_self_eq_true, if_true]
    refine (count_tends s (by omega)).bind ?_
    exact Tends.of fun F => by simp [hNl]
  dsimp only
  refine Tends.bind (r := (s, N.reverse.flatMap enc8, true, ())) ?_ ?_
  · simp only [if_true]
    refine (cut_tends s (by omega) r).bind ?_
    exact Tends.of fun F => by simp
  dsimp only
  refine Tends.bind (r := (s, N.reverse.flatMap enc8, true, ())) ?_ ?_
  · simp only [if_true]
    refine (fold_tends s (by omega)).bind ?_
    refine (refFold_tends s (by omega)).bind ?_
    exact Tends.of fun F => by simp
  dsimp only
  refine Tends.bind (r := (true, ())) ?_ (Tends.ret true)
  simp only [if_true]
  refine (turn_tends s (by omega)).bind ?_
  rw [hN]
  exact Tends.of fun F => by simp

theorem pure_conciergelaw04_SignTexts (s : List UInt8) (_hs : s.length ≤ 140737488351232) (r : Int) (h : (Lit.int .i64 r).wf = true) : ∃ F, M_conciergelaw04_SignTexts F (s, r) = some true := (texts_tends s r).ex

end Go.Vm
