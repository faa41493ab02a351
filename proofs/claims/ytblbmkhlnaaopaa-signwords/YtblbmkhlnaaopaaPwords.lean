/- The plain law of words: the program's and the document's are one. -/
import Derived.Test.YtblbmkhlnaaopaaPruns
namespace Go.Vm
open Go.Lib (decodeL decodeN decodeL_N decode_N decodeN_shape decodeL_le)
set_option linter.unusedVariables false
set_option linter.unusedSimpArgs false

def blankB (r : Int) : Bool := decide (r = 32 ∨ r = 160 ∨ (8192 ≤ r ∧ r ≤ 8202) ∨ r = 12288)

theorem blankB_eq (F : Nat) (r : Int) : M_sign_blank F r = some (blankB r) := blank_eq F r

theorem sort_blank (r : Int) : decide (sortI r = 1) = blankB r := by
  unfold sortI blankB
  rw [Bool.eq_iff_iff]
  simp only [decide_eq_true_eq]
  repeat' split
  all_goals simp
  all_goals omega

/-- The words: what stands between blanks. -/
def wordsL : List (Int × List UInt8) → List UInt8 → List (List UInt8)
  | [], cur => if cur = [] then [] else [cur]
  | x :: t, cur => if blankB x.1 = true then (if cur = [] then wordsL t [] else cur :: wordsL t []) else wordsL t (cur ++ x.2)

theorem wordsL_len : ∀ (t : List (Int × List UInt8)) (cur : List UInt8), (wordsL t cur).length ≤ t.length + 1
  | [], cur => by unfold wordsL; split <;> simp
  | x :: t, cur => by
    have h1 := wordsL_len t []
    have h2 := wordsL_len t (cur ++ x.2)
    unfold wordsL
    split
    · split
      · simp only [List.length_cons]; omega
      · simp only [List.length_cons]; omega
    · simp only [List.length_cons]; omega

/-- Where a word began, and what it is by now. -/
def Began (s : List UInt8) (p : Nat) (frm : Int) (cur : List UInt8) : Prop := (frm = -1 ∧ cur = []) ∨ ∃ f : Nat, frm = f ∧ f < p ∧ cur = (s.drop f).take (p - f)

theorem take_more (s : List UInt8) (f p k : Nat) (h : f ≤ p) : (s.drop f).take (p - f) ++ (s.drop p).take k = (s.drop f).take (p + k - f) := by
  have : p + k - f = (p - f) + k := by omega
  rw [this, List.take_add, List.drop_drop]
  congr 3
  omega

theorem began_ne {s : List UInt8} {p : Nat} {f : Nat} (h : f < p) (hp : p ≤ s.length) : (s.drop f).take (p - f) ≠ [] := by
  intro e
  have := congrArg List.length e
  simp at this
  omega

theorem wordsLoop (s : List UInt8) (hs : s.length ≤ 1000000000000) : ∀ (n p : Nat) (frm : Int) (cur : List UInt8) (out : List (List UInt8)), s.length - p ≤ n → p ≤ s.length → out.length + (s.length - p) ≤ 1000000000000 → Began s p frm cur →
    ∃ frm' out', TendsL M_sign_Words_l0 (s, (), frm, (), (s, p), out, ()) (s, (), frm', out', ()) ∧
      ((frm' = -1 ∧ out' = out ++ wordsL (signs (s.drop p)) cur) ∨ ∃ f : Nat, frm' = f ∧ f < s.length ∧ out' ++ [s.drop f] = out ++ wordsL (signs (s.drop p)) cur) := by
  intro n
  induction n with
  | zero =>
    intro p frm cur out hn hp ho hb
    have hpe : p = s.length := by omega
    subst hpe
    refine ⟨frm, out, TendsL.fin (Tends.of fun F => ?_), ?_⟩
    · unfold M_sign_Words_l0
      simp
    · rw [List.drop_length, signs_nil]
      unfold wordsL
      rcases hb with ⟨rfl, rfl⟩ | ⟨f, rfl, hf, rfl⟩
      · left; simp
      · right
        refine ⟨f, rfl, hf, ?_⟩
        rw [if_neg (began_ne hf (Nat.le_refl _)), List.take_of_length_le (by simp)]
  | succ n ih =>
    intro p frm cur out hn hp ho hb
    by_cases hlt : p < s.length
    case neg =>
      exact ih p frm cur out (by omega) hp ho hb
    have hpos := decodeL_pos (s.drop p)
    have hnx := next_le hlt
    rw [signs_cons (drop_ne hlt), drop_next]
    unfold wordsL
    dsimp only
    generalize hr : ((decodeL (s.drop p)).1 : Int) = r at *
    generalize hk : (decodeL (s.drop p)).2 = k at *
    have step : ∀ (x' : List UInt8 × Unit × Int × Unit × (List UInt8 × Nat) × List (List UInt8) × Unit) (frm' : Int) (out' : List (List UInt8)),
        (∀ F, M_sign_Words_l0 F (s, (), frm, (), (s, p), out, ()) = some (.inl x')) → TendsL M_sign_Words_l0 x' (s, (), frm', out', ()) → TendsL M_sign_Words_l0 (s, (), frm, (), (s, p), out, ()) (s, (), frm', out', ()) :=
      fun x' frm' out' h h' => TendsL.step (Tends.of h) h'
    by_cases hbl : blankB r = true
    · rw [if_pos hbl]
      rcases hb with ⟨rfl, rfl⟩ | ⟨f, rfl, hf, rfl⟩
      · rw [if_pos rfl]
        obtain ⟨frm', out', h1, h2⟩ := ih (p + k) (-1) [] out (by omega) hnx (by omega) (.inl ⟨rfl, rfl⟩)
        refine ⟨frm', out', step _ _ _ (fun F => ?_) h1, h2⟩
        unfold M_sign_Words_l0
        simp [hlt, blankB_eq, runeAt_eq, runeLen_eq, hr, hk, hbl]
      · rw [if_neg (began_ne hf hp)]
        obtain ⟨frm', out', h1, h2⟩ := ih (p + k) (-1) [] (out ++ [(s.drop f).take (p - f)]) (by omega) hnx (by simp; omega) (.inl ⟨rfl, rfl⟩)
        refine ⟨frm', out', step _ _ _ (fun F => ?_) h1, ?_⟩
        · unfold M_sign_Words_l0
          have e1 : ((out.length + 1) * 16 ≤ 140737488355328) := by omega
          have e2 : (0 : Int) ≤ (f : Int) := by omega
          simp [hlt, blankB_eq, runeAt_eq, runeLen_eq, hr, hk, hbl, sub_nat s f p (by omega) hp, e1, e2]
        · simpa using h2
    · rw [if_neg hbl]
      have hbl' : blankB r = false := by simpa using hbl
      rcases hb with ⟨rfl, rfl⟩ | ⟨f, rfl, hf, rfl⟩
      · obtain ⟨frm', out', h1, h2⟩ := ih (p + k) (p : Int) ((s.drop p).take k) out (by omega) hnx (by omega) (.inr ⟨p, rfl, by omega, by rw [Nat.add_sub_cancel_left]⟩)
        refine ⟨frm', out', step _ _ _ (fun F => ?_) h1, by simpa using h2⟩
        unfold M_sign_Words_l0
        simp [hlt, blankB_eq, runeAt_eq, runeLen_eq, hr, hk, hbl']
      · obtain ⟨frm', out', h1, h2⟩ := ih (p + k) (f : Int) ((s.drop f).take (p + k - f)) out (by omega) hnx (by omega) (.inr ⟨f, rfl, by omega, rfl⟩)
        refine ⟨frm', out', step _ _ _ (fun F => ?_) h1, by rw [take_more s f p k (by omega)]; exact h2⟩
        unfold M_sign_Words_l0
        have e2 : ¬ (f : Int) < 0 := by omega
        simp [hlt, blankB_eq, runeAt_eq, runeLen_eq, hr, hk, hbl', e2]

theorem words_tends (s : List UInt8) (hs : s.length ≤ 1000000000000) : Tends (fun F => M_sign_Words F s) (wordsL (signs s) []) := by
  obtain ⟨frm', out', h1, h2⟩ := wordsLoop s hs s.length 0 (-1) [] [] (by omega) (by omega) (by simp; omega) (.inl ⟨rfl, rfl⟩)
  unfold M_sign_Words
  refine h1.run.bind ?_
  refine Tends.of fun F => ?_
  rcases h2 with ⟨rfl, rfl⟩ | ⟨f, rfl, hf, he⟩
  · simp
  · have hl := congrArg List.length he
    have hw := wordsL_len (signs s) []
    have hsl := signs_len s
    simp only [List.length_append, List.length_cons, List.length_nil, List.drop_zero, Nat.zero_add] at hl
    have e1 : (out'.length + 1) * 16 ≤ 140737488355328 := by omega
    have e2 : (0 : Int) ≤ (f : Int) := by omega
    simp only [List.drop_zero, List.nil_append] at he
    simp [e1, e2, sub_to_end s f (by omega), he]

end Go.Vm
