/- The document's signs of a text, plainly. No condition but on lengths. -/
import Derived.Test.YtgeafoacmnlioaaDoorPu2
namespace Go.Vm
open Go.Lib (decodeL decodeN decodeL_N decode_N decodeN_shape decodeL_le)
set_option linter.unusedVariables false
set_option linter.unusedSimpArgs false
theorem signsLoop (s : List UInt8) (hs : s.length ≤ 1000000000000) (p : Nat) (hp : p ≤ s.length) (out at' : List Int) (ho : out.length + (s.length - p) ≤ 1000000000000) (ha : at'.length + (s.length - p) ≤ 1000000000000) :
    TendsL M_conciergeref04_Signs_l0 (s, (), (), (p : Int), out, at', ()) ((), (), out ++ (signs (s.drop p)).map (·.1), at' ++ ats p (signs (s.drop p)), ()) := by
  have main : ∀ n p out at', s.length - p ≤ n → p ≤ s.length → out.length + (s.length - p) ≤ 1000000000000 → at'.length + (s.length - p) ≤ 1000000000000 →
      TendsL M_conciergeref04_Signs_l0 (s, (), (), (p : Int), out, at', ()) ((), (), out ++ (signs (s.drop p)).map (·.1), at' ++ ats p (signs (s.drop p)), ()) := by
    intro n
    induction n with
    | zero =>
      intro p out at' hn hp ho ha
      have : p = s.length := by omega
      subst this
      refine TendsL.fin (Tends.of fun F => ?_)
      unfold M_conciergeref04_Signs_l0
      have h : ¬ ((s.length : Nat) : Int) < (s.length : Int) := by omega
      simp [h, signs_nil, ats]
    | succ n ih =>
      intro p out at' hn hp ho ha
      by_cases hlt : p < s.length
      · have hpos := decodeL_pos (s.drop p)
        have hnx := next_le hlt
        have h : (p : Int) < (s.length : Int) := by omega
        have e1 : ((out.length : Int) + 1) * 8 ≤ 140737488355328 := by omega
        have e2 : ((at'.length : Int) + 1) * 8 ≤ 140737488355328 := by omega
        rw [signs_cons (drop_ne hlt), drop_next]
        refine TendsL.step (x' := (s, (), (), ((p + (decodeL (s.drop p)).2 : Nat) : Int), out ++ [((decodeL (s.drop p)).1 : Int)], at' ++ [(p : Int)], ())) (Tends.of fun F => ?_) ?_
        · unfold M_conciergeref04_Signs_l0
          have e1' : (out.length + 1) * 8 ≤ 140737488355328 := by omega
          have e2' : (at'.length + 1) * 8 ≤ 140737488355328 := by omega
          simp only [h, decide_true, if_true, sub_to_end s p hp, Option.bind_some, first_eq F _ (drop_ne hlt), List.length_cons, List.length_nil, Nat.zero_add, e1', e2']
          rw [wrap64 _ (by omega) (by omega)]
          rfl
        · have := ih (p + (decodeL (s.drop p)).2) (out ++ [((decodeL (s.drop p)).1 : Int)]) (at' ++ [(p : Int)]) (by omega) hnx (by simp; omega) (by simp; omega)
          simpa [ats, take_len hlt] using this
      · have : p = s.length := by omega
        subst this
        refine TendsL.fin (Tends.of fun F => ?_)
        unfold M_conciergeref04_Signs_l0
        have h : ¬ ((s.length : Nat) : Int) < (s.length : Int) := by omega
        simp [h, signs_nil, ats]
  exact main _ p out at' (Nat.le_refl _) hp ho ha
theorem signs_tends (s : List UInt8) (hs : s.length ≤ 1000000000000) : Tends (fun F => M_conciergeref04_Signs F s) ((signs s).map (·.1), ats 0 (signs s)) := by
  unfold M_conciergeref04_Signs
  have := signsLoop s hs 0 (by omega) [] [] (by simp; omega) (by simp; omega)
  refine this.run.bind ?_
  exact Tends.of fun F => by simp
end Go.Vm
