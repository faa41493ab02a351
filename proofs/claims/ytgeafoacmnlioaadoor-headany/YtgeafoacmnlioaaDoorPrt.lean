/- Right texts, plainly. No condition. -/
import Derived.Test.YtgeafoacmnlioaaDoorPu3
import Derived.Test.YtgeafoacmnlioaaDoorPsort
namespace Go.Vm
open Go.Lib (decodeL decodeN decodeL_N decode_N decodeN_shape decodeL_le)
set_option linter.unusedVariables false
set_option linter.unusedSimpArgs false
def badN (l : List Int) : Bool := l.any fun n => decide (sortI n = 0)
def badR (l : List Int) : Unit ⊕ Bool × Unit := if badN l = true then .inr (false, ()) else .inl ()
theorem badR_nil : badR [] = .inl () := rfl
theorem badR_cons (n : Int) (l : List Int) : badR (n :: l) = if sortI n = 0 then .inr (false, ()) else badR l := by
  unfold badR badN
  by_cases h : sortI n = 0 <;> simp [h]
theorem refRightLoop (ns : List Int) (hn : ns.length ≤ 1000000000000) (k : Nat) (hk : k ≤ ns.length) : TendsL M_conciergeref04_Right_l0 (ns, (k : Int), ()) (badR (ns.drop k)) := by
  have main : ∀ n k, ns.length - k ≤ n → k ≤ ns.length → TendsL M_conciergeref04_Right_l0 (ns, (k : Int), ()) (badR (ns.drop k)) := by
    intro n
    induction n with
    | zero =>
      intro k hn hk
      have : k = ns.length := by omega
      subst this
      refine TendsL.fin (Tends.of fun F => ?_)
      unfold M_conciergeref04_Right_l0
      simp [badR_nil]
    | succ n ih =>
      intro k hn' hk
      by_cases hlt : k < ns.length
      · have h : (k : Int) < (ns.length : Int) := by omega
        have hm : ns[k]? = some ns[k] := by simp [hlt]
        rw [List.drop_eq_getElem_cons hlt, badR_cons]
        by_cases h0 : sortI ns[k] = 0
        · refine TendsL.fin (Tends.of fun F => ?_)
          unfold M_conciergeref04_Right_l0
          simp only [h, decide_true, if_true, idxAt ns k _ hm, refSort_eq, Option.bind_some, h0]
        · rw [if_neg h0]
          refine TendsL.step (x' := (ns, ((k + 1 : Nat) : Int), ())) (Tends.of fun F => ?_) (ih _ (by omega) (by omega))
          have w : IntKind.i64.wrap ((k : Int) + 1) = ((k + 1 : Nat) : Int) := by rw [wrap64 _ (by omega) (by omega)]; rfl
          unfold M_conciergeref04_Right_l0
          simp only [h, decide_true, if_true, idxAt ns k _ hm, refSort_eq, Option.bind_some, h0, decide_false, Bool.false_eq_true, if_false, w]
      · have : k = ns.length := by omega
        subst this
        refine TendsL.fin (Tends.of fun F => ?_)
        unfold M_conciergeref04_Right_l0
        simp [badR_nil]
  exact main _ k (Nat.le_refl _) hk
def rightB (s : List UInt8) (r : Int) : Bool := if s = [] ∨ r < (s.length : Int) then false else sumC (badR ((signs s).map (·.1))) (fun _ => true) fun v => v.1
theorem sumC_some {α β γ : Type} (x : α ⊕ β) (f : α → γ) (g : β → γ) : sumC x (fun a => some (f a)) (fun b => some (g b)) = some (sumC x f g) := by cases x <;> rfl
theorem refRight_tends (s : List UInt8) (hs : s.length ≤ 100000000000) (r : Int) : Tends (fun F => M_conciergeref04_Right F (s, r)) (rightB s r) := by
  unfold M_conciergeref04_Right rightB
  have hl := signs_len s
  by_cases h1 : s = []
  · simp only [h1, List.length_nil, true_or, if_true]
    exact Tends.ret false
  have h1' : ¬ (s.length : Int) < 1 := by have := List.length_pos_iff.2 h1; omega
  by_cases h2 : r < (s.length : Int)
  · simp only [h1, h1', h2, decide_true, decide_false, Bool.true_eq_false, if_false, Option.bind_some, if_true, or_true]
    exact Tends.ret false
  · simp only [h1, h1', h2, decide_true, decide_false, Bool.false_eq_true, if_false, Option.bind_some, if_true, or_self]
    refine (signs_tends s (by omega)).bind ?_
    have := refRightLoop ((signs s).map (·.1)) (by simp; omega) 0 (by omega)
    refine this.run.bind ?_
    rw [List.drop_zero]
    exact Tends.of fun F => sumC_some _ _ _
end Go.Vm
