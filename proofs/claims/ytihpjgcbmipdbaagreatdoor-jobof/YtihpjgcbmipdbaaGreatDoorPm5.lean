import Derived.Test.YtihpjgcbmipdbaaGreatDoorPr7
import Derived.Test.YtihpjgcbmipdbaaGreatDoorPjob1
import Derived.Test.YtihpjgcbmipdbaaGreatDoorFlaw23
import Derived.Test.YtihpjgcbmipdbaaGreatDoorPm4
import Derived.Test.YtihpjgcbmipdbaaGreatDoorFlaw29
/- Programs: the wake, and the laws of programs there and back, of any text, of what is next. No condition but on lengths. -/
namespace Go.Vm
open Go.Proofs
open Go.Lib (itoa decDigits)
set_option linter.unusedVariables false
set_option linter.unusedSimpArgs false
/-! ### the same -/
theorem small1_t (e : EnT) : Tends (fun F => M_conciergelaw18_Small F ([(0, e)], 1)) (smallE e) := by
 have h := small_t [(0, e)] 1 (by simp)
 simpa using h
end Go.Vm
/- Jobs: the wake, small cases, the laws of what a job is made of and of failing. No condition. -/
namespace Go.Vm
open Go.Proofs
set_option linter.unusedVariables false
set_option linter.unusedSimpArgs false
/-! ### the wake -/
abbrev aPr : By := [48, 49, 50, 51, 52, 53, 54, 55, 56, 57, 97, 98, 99, 100, 101, 102, 48, 49, 50, 51, 52, 53, 54, 55, 56, 57, 97, 98, 99, 100, 101, 102]
def aE : Ent := ⟨0, [107], 1, 1, 2, 0, aPr, 9, 20, 0, [], [71, 69, 84], [47], []⟩
abbrev aP : List PhT := [(4, [], 200, [111, 107], ())]
abbrev aJ : JbT := (3, 4, 0, [107], 1, 2, false, 0, ())
abbrev aC : CfT := (0, 0, 0, 0, 0, 0, ())
theorem key_k : keyF [107] = true := by
 unfold keyF
 rw [if_neg (by decide), signs_ascii _ (by decide)]
 kernel_rfl
theorem meth_g : methF [71, 69, 84] = ([71, 69, 84], true) := by kernel_rfl
theorem path_r : pathF [47] = ([47], true) := by
 rw [pathF_in (by decide)]
 have hw : walkP (splitL []) [] = some [] := by rw [splitL_nil, walkP, readF_nil, if_neg (by simp), if_pos (.inl rfl), walkP]
 rw [hw]
 rfl
theorem aE_may : mayB aE = true := by
 unfold mayB namedB restB askedB numsB
 simp [aE, key_k, meth_g, path_r]
theorem aD_may : mayB (doneE aE 200 [111, 107] 5 aC) = true := by
 have hu := untilT_in 5 (ttlT aC)
 unfold mayB namedB restB numsB doneE overE
 simp [aE, key_k, hu.1, hu.2]
theorem a_may : mayG aP = true := by kernel_rfl
theorem a_cut : cutP [111, 107] = some [(false, [111], ()), (false, [107], ())] := by kernel_rfl
theorem a_fill : fillT [111, 107] aE.t = [111, 107] := by
 unfold fillT
 rw [if_neg (by decide), a_cut]
 show outL ((signs [111, 107]).map (·.1)) [] = _
 rw [signs_ascii _ (by decide)]
 kernel_rfl
theorem a_next : nextT aP aE.t = ((2, 200, [111, 107], 0, [], 0, 0, 0, [], [], ()), 0) := by
 unfold nextT
 rw [a_may, if_neg (by decide), if_neg (by decide)]
 show ((doT (4, [], 200, [111, 107], ()) aE.t, 0) : DoT × Int) = _
 unfold doT
 rw [if_neg (by decide), if_neg (by decide), if_neg (by decide)]
 show (((2, 200, fillT [111, 107] aE.t, 0, [], 0, 0, 0, [], [], ()), 0) : DoT × Int) = _
 rw [a_fill]
theorem a_step : stepP aJ aE aP 5 aC = mkPl 4 (doneE aE 200 [111, 107] 5 aC) zCa (3, 4, 200, [111, 107], 0, 1, ()) := by
 have ho : ownsB aJ aE 5 = true := by decide
 have hk : okP aE aJ.to = 0 := by
  unfold okP
  rw [aE_may]
  decide
 have hf : finE aE aJ.to 200 [111, 107] 5 aC = (doneE aE 200 [111, 107] 5 aC, 0) := by
  unfold finE
  rw [if_pos hk]
  exact if_pos aD_may
 unfold stepP
 rw [ho, if_neg (by decide), if_neg (by decide), a_next, if_neg (by decide), if_neg (by decide), if_neg (by decide)]
 show putP aJ 4 (finE aE aJ.to 200 [111, 107] 5 aC) (3, 4, 200, [111, 107], 0, 1, ()) = _
 rw [hf]
 rfl
theorem a_step2 : stepP aJ aE aP 9 aC = dropP aJ := by
 have ho : ownsB aJ aE 9 = false := by decide
 unfold stepP
 rw [ho, if_pos rfl]
theorem a_small : smallT aE := ⟨by decide, by decide, by decide, by decide⟩
theorem a_bnd : ∀ x ∈ aP, bndP x := fun x hx => right_bnd ((may_right a_may).1 x hx)
theorem awake29_t : Tends (fun F => M_conciergelaw29_awake F ()) true := by
 have h1 := step_t aJ aE aP 5 aC a_small (by decide) a_bnd
 have h2 := step_t aJ aE aP 9 aC a_small (by decide) a_bnd
 rw [a_step] at h1
 rw [a_step2] at h2
 unfold M_conciergelaw29_awake
 refine Tends.bind (.of fun F => rfl) (Tends.bind h1 (Tends.bind h2 (.of fun F => ?_)))
 rfl
/-! ### cases -/
abbrev RqT := Int × Int × Int × By × By × By × By × Unit
theorem timeT_min (n : Int) : (if (if 1099511627776 < n then 1099511627776 else n) < 0 then 0 else if 1099511627776 < n then 1099511627776 else n) = timeT n := by
 unfold timeT brT
 by_cases h1 : 1099511627776 < n
 ·rw [if_pos h1, if_neg (by decide), if_neg (by omega)]
 ·rw [if_neg h1]
theorem jobOf_t (r : RqT) (e : Ent) (now : Int) : Tends (fun F => M_conciergelaw29_JobOf F (r, e.t, now)) true := by
 unfold M_conciergelaw29_JobOf
 refine Tends.bind awake29_t (Tends.neg (by decide) (Tends.bind (small1_t e.t) ?_))
 cases smallE e.t with
 | false => exact Tends.pos rfl (.ret _)
 | true =>
  refine Tends.neg (by decide) (Tends.bind (.of fun F => rfl) ?_)
  refine Tends.bind (r := ((true, ()) : Bool × Unit)) (Tends.pos (by simp) ?_) (.of fun F => rfl)
  have ho := fun F => owns_eq F (r.1, r.2.1, e.te, e.key, e.ep, e.tk, false, 0, ()) e now
  have hh : ownsB (r.1, r.2.1, e.te, e.key, e.ep, e.tk, false, 0, ()) e now = heldB e now := by
   unfold ownsB mineE
   simp
  rw [hh] at ho
  refine Tends.bind (.of ho) ?_
  by_cases h1 : e.st = 1
  ·refine Tends.pos (decide_eq_true h1) (.of fun F => ?_)
   have hb : heldB e now = decide (timeT now < e.le) := by unfold heldB; rw [decide_eq_true h1, Bool.true_and]
   show some (heldB e now == decide ((if (if 1099511627776 < now then 1099511627776 else now) < 0 then 0 else if 1099511627776 < now then 1099511627776 else now) < e.le), ()) = _
   rw [timeT_min, hb, beq_self_eq_true]
  ·refine Tends.neg (by show ¬ decide (e.st = 1) = true; rw [decide_eq_true_eq]; exact h1) (.of fun F => ?_)
   have hb : heldB e now = false := by unfold heldB; rw [decide_eq_false h1, Bool.false_and]
   rw [hb]
   rfl
theorem pure_conciergelaw29_JobOf (r : RqT) (e : En) (now : Int) : ∃ F, M_conciergelaw29_JobOf F (r, e, now) = some true := by
 obtain ⟨x, rfl⟩ := Ent.t_surj e
 exact (jobOf_t r x now).ex
/-! ### failing -/
abbrev PlT.st (x : PlT) : Int := x.2.2.2.1
end Go.Vm
