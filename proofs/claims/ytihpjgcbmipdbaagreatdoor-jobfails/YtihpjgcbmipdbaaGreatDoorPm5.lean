import Derived.Test.YtihpjgcbmipdbaaGreatDoorPr7
import Derived.Test.YtihpjgcbmipdbaaGreatDoorPjob1
import Derived.Test.YtihpjgcbmipdbaaGreatDoorFlaw23
import Derived.Test.YtihpjgcbmipdbaaGreatDoorPm4
import Derived.Test.YtihpjgcbmipdbaaGreatDoorFlaw29
/- Programs: the wake, and the laws of programs there and back, of any text, of what is next. No condition but on lengths. -/
namespace Go.Vm
open Go.Proofs
open Go.Lib (itoa decDigits)
set_option linter.unusedVariables false
set_option linter.unusedSimpArgs false
/-! ### the same -/
theorem small23_bnd {l : List PhT} (h : small23 l = true) : l.length ≤ 10 ∧ ∀ x ∈ l, bndP x := by
 unfold small23 at h
 rw [Bool.and_eq_true, decide_eq_true_eq] at h
 refine ⟨h.1, fun p hp => ?_⟩
 have := List.all_eq_true.1 h.2 p hp
 simp only [Bool.and_eq_true, decide_eq_true_eq] at this
 exact ⟨by omega, by omega⟩
theorem small1_t (e : EnT) : Tends (fun F => M_conciergelaw18_Small F ([(0, e)], 1)) (smallE e) := by
 have h := small_t [(0, e)] 1 (by simp)
 simpa using h
end Go.Vm
/- Jobs: the wake, small cases, the laws of what a job is made of and of failing. No condition. -/
namespace Go.Vm
open Go.Proofs
set_option linter.unusedVariables false
set_option linter.unusedSimpArgs false
/-! ### the wake -/
abbrev aPr : By := [48, 49, 50, 51, 52, 53, 54, 55, 56, 57, 97, 98, 99, 100, 101, 102, 48, 49, 50, 51, 52, 53, 54, 55, 56, 57, 97, 98, 99, 100, 101, 102]
def aE : Ent := ⟨0, [107], 1, 1, 2, 0, aPr, 9, 20, 0, [], [71, 69, 84], [47], []⟩
abbrev aP : List PhT := [(4, [], 200, [111, 107], ())]
abbrev aJ : JbT := (3, 4, 0, [107], 1, 2, false, 0, ())
abbrev aC : CfT := (0, 0, 0, 0, 0, 0, ())
theorem key_k : keyF [107] = true := by
 unfold keyF
 rw [if_neg (by decide), signs_ascii _ (by decide)]
 kernel_rfl
theorem meth_g : methF [71, 69, 84] = ([71, 69, 84], true) := by kernel_rfl
theorem path_r : pathF [47] = ([47], true) := by
 rw [pathF_in (by decide)]
 have hw : walkP (splitL []) [] = some [] := by rw [splitL_nil, walkP, readF_nil, if_neg (by simp), if_pos (.inl rfl), walkP]
 rw [hw]
 rfl
theorem aE_may : mayB aE = true := by
 unfold mayB namedB restB askedB numsB
 simp [aE, key_k, meth_g, path_r]
theorem aD_may : mayB (doneE aE 200 [111, 107] 5 aC) = true := by
 have hu := untilT_in 5 (ttlT aC)
 unfold mayB namedB restB numsB doneE overE
 simp [aE, key_k, hu.1, hu.2]
theorem a_may : mayG aP = true := by kernel_rfl
theorem a_cut : cutP [111, 107] = some [(false, [111], ()), (false, [107], ())] := by kernel_rfl
theorem a_fill : fillT [111, 107] aE.t = [111, 107] := by
 unfold fillT
 rw [if_neg (by decide), a_cut]
 show outL ((signs [111, 107]).map (·.1)) [] = _
 rw [signs_ascii _ (by decide)]
 kernel_rfl
theorem a_next : nextT aP aE.t = ((2, 200, [111, 107], 0, [], 0, 0, 0, [], [], ()), 0) := by
 unfold nextT
 rw [a_may, if_neg (by decide), if_neg (by decide)]
 show ((doT (4, [], 200, [111, 107], ()) aE.t, 0) : DoT × Int) = _
 unfold doT
 rw [if_neg (by decide), if_neg (by decide), if_neg (by decide)]
 show (((2, 200, fillT [111, 107] aE.t, 0, [], 0, 0, 0, [], [], ()), 0) : DoT × Int) = _
 rw [a_fill]
theorem a_step : stepP aJ aE aP 5 aC = mkPl 4 (doneE aE 200 [111, 107] 5 aC) zCa (3, 4, 200, [111, 107], 0, 1, ()) := by
 have ho : ownsB aJ aE 5 = true := by decide
 have hk : okP aE aJ.to = 0 := by
  unfold okP
  rw [aE_may]
  decide
 have hf : finE aE aJ.to 200 [111, 107] 5 aC = (doneE aE 200 [111, 107] 5 aC, 0) := by
  unfold finE
  rw [if_pos hk]
  exact if_pos aD_may
 unfold stepP
 rw [ho, if_neg (by decide), if_neg (by decide), a_next, if_neg (by decide), if_neg (by decide), if_neg (by decide)]
 show putP aJ 4 (finE aE aJ.to 200 [111, 107] 5 aC) (3, 4, 200, [111, 107], 0, 1, ()) = _
 rw [hf]
 rfl
theorem a_step2 : stepP aJ aE aP 9 aC = dropP aJ := by
 have ho : ownsB aJ aE 9 = false := by decide
 unfold stepP
 rw [ho, if_pos rfl]
theorem a_small : smallT aE := ⟨by decide, by decide, by decide, by decide⟩
theorem a_bnd : ∀ x ∈ aP, bndP x := fun x hx => right_bnd ((may_right a_may).1 x hx)
theorem awake29_t : Tends (fun F => M_conciergelaw29_awake F ()) true := by
 have h1 := step_t aJ aE aP 5 aC a_small (by decide) a_bnd
 have h2 := step_t aJ aE aP 9 aC a_small (by decide) a_bnd
 rw [a_step] at h1
 rw [a_step2] at h2
 unfold M_conciergelaw29_awake
 refine Tends.bind (.of fun F => rfl) (Tends.bind h1 (Tends.bind h2 (.of fun F => ?_)))
 rfl
/-! ### cases -/
abbrev CsT := Int × Int × Int × By × Int × Int × Bool × Int × Int × By × Int × Int × Int × Int × By × Int × Int × Int × By × By × By × By × List PhT × Int × By × Int × Int × Int × Int × Int × Int × Int × Int × Int × Int × Int × Unit
def mkC (j : JbT) (e : Ent) (p : List PhT) (r : RpT) (now : Int) (c : CfT) : CsT :=
 (j.1, j.2.1, j.2.2.1, j.2.2.2.1, j.2.2.2.2.1, j.2.2.2.2.2.1, j.2.2.2.2.2.2.1, j.2.2.2.2.2.2.2.1, e.te, e.key, e.st, e.ep, e.tk, e.pt, e.pr, e.le, e.ex, e.su, e.tx, e.me, e.pa, e.bo, p, r.1, r.2.1, r.2.2.1, r.2.2.2.1, r.2.2.2.2.1, r.2.2.2.2.2.1, now, c.1, c.2.1, c.2.2.1, c.2.2.2.1, c.2.2.2.2.1, c.2.2.2.2.2.1, ())
theorem mkC_surj (x : CsT) : ∃ j e p r now c, mkC j e p r now c = x := by
 obtain ⟨a1, a2, a3, a4, a5, a6, a7, a8, b1, b2, b3, b4, b5, b6, b7, b8, b9, b10, b11, b12, b13, b14, p, r1, r2, r3, r4, r5, r6, now, c1, c2, c3, c4, c5, c6, ⟨⟩⟩ := x
 exact ⟨(a1, a2, a3, a4, a5, a6, a7, a8, ()), ⟨b1, b2, b3, b4, b5, b6, b7, b8, b9, b10, b11, b12, b13, b14⟩, p, (r1, r2, r3, r4, r5, r6, ()), now, (c1, c2, c3, c4, c5, c6, ()), rfl⟩
def small29 (j : JbT) (e : Ent) (p : List PhT) (r : RpT) : Bool := smallE e.t && (small23 p && (decide (j.ky.length ≤ 100) && decide (r.2.1.length ≤ 100)))
theorem small29_t (j : JbT) (e : Ent) (p : List PhT) (r : RpT) (now : Int) (c : CfT) : Tends (fun F => M_conciergelaw29_Small F (mkC j e p r now c)) (small29 j e p r) := by
 unfold M_conciergelaw29_Small small29
 have e1 : ∀ a : By, decide ((a.length : Int) ≤ 100) = decide (a.length ≤ 100) := fun a => by rw [decide_eq_decide]; omega
 refine Tends.bind (r := (((), smallE e.t && small23 p, mkC j e p r now c, ()) : Unit × Bool × CsT × Unit)) ?_ ?_
 ·refine Tends.bind (small1_t e.t) ?_
  cases smallE e.t with
  | true => exact Tends.pos rfl (Tends.bind (small23_t p) (.ret _))
  | false => exact Tends.neg Bool.false_ne_true (.ret _)
 cases smallE e.t with
 | false => exact Tends.bind (Tends.neg Bool.false_ne_true (.ret _)) (Tends.bind (Tends.neg Bool.false_ne_true (.ret _)) (.of fun F => rfl))
 | true =>
  cases small23 p with
  | false => exact Tends.bind (Tends.neg Bool.false_ne_true (.ret _)) (Tends.bind (Tends.neg Bool.false_ne_true (.ret _)) (.of fun F => rfl))
  | true =>
   refine Tends.bind (r := (((), decide (j.ky.length ≤ 100), mkC j e p r now c, ()) : Unit × Bool × CsT × Unit)) (Tends.pos rfl (.of fun F => ?_)) ?_
   ·show some ((), decide ((j.ky.length : Int) ≤ 100), mkC j e p r now c, ()) = _
    rw [e1]
   cases decide (j.ky.length ≤ 100) with
   | false => exact Tends.bind (Tends.neg Bool.false_ne_true (.ret _)) (.of fun F => rfl)
   | true =>
    refine Tends.bind (r := ((decide (r.2.1.length ≤ 100), ()) : Bool × Unit)) (Tends.pos rfl (.of fun F => ?_)) (.of fun F => rfl)
    show some (decide ((r.2.1.length : Int) ≤ 100), ()) = _
    rw [e1]
theorem smallE_T {e : Ent} (h : smallE e.t = true) : smallT e := by
 have := small_he e.t h
 exact ⟨this.2.1, this.2.2.1, this.2.2.2, this.1⟩
/-! ### what a job is made of -/
abbrev PlT.st (x : PlT) : Int := x.2.2.2.1
theorem pass_st {e : Ent} {tok now : Int} {c : CfT} (h : (passE e tok now c).2 = 0) : (passE e tok now c).1.st = 1 := by
 unfold passE at h ⊢
 by_cases hk : okP e tok = 0
 ·rw [if_pos hk] at h ⊢
  by_cases h5 : e.pt = 5
  ·rw [if_pos h5] at h; cases h
  ·rw [if_neg h5]; exact (okP_zero hk).1
 ·rw [if_neg hk] at h; exact absurd h hk
theorem fin_st {e : Ent} {tok s now : Int} {t : By} {c : CfT} (h : (finE e tok s t now c).2 = 0) : (finE e tok s t now c).1.st = 2 := by
 unfold finE at h ⊢
 by_cases hk : okP e tok = 0
 ·rw [if_pos hk] at h ⊢
  split at h
  ·rename_i h1; rw [if_pos h1]; rfl
  ·cases h
 ·rw [if_neg hk] at h; exact absurd h hk
theorem rel_st {e : Ent} {tok now : Int} (h : (relE e tok now).2 = 0) : (relE e tok now).1.st = 1 := by
 unfold relE at h ⊢
 by_cases hk : okP e tok = 0
 ·rw [if_pos hk]; exact (okP_zero hk).1
 ·rw [if_neg hk] at h; exact absurd h hk
theorem put_st (j : JbT) (k : Int) (x : Ent × Int) (a : AnT) : (putP j k x a).st = 0 ∨ (x.2 = 0 ∧ (putP j k x a).st = x.1.st) := by
 unfold putP
 by_cases h : x.2 = 0
 ·rw [if_pos h]; exact .inr ⟨h, rfl⟩
 ·rw [if_neg h]; exact .inl rfl
theorem step_st (j : JbT) (e : Ent) (p : List PhT) (now : Int) (c : CfT) : (stepP j e p now c).st ≠ 3 := by
 unfold stepP
 repeat' split
 ·show (0 : Int) ≠ 3; decide
 ·show (0 : Int) ≠ 3; decide
 ·show (0 : Int) ≠ 3; decide
 ·show (0 : Int) ≠ 3; decide
 ·rcases put_st j 3 (passE e j.to now c) zAn with h | ⟨h1, h⟩
  ·rw [h]; decide
  ·rw [h, pass_st h1]; decide
 ·rcases put_st j 4 (finE e j.to (nextT p e.t).1.2.1 (nextT p e.t).1.2.2.1 now c) (j.cl, j.se, (nextT p e.t).1.2.1, (nextT p e.t).1.2.2.1, 0, e.ep, ()) with h | ⟨h1, h⟩
  ·rw [h]; decide
  ·rw [h, fin_st h1]; decide
theorem hear_st (j : JbT) (e : Ent) (p : List PhT) (r : RpT) (now : Int) (c : CfT) : (hearP j e p r now c).st ≠ 2 ∧ ((hearP j e p r now c).st = 3 → r.code = 2 ∧ callsT p e.pt = 0) := by
 unfold hearP
 repeat' split
 ·exact ⟨by show (0 : Int) ≠ 2; decide, fun h => absurd (show (0 : Int) = 3 from h) (by decide)⟩
 ·exact ⟨by show (0 : Int) ≠ 2; decide, fun h => absurd (show (0 : Int) = 3 from h) (by decide)⟩
 ·rcases put_st j 3 (passE e j.to now c) zAn with h | ⟨h1, h⟩
  ·rw [h]; exact ⟨by decide, fun h => absurd h (by decide)⟩
  ·rw [h, pass_st h1]; exact ⟨by decide, fun h => absurd h (by decide)⟩
 ·rename_i hc
  refine ⟨?_, fun _ => hc⟩
  rcases put_st j 4 (failE e j.to) (laterA j) with h | ⟨h1, h⟩
  ·rw [h]; decide
  ·rw [h]
   unfold failE at h1 ⊢
   by_cases hk : okP e j.to = 0
   ·rw [if_pos hk]; show (3 : Int) ≠ 2; decide
   ·rw [if_neg hk] at h1; exact absurd h1 hk
 ·rcases put_st j 4 (relE e j.to now) (laterA j) with h | ⟨h1, h⟩
  ·rw [h]; exact ⟨by decide, fun h => absurd h (by decide)⟩
  ·rw [h, rel_st h1]; exact ⟨by decide, fun h => absurd h (by decide)⟩
theorem jobFails_t (j : JbT) (e : Ent) (p : List PhT) (r : RpT) (now : Int) (c : CfT) : Tends (fun F => M_conciergelaw29_JobFails F (mkC j e p r now c)) true := by
 unfold M_conciergelaw29_JobFails
 refine Tends.bind awake29_t (Tends.neg (by decide) (Tends.bind (small29_t j e p r now c) ?_))
 cases hs : small29 j e p r with
 | false => exact Tends.pos rfl (.ret _)
 | true =>
  unfold small29 at hs
  rw [Bool.and_eq_true, Bool.and_eq_true] at hs
  obtain ⟨hl, hb⟩ := small23_bnd hs.2.1
  have he := smallE_T hs.1
  refine Tends.neg (by decide) ?_
  have h1 := step_t j e p now c he (by omega) hb
  have h2 := hear_t j e p r now c he (by omega)
  have s1 := step_st j e p now c
  have s2 := hear_st j e p r now c
  generalize stepP j e p now c = a at *
  generalize hearP j e p r now c = b at *
  refine Tends.bind (Tends.bind h1 (.ret _)) (Tends.bind (Tends.bind h2 (.ret _)) ?_)
  refine Tends.neg (by show ¬ decide (a.st = 3) = true; rw [decide_eq_true_eq]; exact s1) ?_
  refine Tends.bind (r := (((), false, b, ()) : Unit × Bool × PlT × Unit)) ?_ (Tends.neg Bool.false_ne_true (.of fun F => ?_))
  ·by_cases h3 : b.st = 3
   ·obtain ⟨k1, k2⟩ := s2.2 h3
    refine Tends.pos (decide_eq_true h3) (Tends.pos (by show (!decide (r.code = 2)) = false; rw [decide_eq_true k1]; rfl) (Tends.bind (rcalls_t p e.pt (by omega)) (.of fun F => ?_)))
    rw [k2]
    rfl
   ·exact Tends.neg (by show ¬ decide (b.st = 3) = true; rw [decide_eq_true_eq]; exact h3) (.ret _)
  ·show some (!decide (b.st = 2)) = some true
   rw [decide_eq_false s2.1]
   rfl
theorem pure_conciergelaw29_JobFails (x : CsT) : ∃ F, M_conciergelaw29_JobFails F x = some true := by
 obtain ⟨j, e, p, r, now, c, rfl⟩ := mkC_surj x
 exact (jobFails_t j e p r now c).ex
end Go.Vm
